/- Flips: where nothing lies below, and how many places lie within circles. -/
import Derived.Test.YtjfndjmabhbicaaGreatK5
namespace Go.Proofs.YtjfndjmabhbicaaGreat
open Go Go.RowKit
variable {P:Int->Ac} {H:Int->Int} {V:Int->Prop} {ap:Ap}
def Abi (P:Int->Ac) (H:Int->Int) (V:Int->Prop):Prop :=
 ∀ a b c d,V a->V b->V c->V d->0 < crs (P a) (P b) (P c)->crs (P a) (P b) (P d) < 0->(crs (P b) (P c) (P d)<=0\/crs (P c) (P a) (P d)<=0)->DH P H a b c d < 0
def Cov (P:Int->Ac) (S:Int->Prop) (ap:Ap):Prop:=∀ i j k,ap i j=some k->ap j i=none->∀ d,S d->0<=crs (P i) (P j) (P d)
theorem Tx {i j k l a b:Int} (h:Di ap i j k l a b=none):ap a b=none\/(a=i/\b=j)\/(a=j/\b=i):=by
 unfold Di at h
 by_cases k0:a=i/\b=l
 ·rw [if_pos k0] at h;cases h
 rw [if_neg k0] at h
 by_cases k1:a=l/\b=k
 ·rw [if_pos k1] at h;cases h
 rw [if_neg k1] at h
 by_cases k2:a=k/\b=i
 ·rw [if_pos k2] at h;cases h
 rw [if_neg k2] at h
 by_cases k3:a=j/\b=k
 ·rw [if_pos k3] at h;cases h
 rw [if_neg k3] at h
 by_cases k4:a=k/\b=l
 ·rw [if_pos k4] at h;cases h
 rw [if_neg k4] at h
 by_cases k5:a=l/\b=j
 ·rw [if_pos k5] at h;cases h
 rw [if_neg k5] at h
 by_cases k6:a=i/\b=j
 ·exact .inr (.inl k6)
 rw [if_neg k6] at h
 by_cases k7:a=j/\b=i
 ·exact .inr (.inr k7)
 rw [if_neg k7] at h
 exact .inl h
theorem Au4 (ap:Ap) (i j k l:Int):Di ap i j k l i l=some k:=by unfold Di;simp
theorem Am0 {i j k l:Int} (h1:l≠i):Di ap i j k l l k=some i:=by unfold Di;rw [if_neg (by omega)];simp
theorem Am1 {i j k l:Int} (h1:k≠i) (h2:k≠l) (h3:k≠j) (h4:l≠i):Di ap i j k l k l=some j:=by unfold Di;rw [if_neg (by omega),if_neg (by omega),if_neg (by omega),if_neg (by omega)];simp
theorem Quad.cov {S:Int->Prop} {i j k l} (q:Quad P V ap i j k l) (h:Cov P S ap):Cov P S (Di ap i j k l):=by
 have hk:=q.hk
 have hl:=q.hl
 have a1:=q.tri.rot _ _ _ hk
 have a2:=q.tri.rot2 hk
 have a3:=q.tri.rot _ _ _ hl
 have a4:=q.tri.rot2 hl
 obtain ⟨n1,n2,n3,n4,n5,n6⟩:=q.ne
 intro a b c hc hn d hd
 have hn':ap b a=none\/(b=i/\a=j)\/(b=j/\a=i):=Tx hn
 rcases Nd hc with ⟨rfl,rfl,rfl⟩ | ⟨rfl,rfl,rfl⟩ | ⟨rfl,rfl,rfl⟩ | ⟨rfl,rfl,rfl⟩ | ⟨rfl,rfl,rfl⟩ | ⟨rfl,rfl,rfl⟩ | ⟨h0,h9⟩
 ·exact h _ _ _ a3 (hn'.resolve_right (by omega)) d hd
 ·rw [Am1 n3 n2 n4 n5] at hn;cases hn
 ·exact h _ _ _ a2 (hn'.resolve_right (by omega)) d hd
 ·exact h _ _ _ a1 (hn'.resolve_right (by omega)) d hd
 ·rw [Am0 n5] at hn;cases hn
 ·exact h _ _ _ a4 (hn'.resolve_right (by omega)) d hd
 ·exact h _ _ _ h0 (hn'.resolve_right (by omega)) d hd
theorem Nr (a b c d:Int):DH P H b c a d=DH P H a b c d:=Awk _ _ _ _ _ _ _ _
theorem Uy {a c x y Q s:Int} (h:x*a-y*c = -(Q*s)) (ha:0 < a) (hc:0 < c) (hQ:0 < Q) (hx:0 < x) (hs:0<=s):0 < y:=by
 have e1:=Int.mul_pos hx ha
 have e2:=Int.mul_nonneg (Int.le_of_lt hQ) hs
 exact Cb (x:=c) (by rw [Int.mul_comm];omega) hc
theorem Am2 (hi hj hk hl hd:Int) (i j k l d:Ac):Dt hi hl hk hd i l k d*crs i j k-Dt hi hj hk hd i j k d*crs i l k = -(Dt hi hj hk hl i j k l*crs k i d):=by unfold Dt crs;grind
theorem Am3 (hi hj hk hl hd:Int) (i j k l d:Ac):Dt hi hl hk hd i l k d*crs j i l-Dt hj hi hl hd j i l d*crs i l k = -(Dt hi hj hk hl i j k l*crs i l d):=by unfold Dt crs;grind
theorem Quad.swapQ {i j k l:Int}:DH P H j i l k=DH P H i j k l:=by
 unfold DH
 rw [Atv,Ain,Int.neg_neg]
theorem Quad.conf1 {i j k l d:Int} (hcv:Abi P H V) (q:Quad P V ap i j k l) (hQ:0 < DH P H i j k l) (hd:V d) (hC:0 < DH P H i l k d):0 < DH P H i j k d\/0 < DH P H j i l d:=by
 obtain ⟨vi,vj,vk,ck⟩:=q.tri.ccw _ _ _ q.hk
 obtain ⟨_,_,vl,cl⟩:=q.tri.ccw _ _ _ q.hl
 have p1:=Am2 (H i) (H j) (H k) (H l) (H d) (P i) (P j) (P k) (P l) (P d)
 have p2:=Am3 (H i) (H j) (H k) (H l) (H d) (P i) (P j) (P k) (P l) (P d)
 by_cases g1:0<=crs (P k) (P i) (P d)
 ·exact .inl (Uy p1 ck q.c1 hQ hC g1)
 ·by_cases g2:0<=crs (P i) (P l) (P d)
  ·exact .inr (Uy p2 cl q.c1 hQ hC g2)
  ·have:=hcv i l k d vi vl vk hd q.c1 (by omega) (.inr (by omega))
   omega
theorem Quad.conf2 {i j k l d:Int} (hcv:Abi P H V) (q:Quad P V ap i j k l) (hQ:0 < DH P H i j k l) (hd:V d) (hC:0 < DH P H i l k d) (hE:0 < DH P H j k l d):0 < DH P H i j k d:=by
 obtain ⟨vi,vj,vk,ck⟩:=q.tri.ccw _ _ _ q.hk
 obtain ⟨_,_,vl,cl⟩:=q.tri.ccw _ _ _ q.hl
 have p1:=Am2 (H i) (H j) (H k) (H l) (H d) (P i) (P j) (P k) (P l) (P d)
 have p3:=Am3 (H j) (H i) (H l) (H k) (H d) (P j) (P i) (P l) (P k) (P d)
 by_cases g1:0<=crs (P k) (P i) (P d)
 ·exact Uy p1 ck q.c1 hQ hC g1
 ·by_cases g2:0<=crs (P j) (P k) (P d)
  ·exact Uy p3 ck q.c2 (by have:=Quad.swapQ (P:=P) (H:=H) (i:=i) (j:=j) (k:=k) (l:=l);unfold DH at this hQ;omega) hE g2
  ·exfalso
   have c2':0 < crs (P k) (P l) (P j):=by rw [Al];exact q.c2
   have c1':0 < crs (P k) (P i) (P l):=by have:=q.c1;rw [Al] at this;exact this
   by_cases g3:crs (P k) (P l) (P d)<=0
   ·have:=hcv j k l d vj vk vl hd q.c2 (by omega) (.inl g3)
    omega
   ·have g4:crs (P l) (P k) (P d)<=0:=by rw [Ar];omega
    have:=hcv k i l d vk vi vl hd c1' (by omega) (.inr g4)
    have e:DH P H k i l d=DH P H i l k d:=(Nr k i l d).symm
    omega
theorem Am4 {A B C E:Int->Bool}:∀ {L:List Int},(∀ d∈L,(C d).toNat+(E d).toNat<=(A d).toNat+(B d).toNat)->L.countP C+L.countP E<=L.countP A+L.countP B
 | [],_=>by simp
 | x::r,h=>by
  have h1:=h x List.mem_cons_self
  have h2:=Am4 (L:=r) fun d hd=>h d (List.mem_cons_of_mem _ hd)
  simp only [List.countP_cons]
  cases hA:A x <;> cases hB:B x <;> cases hC:C x <;> cases hE:E x <;> rw [hA,hB,hC,hE] at h1 <;> simp at h1 ⊢ <;> omega
theorem Am5 {A B C E:Int->Bool}:∀ {L:List Int} {x:Int},(∀ d∈L,(C d).toNat+(E d).toNat<=(A d).toNat+(B d).toNat)->x∈L->(C x).toNat+(E x).toNat < (A x).toNat+(B x).toNat->L.countP C+L.countP E < L.countP A+L.countP B
 | [],_,_,hx,_=>by cases hx
 | y::r,x,h,hx,hlt=>by
  have h1:=h y List.mem_cons_self
  have h2:∀ d∈r,(C d).toNat+(E d).toNat<=(A d).toNat+(B d).toNat:=fun d hd=>h d (List.mem_cons_of_mem _ hd)
  simp only [List.countP_cons]
  rcases List.mem_cons.1 hx with rfl | hx
  ·have:=Am4 h2
   cases hA:A x <;> cases hB:B x <;> cases hC:C x <;> cases hE:E x <;> rw [hA,hB,hC,hE] at hlt <;> simp at hlt ⊢ <;> omega
  ·have:=Am5 h2 hx hlt
   cases hA:A y <;> cases hB:B y <;> cases hC:C y <;> cases hE:E y <;> rw [hA,hB,hC,hE] at h1 <;> simp at h1 ⊢ <;> omega
def inds (n:Nat):List Int:=(List.range n).map fun k:Nat=>(k:Int)
def inN (n:Nat) (i:Int):Prop:=0<=i/\i < (n:Int)
theorem Gm {n:Nat} {i:Int}:i∈inds n↔inN n i:=by
 unfold inds inN
 rw [List.mem_map]
 constructor
 ·rintro ⟨k,hk,rfl⟩
  rw [List.mem_range] at hk
  omega
 ·rintro ⟨h0,h1⟩
  exact ⟨i.toNat,by rw [List.mem_range];omega,by omega⟩
theorem Qm {n:Nat}:(inds n).length=n:=by simp [inds]
variable {P:Int->Ac} {H:Int->Int} {ap:Ap} {n:Nat}
def cnf (P:Int->Ac) (H:Int->Int) (n:Nat) (a b c:Int):Nat:=(inds n).countP fun d=>decide (0 < DH P H a b c d)
theorem Axv (a b c:Int):cnf P H n a b c<=n:=by
 have:(inds n).countP (fun d=>decide (0 < DH P H a b c d))<=(inds n).length:=List.countP_le_length
 rw [Qm] at this
 exact this
theorem Uz (a b c:Int):cnf P H n b c a=cnf P H n a b c:=by
 unfold cnf
 simp only [Nr]
theorem DH_b (a b c:Int):DH P H a b c b=0:=by unfold DH;rw [Aa8,Al6];omega
theorem DH_c (a b c:Int):DH P H a b c c=0:=by unfold DH;rw [Aa8,Al7];omega
theorem Quad.cnf_lt {i j k l:Int} (hcv:Abi P H (inN n)) (q:Quad P (inN n) ap i j k l) (hQ:0 < DH P H i j k l):cnf P H n i l k+cnf P H n j k l < cnf P H n i j k+cnf P H n j i l:=by
 obtain ⟨vi,vj,vk,ck⟩:=q.tri.ccw _ _ _ q.hk
 obtain ⟨_,_,vl,cl⟩:=q.tri.ccw _ _ _ q.hl
 have hQ':0 < DH P H j i l k:=by rw [Quad.swapQ];exact hQ
 unfold cnf
 refine Am5 (x:=l) (fun d hd=>?_) (Gm.2 vl) ?_
 ·have vd:=Gm.1 hd
  have t1:=q.conf1 (d:=d) hcv hQ vd
  have t2:=q.symm.conf1 (d:=d) hcv hQ' vd
  have t3:=q.conf2 (d:=d) hcv hQ vd
  have t4:=q.symm.conf2 (d:=d) hcv hQ' vd
  by_cases hC:0 < DH P H i l k d
  ·by_cases hE:0 < DH P H j k l d
   ·have hA:=t3 hC hE
    have hB:=t4 hE hC
    simp [hC,hE,hA,hB]
   ·rcases t1 hC with hA | hB
    ·simp [hC,hE,hA]
    ·simp [hC,hE,hB]
  ·by_cases hE:0 < DH P H j k l d
   ·rcases t2 hE with hB | hA
    ·simp [hC,hE,hB]
    ·simp [hC,hE,hA]
   ·simp [hC,hE]
 ·rw [DH_b,DH_c,DH_c]
  simp [hQ]
def plV (v:List Ab) (i:Int):Ac:=match idx v i with
 | some x=>⟨x.X,x.Y⟩
 | none=>⟨0,0⟩
structure Be (v:List Ab):Prop where
 ok:∀ i,inN v.length i->okP (plV v i)
 dist:∀ i j,inN v.length i->inN v.length j->Bm (plV v i) (plV v j)->i=j
def KK:Int:=4611686018427387904
def aft (v:List Ab) (i:Int):Nat:=(inds v.length).countP fun j=>decide (befP (plV v i) (plV v j))
def hV (v:List Ab) (i:Int):Int:=KK ^ (v.length+1)*sq (plV v i)+KK ^ aft v i
theorem Axw (v:List Ab) (i:Int):aft v i<=v.length:=by
 have:(inds v.length).countP (fun j=>decide (befP (plV v i) (plV v j)))<=(inds v.length).length:=List.countP_le_length
 rw [Qm] at this
 exact this
theorem Abj {v:List Ab} {i j:Int} (hj:inN v.length j) (h:befP (plV v i) (plV v j)):aft v j < aft v i:=by
 unfold aft
 refine Ts (x:=j) (fun y _ hy=>?_) (Gm.2 hj) (by simpa using h) (by simp [befP])
 simp only [decide_eq_true_eq] at hy ⊢
 unfold befP at *
 omega
theorem Pi (k:Nat):1<=KK ^ k:=by
 have:0 < KK ^ k:=Int.pow_pos (by decide)
 omega
theorem Am6 {a b:Nat} (h:a<=b):KK ^ a<=KK ^ b:=by
 obtain ⟨c,rfl⟩:=Nat.le.dest h
 rw [Int.pow_add]
 have h1:=Pi a
 have h2:=Pi c
 have:=Int.mul_le_mul_of_nonneg_left h2 (show 0<=KK ^ a by omega)
 omega
theorem Af8 {a b:Nat} (h:a < b):KK*KK ^ a<=KK ^ b:=by
 have:=Am6 (a:=a+1) (b:=b) h
 rw [Int.pow_succ,Int.mul_comm] at this
 exact this
theorem Axx (B sa sb sc sd wa wb wc wd:Int) (a b c d:Ac):Dt (B*sa+wa) (B*sb+wb) (B*sc+wc) (B*sd+wd) a b c d=B*Dt sa sb sc sd a b c d+Dt wa wb wc wd a b c d:=by unfold Dt;grind
theorem Aak (v:List Ab) (a b c d:Int):DH (plV v) (hV v) a b c d=KK ^ (v.length+1)*inC (plV v a) (plV v b) (plV v c) (plV v d)+Dt (KK ^ aft v a) (KK ^ aft v b) (KK ^ aft v c) (KK ^ aft v d) (plV v a) (plV v b) (plV v c) (plV v d):=by
 unfold DH hV
 rw [Axx,<- Awj]
theorem Oc {w x N C:Int} (hw0:0<=w) (hw:w<=N) (hC:0<=C) (h1:-C<=x) (h2:x<=C):-(N*C)<=w*x/\w*x<=N*C:=by
 have:=mulB (x:=w) (y:=x) (M:=N) (N:=C) (by omega) (by omega) hw h1 h2
 exact this
theorem Asj {N wa wb wc wd:Int} {a b c d:Ac} (ha:okP a) (hb:okP b) (hc:okP c) (hd:okP d) (h1:0<=wa/\wa<=N) (h2:0<=wb/\wb<=N) (h3:0<=wc/\wc<=N) (h4:0<=wd/\wd<=N) :
  -(N*2305843009213693952)<=Dt wa wb wc wd a b c d/\Dt wa wb wc wd a b c d<=N*2305843009213693952:=by
 have c1:=Lu hb hc hd
 have c2:=Lu hc ha hd
 have c3:=Lu ha hb hd
 have c4:=Lu ha hb hc
 have m1:=Oc (C:=576460752303423488) h1.1 h1.2 (by omega) c1.1 c1.2
 have m2:=Oc (C:=576460752303423488) h2.1 h2.2 (by omega) c2.1 c2.2
 have m3:=Oc (C:=576460752303423488) h3.1 h3.2 (by omega) c3.1 c3.2
 have m4:=Oc (C:=576460752303423488) h4.1 h4.2 (by omega) c4.1 c4.2
 unfold Dt
 omega
section
variable {v:List Ab} (hv:Be v) {a b c d:Int} (ha:inN v.length a) (hb:inN v.length b) (hc:inN v.length c) (hd:inN v.length d)
include hv ha hb hc hd
theorem Asl:-(KK ^ (v.length+1)) < Dt (KK ^ aft v a) (KK ^ aft v b) (KK ^ aft v c) (KK ^ aft v d) (plV v a) (plV v b) (plV v c) (plV v d)/\Dt (KK ^ aft v a) (KK ^ aft v b) (KK ^ aft v c) (KK ^ aft v d) (plV v a) (plV v b) (plV v c) (plV v d) < KK ^ (v.length+1):=by
 have w:∀ i,0<=KK ^ aft v i/\KK ^ aft v i<=KK ^ v.length:=fun i=>⟨by have:=Pi (aft v i);omega,Am6 (Axw v i)⟩
 have:=Asj (hv.ok a ha) (hv.ok b hb) (hv.ok c hc) (hv.ok d hd) (w a) (w b) (w c) (w d)
 have h1:=Pi v.length
 generalize Dt (KK ^ aft v a) (KK ^ aft v b) (KK ^ aft v c) (KK ^ aft v d) (plV v a) (plV v b) (plV v c) (plV v d)=D at *
 rw [Int.pow_succ]
 have e:KK=4611686018427387904:=rfl
 generalize KK ^ v.length=N at *
 rw [e]
 omega
theorem Ay7 (h:0 < inC (plV v a) (plV v b) (plV v c) (plV v d)):0 < DH (plV v) (hV v) a b c d:=by
 rw [Aak]
 have h1:=Asl hv ha hb hc hd
 have h2:=Pi (v.length+1)
 have:=Int.mul_le_mul_of_nonneg_left (show 1<=inC (plV v a) (plV v b) (plV v c) (plV v d) by omega) (show 0<=KK ^ (v.length+1) by omega)
 omega
theorem Aep (h:inC (plV v a) (plV v b) (plV v c) (plV v d) < 0):DH (plV v) (hV v) a b c d < 0:=by
 rw [Aak]
 have h1:=Asl hv ha hb hc hd
 have h2:=Pi (v.length+1)
 have:=Int.mul_le_mul_of_nonneg_left (show inC (plV v a) (plV v b) (plV v c) (plV v d)<=-1 by omega) (show 0<=KK ^ (v.length+1) by omega)
 omega
theorem Sc (h0:inC (plV v a) (plV v b) (plV v c) (plV v d)=0) (h1:befP (plV v a) (plV v b)) (h2:befP (plV v a) (plV v c)) (h3:befP (plV v a) (plV v d)) :
  (0 < crs (plV v b) (plV v c) (plV v d)->0 < DH (plV v) (hV v) a b c d)/\(crs (plV v b) (plV v c) (plV v d) < 0->DH (plV v) (hV v) a b c d < 0):=by
 rw [Aak,h0,Int.mul_zero,Int.zero_add]
 have k1:=Af8 (Abj hb h1)
 have k2:=Af8 (Abj hc h2)
 have k3:=Af8 (Abj hd h3)
 have e:KK=4611686018427387904:=rfl
 rw [e] at k1 k2 k3
 have w0:=Pi (aft v a)
 have w1:=Pi (aft v b)
 have w2:=Pi (aft v c)
 have w3:=Pi (aft v d)
 rw [e] at w0 w1 w2 w3
 rw [e]
 have c1:=Lu (hv.ok b hb) (hv.ok c hc) (hv.ok d hd)
 have c2:=Lu (hv.ok c hc) (hv.ok a ha) (hv.ok d hd)
 have c3:=Lu (hv.ok a ha) (hv.ok b hb) (hv.ok d hd)
 have c4:=Lu (hv.ok a ha) (hv.ok b hb) (hv.ok c hc)
 generalize (4611686018427387904:Int) ^ aft v a=wa at *
 generalize (4611686018427387904:Int) ^ aft v b=wb at *
 generalize (4611686018427387904:Int) ^ aft v c=wc at *
 generalize (4611686018427387904:Int) ^ aft v d=wd at *
 have m2:=Oc (w:=wb) (C:=576460752303423488) (by omega) (Int.le_refl _) (by omega) c2.1 c2.2
 have m3:=Oc (w:=wc) (C:=576460752303423488) (by omega) (Int.le_refl _) (by omega) c3.1 c3.2
 have m4:=Oc (w:=wd) (C:=576460752303423488) (by omega) (Int.le_refl _) (by omega) c4.1 c4.2
 unfold Dt
 constructor
 ·intro hp
  have:=Int.mul_le_mul_of_nonneg_left (show 1<=crs (plV v b) (plV v c) (plV v d) by omega) (show 0<=wa by omega)
  omega
 ·intro hp
  have:=Int.mul_le_mul_of_nonneg_left (show crs (plV v b) (plV v c) (plV v d)<=-1 by omega) (show 0<=wa by omega)
  omega
theorem Aeq (h0:inC (plV v a) (plV v b) (plV v c) (plV v d)=0) (h1:befP (plV v d) (plV v a)) (h2:befP (plV v d) (plV v b)) (h3:befP (plV v d) (plV v c)) (hp:0 < crs (plV v a) (plV v b) (plV v c)):DH (plV v) (hV v) a b c d < 0:=by
 rw [Aak,h0,Int.mul_zero,Int.zero_add]
 have k1:=Af8 (Abj ha h1)
 have k2:=Af8 (Abj hb h2)
 have k3:=Af8 (Abj hc h3)
 have e:KK=4611686018427387904:=rfl
 rw [e] at k1 k2 k3
 have w0:=Pi (aft v a)
 have w1:=Pi (aft v b)
 have w2:=Pi (aft v c)
 have w3:=Pi (aft v d)
 rw [e] at w0 w1 w2 w3
 rw [e]
 have c1:=Lu (hv.ok b hb) (hv.ok c hc) (hv.ok d hd)
 have c2:=Lu (hv.ok c hc) (hv.ok a ha) (hv.ok d hd)
 have c3:=Lu (hv.ok a ha) (hv.ok b hb) (hv.ok d hd)
 generalize (4611686018427387904:Int) ^ aft v a=wa at *
 generalize (4611686018427387904:Int) ^ aft v b=wb at *
 generalize (4611686018427387904:Int) ^ aft v c=wc at *
 generalize (4611686018427387904:Int) ^ aft v d=wd at *
 have m1:=Oc (w:=wa) (C:=576460752303423488) (by omega) (Int.le_refl _) (by omega) c1.1 c1.2
 have m2:=Oc (w:=wb) (C:=576460752303423488) (by omega) (Int.le_refl _) (by omega) c2.1 c2.2
 have m3:=Oc (w:=wc) (C:=576460752303423488) (by omega) (Int.le_refl _) (by omega) c3.1 c3.2
 unfold Dt
 have:=Int.mul_le_mul_of_nonneg_left (show 1<=crs (plV v a) (plV v b) (plV v c) by omega) (show 0<=wd by omega)
 omega
end
theorem Ot {v:List Ab} (hv:Be v):Abi (plV v) (hV v) (inN v.length):=by
 intro a b c d ha hb hc hd h1 h2 h3
 rcases h3 with h3 | h3
 ·exact Aep hv ha hb hc hd (Ad5 h1 h2 h3)
 ·exact Aep hv ha hb hc hd (Vy h1 h2 h3)
theorem Ac2 (a b c d:Ac):inC b c a d=inC a b c d:=by unfold inC lft crs;grind
theorem Gv {p q r:Ac} (h1:befP p q) (h2:befP q r):befP p r:=by unfold befP at *;omega
theorem Qa {p q:Ac} (h1:befP p q) (h2:befP q p):False:=by unfold befP at *;omega
theorem Ft {p q:Ac} (h:¬ Bm p q):befP p q\/befP q p:=by unfold befP Bm at *;omega
theorem Afd {a b c d:Ac} (n1:¬ Bm a b) (n2:¬ Bm a c) (n3:¬ Bm a d) (n4:¬ Bm b c) (n5:¬ Bm b d) (n6:¬ Bm c d) :
  (befP a b/\befP a c/\befP a d)\/(befP b c/\befP b a/\befP b d)\/(befP c a/\befP c b/\befP c d)\/(befP d a/\befP d b/\befP d c):=by
 rcases Ft n1 with h1 | h1
 ·rcases Ft n6 with h2 | h2
  ·rcases Ft n2 with h3 | h3
   ·exact .inl ⟨h1,h3,Gv h3 h2⟩
   ·exact .inr (.inr (.inl ⟨h3,Gv h3 h1,h2⟩))
  ·rcases Ft n3 with h3 | h3
   ·exact .inl ⟨h1,Gv h3 h2,h3⟩
   ·exact .inr (.inr (.inr ⟨h3,Gv h3 h1,h2⟩))
 ·rcases Ft n6 with h2 | h2
  ·rcases Ft n4 with h3 | h3
   ·exact .inr (.inl ⟨h3,h1,Gv h3 h2⟩)
   ·exact .inr (.inr (.inl ⟨Gv h3 h1,h3,h2⟩))
  ·rcases Ft n5 with h3 | h3
   ·exact .inr (.inl ⟨Gv h3 h2,h1,h3⟩)
   ·exact .inr (.inr (.inr ⟨Gv h3 h1,h3,h2⟩))
theorem Abk {v:List Ab} (hv:Be v) {a b c d:Int} (ha:inN v.length a) (hb:inN v.length b) (hc:inN v.length c) (hd:inN v.length d) (h1:0 < crs (plV v a) (plV v b) (plV v c)) (h2:crs (plV v a) (plV v b) (plV v d) < 0) :
  (legP (plV v a) (plV v b) (plV v c) (plV v d)↔DH (plV v) (hV v) a b c d < 0)/\DH (plV v) (hV v) a b c d≠0:=by
 have hs:Int.sign (crs (plV v a) (plV v b) (plV v c))=1:=Int.sign_eq_one_of_pos h1
 have n1:=Uv (P:=plV v) (a:=a) (b:=b) (c:=c) (by omega)
 have n2:=Uv (P:=plV v) (a:=a) (b:=b) (c:=d) (by omega)
 have ncd:c≠d:=fun e=>by subst e;omega
 have nab:¬ Bm (plV v a) (plV v b):=fun e=>n1.1 (hv.dist a b ha hb e)
 have nac:¬ Bm (plV v a) (plV v c):=fun e=>n1.2.2 (hv.dist a c ha hc e).symm
 have nad:¬ Bm (plV v a) (plV v d):=fun e=>n2.2.2 (hv.dist a d ha hd e).symm
 have nbc:¬ Bm (plV v b) (plV v c):=fun e=>n1.2.1 (hv.dist b c hb hc e)
 have nbd:¬ Bm (plV v b) (plV v d):=fun e=>n2.2.1 (hv.dist b d hb hd e)
 have ncd':¬ Bm (plV v c) (plV v d):=fun e=>ncd (hv.dist c d hc hd e)
 unfold legP
 rw [hs,Int.one_mul]
 rcases Int.lt_trichotomy (inC (plV v a) (plV v b) (plV v c) (plV v d)) 0 with g | g | g
 ·have:=Aep hv ha hb hc hd g
  rw [Int.sign_eq_neg_one_of_neg g]
  exact ⟨⟨fun _=>this,fun _=>.inl (by omega)⟩,by omega⟩
 ·rw [g,Int.sign_zero]
  have k1:0 < crs (plV v b) (plV v c) (plV v d):=by
   rcases Int.lt_or_le 0 (crs (plV v b) (plV v c) (plV v d)) with k | k
   ·exact k
   ·have:=Ad5 h1 h2 k;omega
  have k2:0 < crs (plV v c) (plV v a) (plV v d):=by
   rcases Int.lt_or_le 0 (crs (plV v c) (plV v a) (plV v d)) with k | k
   ·exact k
   ·have:=Vy h1 h2 k;omega
  have fa:=Sc hv ha hb hc hd g
  have fd:=Aeq hv ha hb hc hd g
  have fb:=Sc hv hb hc ha hd (by rw [Ac2];exact g)
  have fc:=Sc hv hc ha hb hd (by rw [<- Ac2];exact g)
  rw [Nr] at fb
  rw [<- Nr] at fc
  have key:=Afd nab nac nad nbc nbd ncd'
  rcases key with ⟨b1,b2,b3⟩ | ⟨b1,b2,b3⟩ | ⟨b1,b2,b3⟩ | ⟨b1,b2,b3⟩
  ·have:=(fa b1 b2 b3).1 k1
   refine ⟨⟨fun h=>?_,fun h=>by omega⟩,by omega⟩
   rcases h with h | ⟨_,⟨h,_⟩ | ⟨h,_⟩⟩
   ·omega
   ·exact (Qa b2 h).elim
   ·exact (Qa b3 h).elim
  ·have:=(fb b1 b2 b3).1 k2
   refine ⟨⟨fun h=>?_,fun h=>by omega⟩,by omega⟩
   rcases h with h | ⟨_,⟨_,h⟩ | ⟨_,h⟩⟩
   ·omega
   ·exact (Qa b1 h).elim
   ·exact (Qa b3 h).elim
  ·have:=(fc b1 b2 b3).2 h2
   refine ⟨⟨fun h=>this,fun h=>.inr ⟨rfl,.inl ⟨b1,b2⟩⟩⟩,by omega⟩
  ·have:=fd b1 b2 b3 h1
   refine ⟨⟨fun h=>this,fun h=>.inr ⟨rfl,.inr ⟨b1,b2⟩⟩⟩,by omega⟩
 ·have:=Ay7 hv ha hb hc hd g
  rw [Int.sign_eq_one_of_pos g]
  refine ⟨⟨fun h=>?_,fun h=>by omega⟩,by omega⟩
  omega
end Go.Proofs.YtjfndjmabhbicaaGreat
