/- The comparators of the mesh, and the sorts by them. -/
import Derived.Test.YtbkobeeileemjaaGreatD3
import Derived.Test.YtbkobeeileemjaaGreatSl
namespace Go.Proofs.YtbkobeeileemjaaGreat
open Go Go.RowKit Go.Shelf Go.Lib Go.Sort
theorem Ys {P:Program} {f:FuncId} (h:Sy P f):∀ (args:Array Value) (w:World),(callFunc f args).run P w = .ok (.enter f args) w:=by
 obtain ⟨fn,h1,h2,h3⟩:=h
 obtain ⟨c,hc⟩:∃ c,fn.body=some c:=by cases hb:fn.body with
  | none=>rw [hb] at h3;cases h3
  | some c=>exact ⟨c,rfl⟩
 exact enters_of h1 h2 hc
def Ahn (z:Int):Prop:=-1000000000000≤z∧z≤1000000000000
instance (z:Int):Decidable (Ahn z):=by unfold Ahn;infer_instance
def Oc (x:Ab):Prop:=Ahn x.a0∧Ahn x.a1
instance (x:Ab):Decidable (Oc x):=by unfold Oc;infer_instance
def cmp2 (x y:Ab):Int:=if x.a0=y.a0 then x.a1-y.a1 else x.a0-y.a0
theorem Aho (x y:Ab):cmp2 x y < 0↔x.a0 < y.a0∨x.a0=y.a0∧x.a1 < y.a1:=by unfold cmp2;split <;> omega
theorem tot2:Vd Oc cmp2 where
 irr x _:=by rw [Aho];omega
 trans x y z _ _ _ h1 h2:=by rw [Aho] at *;omega
 tot x y _ _ h1 h2:=by
  rw [Aho] at h1 h2
  obtain ⟨x0,x1⟩:=x
  obtain ⟨y0,y1⟩:=y
  simp only at h1 h2
  rw [show x0=y0 by omega,show x1=y1 by omega]
theorem Acw {x y:Ab} (hx:Oc x) (hy:Oc y):Vw x y=some (cmp2 x y):=by
 obtain ⟨⟨_,_⟩,_,_⟩:=hx
 obtain ⟨⟨_,_⟩,_,_⟩:=hy
 unfold Vw cmp2
 split <;> (rw [Bw (by omega) (by omega)])
theorem Aav (l:List Ab) (hb:l.length≤1000000000) (hp:∀ x∈l,Oc x) {A:Option Addr} {m c:Nat} {t:TypeId} {gf:Nat} {cb:Array Value} (w:World) (hok:Ent.ok w (.r A m c t 2 (l.flatMap Ar)))
  (hcmp:Abp Tryz.prog Oc cmp2 (fun x=>.agg #[.int .i64 x.a0,.int .i64 x.a1]) A m c t 2 gf cb w (l.flatMap Ar)) (eg:Sy Tryz.prog gf):Abo Tryz.prog 105 A m c t 2 gf cb w (l.flatMap Ar) ((Br cmp2 l).flatMap Ar) :=
 Aak (ρ:=Tryz.laysSort2_ren) Tryz.laysSort2 (k:=2) Tryz.isAgg97 Tryz.sizeOf97 (enc:=Ar) (fun _=>rfl) (by decide) (fun x v hv=>by simp [Ar] at hv;rcases hv with rfl | rfl <;> rfl) tot2 (Ys eg) l hb hp w hok hcmp
def Wo (x:Am):Prop:=True
instance (x:Am):Decidable (Wo x):=by unfold Wo;infer_instance
def cmpI (x y:Int):Int:=if x < y then -1 else if y < x then 1 else 0
theorem Alu (x y:Int):cmpI x y < 0↔x < y:=by
 unfold cmpI
 split
 ·omega
 ·split <;> omega
theorem Arc (x y:Int):cmpI x y=0↔x=y:=by
 unfold cmpI
 split
 ·omega
 ·split <;> omega
def cmp3 (x y:Am):Int:=if cmpI x.a0 y.a0=0 then if cmpI x.a1 y.a1=0 then cmpI x.a2 y.a2 else cmpI x.a1 y.a1 else cmpI x.a0 y.a0
theorem Yt (x y:Am):cmp3 x y < 0↔x.a0 < y.a0∨x.a0=y.a0∧(x.a1 < y.a1∨x.a1=y.a1∧x.a2 < y.a2):=by
 unfold cmp3
 simp only [Arc]
 split
 ·split <;> rw [Alu] <;> omega
 ·rw [Alu];omega
theorem tot3:Vd Wo cmp3 where
 irr x _:=by rw [Yt];omega
 trans x y z _ _ _ h1 h2:=by rw [Yt] at *;omega
 tot x y _ _ h1 h2:=by
  rw [Yt] at h1 h2
  obtain ⟨x0,x1,x2⟩:=x
  obtain ⟨y0,y1,y2⟩:=y
  simp only at h1 h2
  rw [show x0=y0 by omega,show x1=y1 by omega,show x2=y2 by omega]
theorem Ard (x y:Int):Kc x y=some (cmpI x y):=by
 unfold Kc Mq cmpI
 simp only [bnd,decide_true,Bool.not_true,Bool.false_eq_true,if_false]
 split
 ·rfl
 ·split <;> rfl
theorem Ahp {x y:Am} (hx:Wo x) (hy:Wo y):Gc x y=some (cmp3 x y):=by
 obtain ⟨x0,x1,x2⟩:=x
 obtain ⟨y0,y1,y2⟩:=y
 unfold Gc Fm jn cmp3
 simp only
 have step:∀ i:Int,Cn [x0,x1,x2] [y0,y1,y2] i=if i < 3 then bnd (idx [x0,x1,x2] i) fun a=>bnd (idx [y0,y1,y2] i) fun b=>if cmpI a b=0 then some (.inl (w64 (i+1))) else some (.inr (.inr (cmpI a b))) else some (.inr (.inl ())):=by
  intro i
  unfold Cn
  simp only [Ard,List.length_cons,List.length_nil]
  by_cases h:i < 3
  ·rw [if_pos (by omega),if_pos h]
   congr 1
   funext a
   rw [if_neg (by omega)]
   rfl
  ·rw [if_neg (by omega),if_neg h]
 have w1:w64 (0+1)=1:=Bw (by omega) (by omega)
 have w2:w64 (1+1)=2:=Bw (by omega) (by omega)
 have w3:w64 (2+1)=3:=Bw (by omega) (by omega)
 have i0:∀ a b c:Int,idx [a,b,c] 0=some a:=fun _ _ _=>rfl
 have i1:∀ a b c:Int,idx [a,b,c] 1=some b:=fun _ _ _=>rfl
 have i2:∀ a b c:Int,idx [a,b,c] 2=some c:=fun _ _ _=>rfl
 have s0:Cn [x0,x1,x2] [y0,y1,y2] 0=if cmpI x0 y0=0 then some (.inl 1) else some (.inr (.inr (cmpI x0 y0))):=by rw [step,if_pos (by omega),w1];simp only [i0,bnd]
 have s1:Cn [x0,x1,x2] [y0,y1,y2] 1=if cmpI x1 y1=0 then some (.inl 2) else some (.inr (.inr (cmpI x1 y1))):=by rw [step,if_pos (by omega),w2];simp only [i1,bnd]
 have s2:Cn [x0,x1,x2] [y0,y1,y2] 2=if cmpI x2 y2=0 then some (.inl 3) else some (.inr (.inr (cmpI x2 y2))):=by rw [step,if_pos (by omega),w3];simp only [i2,bnd]
 have s3:Cn [x0,x1,x2] [y0,y1,y2] 3=some (.inr (.inl ())):=by rw [step,if_neg (by omega)]
 rw [Cj,s0]
 by_cases h0:cmpI x0 y0=0
 ·rw [if_pos h0,if_pos h0]
  simp only
  rw [Cj,s1]
  by_cases h1:cmpI x1 y1=0
  ·rw [if_pos h1,if_pos h1]
   simp only
   rw [Cj,s2]
   by_cases h2:cmpI x2 y2=0
   ·rw [if_pos h2,h2]
    simp only
    rw [Cj,s3]
    simp [bnd]
   ·rw [if_neg h2]
    simp [bnd]
  ·rw [if_neg h1,if_neg h1]
   simp [bnd]
 ·rw [if_neg h0,if_neg h0]
  simp [bnd]
theorem Akj (l:List Am) (hb:l.length≤1000000000) (hp:∀ x∈l,Wo x) {A:Option Addr} {m c:Nat} {t:TypeId} {gf:Nat} {cb:Array Value} (w:World) (hok:Ent.ok w (.r A m c t 3 (l.flatMap Ba)))
  (hcmp:Abp Tryz.prog Wo cmp3 (fun x=>.agg #[.int .i64 x.a0,.int .i64 x.a1,.int .i64 x.a2]) A m c t 3 gf cb w (l.flatMap Ba)) (eg:Sy Tryz.prog gf):Abo Tryz.prog 117 A m c t 3 gf cb w (l.flatMap Ba) ((Br cmp3 l).flatMap Ba) :=
 Aak (ρ:=Tryz.laysSort3_ren) Tryz.laysSort3 (k:=3) Tryz.isAgg26 Tryz.sizeOf26 (enc:=Ba) (fun _=>rfl) (by decide) (fun x v hv=>by simp [Ba] at hv;rcases hv with rfl | rfl | rfl <;> rfl) tot3 (Ys eg) l hb hp w hok hcmp
/-- The order of places. -/
def befV (a b:Ae):Prop:=a.X < b.X∨a.X=b.X∧a.Y < b.Y
instance (a b:Ae):Decidable (befV a b):=by unfold befV;infer_instance
def Vm (a b:Ae):Prop:=a.X=b.X∧a.Y=b.Y
instance (a b:Ae):Decidable (Vm a b):=by unfold Vm;infer_instance
def El (v:List Ae):Prop:=v.Pairwise fun a b=>¬ Vm a b
instance (v:List Ae):Decidable (El v):=by unfold El;infer_instance
def okIx (v:List Ae) (i:Int):Prop:=0≤i∧i < (v.length:Int)
instance (v:List Ae) (i:Int):Decidable (okIx v i):=by unfold okIx;infer_instance
def cmpR (v:List Ae) (i j:Int):Int:=match idx v i,idx v j with
 | some a,some b=>if befV a b then -1 else if befV b a then 1 else 0
 | _,_=>0
theorem Ip {v:List Ae} {i:Int} (h:okIx v i):∃ (k:Nat) (hk:k < v.length),i=(k:Int)∧idx v i=some v[k]:=by
 obtain ⟨h0,h1⟩:=h
 obtain ⟨k,rfl⟩:=Int.eq_ofNat_of_zero_le h0
 have hk:k < v.length:=by omega
 exact ⟨k,hk,rfl,Bo hk⟩
theorem Sq {v:List Ae} {i j:Nat} (hi:i < v.length) (hj:j < v.length):cmpR v (i:Int) (j:Int) < 0↔befV v[i] v[j]:=by
 unfold cmpR
 rw [Bo hi,Bo hj]
 simp only
 split
 ·simp_all
 ·split <;> simp_all
theorem totR {v:List Ae} (hd:El v):Vd (okIx v) (cmpR v) where
 irr x hx:=by
  obtain ⟨i,hi,rfl,_⟩:=Ip hx
  rw [Sq hi hi]
  unfold befV
  omega
 trans x y z hx hy hz h1 h2:=by
  obtain ⟨i,hi,rfl,_⟩:=Ip hx
  obtain ⟨j,hj,rfl,_⟩:=Ip hy
  obtain ⟨k,hk,rfl,_⟩:=Ip hz
  rw [Sq hi hj] at h1
  rw [Sq hj hk] at h2
  rw [Sq hi hk]
  unfold befV at *
  omega
 tot x y hx hy h1 h2:=by
  obtain ⟨i,hi,rfl,_⟩:=Ip hx
  obtain ⟨j,hj,rfl,_⟩:=Ip hy
  rw [Sq hi hj] at h1
  rw [Sq hj hi] at h2
  have hs:Vm v[i] v[j]:=by unfold befV at h1 h2;unfold Vm;omega
  unfold El at hd
  rw [List.pairwise_iff_getElem] at hd
  rcases Nat.lt_trichotomy i j with h | h | h
  ·exact absurd hs (hd i j hi hj h)
  ·rw [h]
  ·exact absurd ⟨hs.1.symm,hs.2.symm⟩ (hd j i hj hi h)
theorem Am6 (a b:Ae):Ji ⟨a.X,a.Y⟩ ⟨b.X,b.Y⟩=some (decide (befV a b)):=by
 unfold Ji jn befV
 simp only
 by_cases h1:a.X < b.X
 ·simp [h1]
 ·by_cases h2:a.X=b.X
  ·simp [h2]
  ·simp [h1,h2]
theorem Am7 (v:List Ae) {x y:Int} (hx:okIx v x) (hy:okIx v y):Sf x y v=some (cmpR v x y):=by
 obtain ⟨i,hi,rfl,ei⟩:=Ip hx
 obtain ⟨j,hj,rfl,ej⟩:=Ip hy
 unfold Sf cmpR
 simp only [ei,ej,bnd,La,Am6,decide_eq_true_eq]
 split
 ·rfl
 ·split <;> rfl
theorem Ai5 (v:List Ae) (hd:El v) (l:List Int) (hb:l.length≤1000000000) (hp:∀ x∈l,okIx v x) {A:Option Addr} {m c:Nat} {t:TypeId} {gf:Nat} {cb:Array Value} (w:World) (hok:Ent.ok w (.r A m c t 1 (l.flatMap Bs)))
  (hcmp:Abp Tryz.prog (okIx v) (cmpR v) (fun x=>.int .i64 x) A m c t 1 gf cb w (l.flatMap Bs)) (eg:Sy Tryz.prog gf):Abo Tryz.prog 111 A m c t 1 gf cb w (l.flatMap Bs) ((Br (cmpR v) l).flatMap Bs) :=
 Aj2 (ρ:=Tryz.laysSort1_ren) Tryz.laysSort1 (enc:=Value.int .i64) (fun _=>rfl) (totR hd) (Ys eg) l hb hp w hok hcmp
end Go.Proofs.YtbkobeeileemjaaGreat
