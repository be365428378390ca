/- LabelLifts returns true for any points, any rules and any number, and leaves them as they were. No conditions. -/
import Derived.Test.YtbkobeeileemjaaGreatRd
namespace Go.Proofs.YtbkobeeileemjaaGreat
open Go Go.ChangeShapes Go.WideShapes Go.ChangeAt Go.RowKit
def ok_S_api_Span (x:Bl):Prop:=rI64 x.Lo∧rI64 x.Hi
def ok_S_api_Point (x:Aa):Prop:=rI64 x.Id∧rI64 x.X∧rI64 x.Y∧ok_S_api_Span x.Z∧rI64 x.Wide∧rI64 x.Num∧rI64 x.Of∧rI64 x.Class
theorem rd3 {H:Type} {enc:TypeId × Value→H} {w:World} {base:Nat} {spare:Nat→Bool} {held:Bool} {fuel:Nat} {cs:List Value} {x:DataW H × List MemPlace} (h:DataW.trod enc Tryz.prog w base spare held fuel 3 cs=some x):∃ (v:Int),cs=[.int .i64 (v)]∧rI64 v∧True:=by
 obtain ⟨z,h1,h2⟩:=Axj Tryz.underlying3 h
 exact ⟨z,h1,h2,trivial⟩
theorem rd32 {H:Type} {enc:TypeId × Value→H} {w:World} {base:Nat} {spare:Nat→Bool} {held:Bool} {fuel:Nat} {cs:List Value} {x:DataW H × List MemPlace} (h:DataW.trod enc Tryz.prog w base spare held fuel 32 cs=some x):∃ (v:Bl),cs=[.int .i64 (v.Lo),.int .i64 (v.Hi)]∧ok_S_api_Span v∧True:=by
 obtain ⟨xs,n,_,_,hl,hlen,hf⟩:=DataW.trod_struct Tryz.underlying32 h
 have hlen':xs.length=2:=hlen
 have hl':cs.length=2:=hl.trans (by kernel_rfl)
 have h0:DataW.trod enc Tryz.prog w base spare held n 3 (List.take (Tryz.prog.cellsOf 3) (List.drop 0 cs))=xs[0]?:=hf 0 _ rfl
 rw [show Tryz.prog.cellsOf 3=1 from by kernel_rfl,List.getElem?_eq_getElem (by omega)] at h0
 obtain ⟨v0,e0,o0,-⟩:=rd3 h0
 have h1:DataW.trod enc Tryz.prog w base spare held n 3 (List.take (Tryz.prog.cellsOf 3) (List.drop 1 cs))=xs[1]?:=hf 1 _ rfl
 rw [show Tryz.prog.cellsOf 3=1 from by kernel_rfl,List.getElem?_eq_getElem (by omega)] at h1
 obtain ⟨v1,e1,o1,-⟩:=rd3 h1
 refine ⟨⟨v0,v1⟩,?_,⟨o0,o1⟩,trivial⟩
 have:=Gm (o:=0) (o':=1) e0 (Gm (o:=1) (o':=2) e1 (Amv hl') rfl) rfl
 simpa using this
theorem rd66 {H:Type} {enc:TypeId × Value→H} {w:World} {base:Nat} {spare:Nat→Bool} {held:Bool} {fuel:Nat} {cs:List Value} {x:DataW H × List MemPlace} (h:DataW.trod enc Tryz.prog w base spare held fuel 66 cs=some x):∃ (v:Aa),cs=[.int .i64 (v.Id),.int .i64 (v.X),.int .i64 (v.Y),.int .i64 (v.Z.Lo),.int .i64 (v.Z.Hi),.int .i64 (v.Wide),.int .i64 (v.Num),.int .i64 (v.Of),.int .i64 (v.Class)]∧ok_S_api_Point v∧True:=by
 obtain ⟨xs,n,_,_,hl,hlen,hf⟩:=DataW.trod_struct Tryz.underlying66 h
 have hlen':xs.length=8:=hlen
 have hl':cs.length=9:=hl.trans (by kernel_rfl)
 have h0:DataW.trod enc Tryz.prog w base spare held n 3 (List.take (Tryz.prog.cellsOf 3) (List.drop 0 cs))=xs[0]?:=hf 0 _ rfl
 rw [show Tryz.prog.cellsOf 3=1 from by kernel_rfl,List.getElem?_eq_getElem (by omega)] at h0
 obtain ⟨v0,e0,o0,-⟩:=rd3 h0
 have h1:DataW.trod enc Tryz.prog w base spare held n 3 (List.take (Tryz.prog.cellsOf 3) (List.drop 1 cs))=xs[1]?:=hf 1 _ rfl
 rw [show Tryz.prog.cellsOf 3=1 from by kernel_rfl,List.getElem?_eq_getElem (by omega)] at h1
 obtain ⟨v1,e1,o1,-⟩:=rd3 h1
 have h2:DataW.trod enc Tryz.prog w base spare held n 3 (List.take (Tryz.prog.cellsOf 3) (List.drop 2 cs))=xs[2]?:=hf 2 _ rfl
 rw [show Tryz.prog.cellsOf 3=1 from by kernel_rfl,List.getElem?_eq_getElem (by omega)] at h2
 obtain ⟨v2,e2,o2,-⟩:=rd3 h2
 have h3:DataW.trod enc Tryz.prog w base spare held n 32 (List.take (Tryz.prog.cellsOf 32) (List.drop 3 cs))=xs[3]?:=hf 3 _ rfl
 rw [show Tryz.prog.cellsOf 32=2 from by kernel_rfl,List.getElem?_eq_getElem (by omega)] at h3
 obtain ⟨v3,e3,o3,-⟩:=rd32 h3
 have h4:DataW.trod enc Tryz.prog w base spare held n 3 (List.take (Tryz.prog.cellsOf 3) (List.drop 5 cs))=xs[4]?:=hf 4 _ rfl
 rw [show Tryz.prog.cellsOf 3=1 from by kernel_rfl,List.getElem?_eq_getElem (by omega)] at h4
 obtain ⟨v4,e4,o4,-⟩:=rd3 h4
 have h5:DataW.trod enc Tryz.prog w base spare held n 3 (List.take (Tryz.prog.cellsOf 3) (List.drop 6 cs))=xs[5]?:=hf 5 _ rfl
 rw [show Tryz.prog.cellsOf 3=1 from by kernel_rfl,List.getElem?_eq_getElem (by omega)] at h5
 obtain ⟨v5,e5,o5,-⟩:=rd3 h5
 have h6:DataW.trod enc Tryz.prog w base spare held n 3 (List.take (Tryz.prog.cellsOf 3) (List.drop 7 cs))=xs[6]?:=hf 6 _ rfl
 rw [show Tryz.prog.cellsOf 3=1 from by kernel_rfl,List.getElem?_eq_getElem (by omega)] at h6
 obtain ⟨v6,e6,o6,-⟩:=rd3 h6
 have h7:DataW.trod enc Tryz.prog w base spare held n 3 (List.take (Tryz.prog.cellsOf 3) (List.drop 8 cs))=xs[7]?:=hf 7 _ rfl
 rw [show Tryz.prog.cellsOf 3=1 from by kernel_rfl,List.getElem?_eq_getElem (by omega)] at h7
 obtain ⟨v7,e7,o7,-⟩:=rd3 h7
 refine ⟨⟨v0,v1,v2,v3,v4,v5,v6,v7⟩,?_,⟨o0,o1,o2,o3,o4,o5,o6,o7⟩,trivial⟩
 have:=Gm (o:=0) (o':=1) e0 (Gm (o:=1) (o':=2) e1 (Gm (o:=2) (o':=3) e2 (Gm (o:=3) (o':=5) e3 (Gm (o:=5) (o':=6) e4 (Gm (o:=6) (o':=7) e5 (Gm (o:=7) (o':=8) e6 (Gm (o:=8) (o':=9) e7 (Amv hl') rfl) rfl) rfl) rfl) rfl) rfl) rfl) rfl
 simpa using this
theorem rd47 {H:Type} {enc:TypeId × Value→H} {w:World} {base:Nat} {spare:Nat→Bool} {held:Bool} {fuel:Nat} {cs:List Value} {x:DataW H × List MemPlace} (h:DataW.trod enc Tryz.prog w base spare held fuel 47 cs=some x):∃ (v:List Aa) (A0:Option Addr) (c0:Nat),cs=[.slice (A0) ((v).length) (c0)]∧Has [.old w] A0 (v).length c0 9 Ag (v)∧(∀ z∈v,ok_S_api_Point z)∧True:=by
 obtain ⟨v,A,c,h1,h2,h3⟩:=Ar6 (en:=Ag) (okα:=ok_S_api_Point) Tryz.underlying47 (show Tryz.prog.cellsOf 66=9 from by kernel_rfl) (by decide) (fun h=>by obtain ⟨v,h1,h2⟩:=rd66 h;exact ⟨v,h1,h2.1⟩) h
 exact ⟨v,A,c,h1,h2,h3,trivial⟩
def ok_S_api_Terrain (x:Af):Prop:=rI64 x.Cell∧rI64 x.Reach∧rI64 x.Slope∧rI64 x.Link∧rI64 x.Flat∧rI64 x.Tall∧rI64 x.High∧rI64 x.Low∧rI64 x.Brush∧rI64 x.Few
theorem rd54 {H:Type} {enc:TypeId × Value→H} {w:World} {base:Nat} {spare:Nat→Bool} {held:Bool} {fuel:Nat} {cs:List Value} {x:DataW H × List MemPlace} (h:DataW.trod enc Tryz.prog w base spare held fuel 54 cs=some x):∃ (v:Af),cs=[.int .i64 (v.Cell),.int .i64 (v.Reach),.int .i64 (v.Slope),.int .i64 (v.Link),.int .i64 (v.Flat),.int .i64 (v.Tall),.int .i64 (v.High),.int .i64 (v.Low),.int .i64 (v.Brush),.int .i64 (v.Few)]∧ok_S_api_Terrain v∧True:=by
 obtain ⟨xs,n,_,_,hl,hlen,hf⟩:=DataW.trod_struct Tryz.underlying54 h
 have hlen':xs.length=10:=hlen
 have hl':cs.length=10:=hl.trans (by kernel_rfl)
 have h0:DataW.trod enc Tryz.prog w base spare held n 3 (List.take (Tryz.prog.cellsOf 3) (List.drop 0 cs))=xs[0]?:=hf 0 _ rfl
 rw [show Tryz.prog.cellsOf 3=1 from by kernel_rfl,List.getElem?_eq_getElem (by omega)] at h0
 obtain ⟨v0,e0,o0,-⟩:=rd3 h0
 have h1:DataW.trod enc Tryz.prog w base spare held n 3 (List.take (Tryz.prog.cellsOf 3) (List.drop 1 cs))=xs[1]?:=hf 1 _ rfl
 rw [show Tryz.prog.cellsOf 3=1 from by kernel_rfl,List.getElem?_eq_getElem (by omega)] at h1
 obtain ⟨v1,e1,o1,-⟩:=rd3 h1
 have h2:DataW.trod enc Tryz.prog w base spare held n 3 (List.take (Tryz.prog.cellsOf 3) (List.drop 2 cs))=xs[2]?:=hf 2 _ rfl
 rw [show Tryz.prog.cellsOf 3=1 from by kernel_rfl,List.getElem?_eq_getElem (by omega)] at h2
 obtain ⟨v2,e2,o2,-⟩:=rd3 h2
 have h3:DataW.trod enc Tryz.prog w base spare held n 3 (List.take (Tryz.prog.cellsOf 3) (List.drop 3 cs))=xs[3]?:=hf 3 _ rfl
 rw [show Tryz.prog.cellsOf 3=1 from by kernel_rfl,List.getElem?_eq_getElem (by omega)] at h3
 obtain ⟨v3,e3,o3,-⟩:=rd3 h3
 have h4:DataW.trod enc Tryz.prog w base spare held n 3 (List.take (Tryz.prog.cellsOf 3) (List.drop 4 cs))=xs[4]?:=hf 4 _ rfl
 rw [show Tryz.prog.cellsOf 3=1 from by kernel_rfl,List.getElem?_eq_getElem (by omega)] at h4
 obtain ⟨v4,e4,o4,-⟩:=rd3 h4
 have h5:DataW.trod enc Tryz.prog w base spare held n 3 (List.take (Tryz.prog.cellsOf 3) (List.drop 5 cs))=xs[5]?:=hf 5 _ rfl
 rw [show Tryz.prog.cellsOf 3=1 from by kernel_rfl,List.getElem?_eq_getElem (by omega)] at h5
 obtain ⟨v5,e5,o5,-⟩:=rd3 h5
 have h6:DataW.trod enc Tryz.prog w base spare held n 3 (List.take (Tryz.prog.cellsOf 3) (List.drop 6 cs))=xs[6]?:=hf 6 _ rfl
 rw [show Tryz.prog.cellsOf 3=1 from by kernel_rfl,List.getElem?_eq_getElem (by omega)] at h6
 obtain ⟨v6,e6,o6,-⟩:=rd3 h6
 have h7:DataW.trod enc Tryz.prog w base spare held n 3 (List.take (Tryz.prog.cellsOf 3) (List.drop 7 cs))=xs[7]?:=hf 7 _ rfl
 rw [show Tryz.prog.cellsOf 3=1 from by kernel_rfl,List.getElem?_eq_getElem (by omega)] at h7
 obtain ⟨v7,e7,o7,-⟩:=rd3 h7
 have h8:DataW.trod enc Tryz.prog w base spare held n 3 (List.take (Tryz.prog.cellsOf 3) (List.drop 8 cs))=xs[8]?:=hf 8 _ rfl
 rw [show Tryz.prog.cellsOf 3=1 from by kernel_rfl,List.getElem?_eq_getElem (by omega)] at h8
 obtain ⟨v8,e8,o8,-⟩:=rd3 h8
 have h9:DataW.trod enc Tryz.prog w base spare held n 3 (List.take (Tryz.prog.cellsOf 3) (List.drop 9 cs))=xs[9]?:=hf 9 _ rfl
 rw [show Tryz.prog.cellsOf 3=1 from by kernel_rfl,List.getElem?_eq_getElem (by omega)] at h9
 obtain ⟨v9,e9,o9,-⟩:=rd3 h9
 refine ⟨⟨v0,v1,v2,v3,v4,v5,v6,v7,v8,v9⟩,?_,⟨o0,o1,o2,o3,o4,o5,o6,o7,o8,o9⟩,trivial⟩
 have:=Gm (o:=0) (o':=1) e0 (Gm (o:=1) (o':=2) e1 (Gm (o:=2) (o':=3) e2 (Gm (o:=3) (o':=4) e3 (Gm (o:=4) (o':=5) e4 (Gm (o:=5) (o':=6) e5 (Gm (o:=6) (o':=7) e6 (Gm (o:=7) (o':=8) e7 (Gm (o:=8) (o':=9) e8 (Gm (o:=9) (o':=10) e9 (Amv hl') rfl) rfl) rfl) rfl) rfl) rfl) rfl) rfl) rfl) rfl
 simpa using this
theorem rd70 {H:Type} {enc:TypeId × Value→H} {w:World} {base:Nat} {spare:Nat→Bool} {held:Bool} {fuel:Nat} {cs:List Value} {x:DataW H × List MemPlace} (h:DataW.trod enc Tryz.prog w base spare held fuel 70 cs=some x):∃ (v:Int),cs=[.int .i16 (v)]∧rI16 v∧True:=by
 obtain ⟨z,h1,h2⟩:=Axk Tryz.underlying70 h
 exact ⟨z,h1,h2,trivial⟩
set_option maxRecDepth 100000 in
set_option maxHeartbeats 1000000 in
theorem labelLiftsLifted (os:Os) (started:os.Started) (H:Type) (enc:TypeId × Value→H) :
  ReturnsInHanded {} Tryz.checked os 11 .any (Rows.labelLiftsSpec.pre6 enc Tryz.prog Tryz.f11 Rows.labelLiftsRow.domain false) (Rows.labelLiftsSpec.post enc Tryz.prog Tryz.f11 false true false false):=by
 refine returnsInHanded_of_change (C:=Tryz.checked) own2 started (by kernel_rfl) Tryz.func11
  (ChangeSpec.witness6 (enc:=enc) (C:=Tryz.checked) false ⟨#[],#[.slice (none) (0) (0),.agg #[.int .i64 (0),.int .i64 (0),.int .i64 (0),.int .i64 (0),.int .i64 (0),.int .i64 (0),.int .i64 (0),.int .i64 (0),.int .i64 (0),.int .i64 (0)],.int .i16 (0)],[]⟩ 16 (by kernel_rfl) (by kernel_rfl) (by kernel_rfl) (by kernel_rfl)) ?_
 intro W base args ds gs before hval0 hW hcnd _
 have hval:∀ (j:Nat) t v,Tryz.f11.params[j]? = some t→args[j]? = some v→Value.okWide Tryz.prog W .any base t v:=hval0
 have hW':=hW
 obtain ⟨p,q,hA0,hV,rfl,hfz,hnd⟩:=hW
 have hA:DataW.TrodAll enc Tryz.prog W 0 (fun _=>true) true Tryz.f11.params.toList args.toList ds p:=hA0
 rw [Tryz.params11] at hA hval
 obtain ⟨v0,vs0,d0,ds0,m0,q0,hargs,rfl,rfl,h0,r0⟩:=trodAll_cons hA
 obtain ⟨v1,vs1,d1,ds1,m1,q1,rfl,rfl,rfl,h1,r1⟩:=trodAll_cons r0
 obtain ⟨v2,vs2,d2,ds2,m2,q2,rfl,rfl,rfl,h2,r2⟩:=trodAll_cons r1
 obtain ⟨rfl,rfl,rfl⟩:=trodAll_nil r2
 obtain rfl:args = #[v0,v1,v2]:=by cases args;simp_all
 obtain ⟨rfl,rfl⟩:=trodVars_none hV
 have k0:=h0
 have lt0:∀ x∈m0,x.block < W.heap.size:=by obtain ⟨m,hm⟩:=k0;exact DataW.trod_lt m _ _ _ hm
 obtain ⟨fu0,hh0⟩:=h0
 obtain ⟨a0,A0_0,c0_0,e0,f0_0,o0,-⟩:=rd47 hh0
 obtain ⟨za0,zl0,zc0,rfl⟩:=okWide_slice Tryz.underlying47 (hval 0 47 v0 rfl rfl)
 obtain ⟨rfl,rfl,rfl⟩:A0_0=za0∧(a0).length=zl0∧c0_0=zc0:=by simpa [Value.cells,eq_comm] using e0
 have k1:=h1
 have lt1:∀ x∈m1,x.block < W.heap.size:=by obtain ⟨m,hm⟩:=k1;exact DataW.trod_lt m _ _ _ hm
 obtain ⟨fu1,hh1⟩:=h1
 obtain ⟨a1,e1,o1,-⟩:=rd54 hh1
 obtain ⟨⟨cs1⟩,rfl,_⟩:=okWide_struct Tryz.underlying54 (hval 1 54 v1 rfl rfl)
 have e1':cs1=_:=e1
 subst e1'
 have k2:=h2
 have lt2:∀ x∈m2,x.block < W.heap.size:=by obtain ⟨m,hm⟩:=k2;exact DataW.trod_lt m _ _ _ hm
 obtain ⟨fu2,hh2⟩:=h2
 obtain ⟨a2,e2,o2,-⟩:=rd70 hh2
 obtain ⟨z2,rfl⟩:=okWide_int Tryz.underlying70 (hval 2 70 v2 rfl rfl)
 obtain rfl:a2=z2:=(by simpa [Value.cells] using e2:z2=a2).symm
 clear hA0 hval0
 refine (Uu a0 a1 a2 f0_0 ((fun l r n _ _ o=>Ag5 l r n o) a0 a1 a2 o0 o1 o2) W (Ay1 W)).2.mono fun e W' hr=>?_
 obtain ⟨v,Ln,rfl,⟨hv,rfl,-⟩,_,hh⟩:=hr
 subst hv
 have bel:Below W.heap.size W W':=(hh.ok (.old W) (by simp)).1
 exact ⟨_,rfl,_,_,_,[],_,[],hW',trodAll_mk1 (shut_bool Tryz.underlying4 _),(trodAll_cons_mk (Below.trod Afi (by kernel_rfl) (of_decide_eq_true (by kernel_rfl)) k0 bel lt0) (trodAll_cons_mk (Below.trod Afi (by kernel_rfl) (of_decide_eq_true (by kernel_rfl)) k1 bel lt1) (trodAll_cons_mk (Below.trod Afi (by kernel_rfl) (of_decide_eq_true (by kernel_rfl)) k2 bel lt2) trodAll_mk0))),rfl,bel.frame _,fun h=>by cases h⟩
set_option maxRecDepth 100000 in
set_option maxHeartbeats 4000000 in
theorem labelLifts_facts:joinedFacts Tryz.prog 11 Tryz.f11 Rows.labelLiftsSpec Rows.labelLiftsRow=true:=by
 unfold joinedFacts
 repeat' first | (with_reducible refine (Bool.and_eq_true _ _).mpr ⟨?_,?_⟩) | decide +kernel
theorem labelLifts_proved:Rows.LabelLiftsSaid :=
 OpenClaim.holds_of_wide 11 Tryz.f11 rfl rfl rfl rfl rfl rfl rfl ⟨rfl,rfl,rfl,rfl,rfl⟩ rfl rfl rfl rfl rfl (by kernel_rfl) Tryz.func11 labelLifts_facts
  (of_decide_eq_true (by kernel_rfl)) (by unfold Func.isWrapper;first | (rw [if_pos (by decide +kernel)];kernel_rfl) | (rw [if_neg (by decide +kernel)];exact ⟨rfl,rfl⟩))
  (fun os started H enc _=>labelLiftsLifted os started H enc)
#print axioms labelLifts_proved
end Go.Proofs.YtbkobeeileemjaaGreat
