/- MeshVolumes returns true for any input and any base, and leaves them as they were. No conditions. -/
import Derived.Test.YtjfndjmabhbicaaGreatRd
namespace Go.Proofs.YtjfndjmabhbicaaGreat
open Go Go.ChangeShapes Go.WideShapes Go.ChangeAt Go.RowKit
def ok_S_api_Span (x:Al):Prop:=rI64 x.Lo/\rI64 x.Hi
def ok_S_api_Vertex (x:Ab):Prop:=rI64 x.X/\rI64 x.Y/\ok_S_api_Span x.Z
def ok_S_arr2_int (x:Aa):Prop:=rI64 x.a0/\rI64 x.a1
def ok_S_lidarlaw06_Input (x:Du):Prop:=(∀ z∈x.V,ok_S_api_Vertex z)/\(∀ z∈x.Lines,ok_S_arr2_int z)
theorem rd3 {H:Type} {enc:TypeId × Value->H} {w:World} {base:Nat} {spare:Nat->Bool} {held:Bool} {fuel:Nat} {cs:List Value} {x:DataW H × List MemPlace} (h:DataW.trod enc Tryz.prog w base spare held fuel 3 cs=some x):∃ (v:Int),cs=[.int .i64 (v)]/\rI64 v/\True:=by
 obtain ⟨z,h1,h2⟩:=Ayv Tryz.underlying3 h
 exact ⟨z,h1,h2,trivial⟩
theorem rd68 {H:Type} {enc:TypeId × Value->H} {w:World} {base:Nat} {spare:Nat->Bool} {held:Bool} {fuel:Nat} {cs:List Value} {x:DataW H × List MemPlace} (h:DataW.trod enc Tryz.prog w base spare held fuel 68 cs=some x):∃ (v:Al),cs=[.int .i64 (v.Lo),.int .i64 (v.Hi)]/\ok_S_api_Span v/\True:=by
 obtain ⟨xs,n,_,_,hl,hlen,hf⟩:=DataW.trod_struct Tryz.underlying68 h
 have hlen':xs.length=2:=hlen
 have hl':cs.length=2:=hl.trans (by kernel_rfl)
 have h0:DataW.trod enc Tryz.prog w base spare held n 3 (List.take (Tryz.prog.cellsOf 3) (List.drop 0 cs))=xs[0]?:=hf 0 _ rfl
 rw[show Tryz.prog.cellsOf 3=1 from by kernel_rfl,List.getElem?_eq_getElem (by omega)] at h0
 obtain ⟨v0,e0,o0,-⟩:=rd3 h0
 have h1:DataW.trod enc Tryz.prog w base spare held n 3 (List.take (Tryz.prog.cellsOf 3) (List.drop 1 cs))=xs[1]?:=hf 1 _ rfl
 rw[show Tryz.prog.cellsOf 3=1 from by kernel_rfl,List.getElem?_eq_getElem (by omega)] at h1
 obtain ⟨v1,e1,o1,-⟩:=rd3 h1
 refine ⟨⟨v0,v1⟩,?_,⟨o0,o1⟩,trivial⟩
 have:=Sp (o:=0) (o':=1) e0 (Sp (o:=1) (o':=2) e1 (Ain hl') rfl) rfl
 simpa using this
theorem rd70 {H:Type} {enc:TypeId × Value->H} {w:World} {base:Nat} {spare:Nat->Bool} {held:Bool} {fuel:Nat} {cs:List Value} {x:DataW H × List MemPlace} (h:DataW.trod enc Tryz.prog w base spare held fuel 70 cs=some x):∃ (v:Ab),cs=[.int .i64 (v.X),.int .i64 (v.Y),.int .i64 (v.Z.Lo),.int .i64 (v.Z.Hi)]/\ok_S_api_Vertex v/\True:=by
 obtain ⟨xs,n,_,_,hl,hlen,hf⟩:=DataW.trod_struct Tryz.underlying70 h
 have hlen':xs.length=3:=hlen
 have hl':cs.length=4:=hl.trans (by kernel_rfl)
 have h0:DataW.trod enc Tryz.prog w base spare held n 3 (List.take (Tryz.prog.cellsOf 3) (List.drop 0 cs))=xs[0]?:=hf 0 _ rfl
 rw[show Tryz.prog.cellsOf 3=1 from by kernel_rfl,List.getElem?_eq_getElem (by omega)] at h0
 obtain ⟨v0,e0,o0,-⟩:=rd3 h0
 have h1:DataW.trod enc Tryz.prog w base spare held n 3 (List.take (Tryz.prog.cellsOf 3) (List.drop 1 cs))=xs[1]?:=hf 1 _ rfl
 rw[show Tryz.prog.cellsOf 3=1 from by kernel_rfl,List.getElem?_eq_getElem (by omega)] at h1
 obtain ⟨v1,e1,o1,-⟩:=rd3 h1
 have h2:DataW.trod enc Tryz.prog w base spare held n 68 (List.take (Tryz.prog.cellsOf 68) (List.drop 2 cs))=xs[2]?:=hf 2 _ rfl
 rw[show Tryz.prog.cellsOf 68=2 from by kernel_rfl,List.getElem?_eq_getElem (by omega)] at h2
 obtain ⟨v2,e2,o2,-⟩:=rd68 h2
 refine ⟨⟨v0,v1,v2⟩,?_,⟨o0,o1,o2⟩,trivial⟩
 have:=Sp (o:=0) (o':=1) e0 (Sp (o:=1) (o':=2) e1 (Sp (o:=2) (o':=4) e2 (Ain hl') rfl) rfl) rfl
 simpa using this
theorem rd22 {H:Type} {enc:TypeId × Value->H} {w:World} {base:Nat} {spare:Nat->Bool} {held:Bool} {fuel:Nat} {cs:List Value} {x:DataW H × List MemPlace} (h:DataW.trod enc Tryz.prog w base spare held fuel 22 cs=some x):∃ (v:List Ab) (A0:Option Addr) (c0:Nat),cs=[.slice (A0) ((v).length) (c0)]/\Has [.old w] A0 (v).length c0 4 Ah (v)/\(∀ z∈v,ok_S_api_Vertex z)/\True:=by
 obtain ⟨v,A,c,h1,h2,h3⟩:=Akh (en:=Ah) (okα:=ok_S_api_Vertex) Tryz.underlying22 (show Tryz.prog.cellsOf 70=4 from by kernel_rfl) (by decide) (fun h=>by obtain ⟨v,h1,h2⟩:=rd70 h;exact ⟨v,h1,h2.1⟩) h
 exact ⟨v,A,c,h1,h2,h3,trivial⟩
theorem rd62 {H:Type} {enc:TypeId × Value->H} {w:World} {base:Nat} {spare:Nat->Bool} {held:Bool} {fuel:Nat} {cs:List Value} {x:DataW H × List MemPlace} (h:DataW.trod enc Tryz.prog w base spare held fuel 62 cs=some x):∃ (v:Aa),cs=[.int .i64 (v.a0),.int .i64 (v.a1)]/\ok_S_arr2_int v/\True:=by
 obtain ⟨xs,n,_,_,hl,hlen,hf⟩:=DataW.trod_array Tryz.underlying62 h
 have hlen':xs.length=2:=hlen
 have hl':cs.length=2:=hl.trans (by kernel_rfl)
 rw[show Tryz.prog.cellsOf 3=1 from by kernel_rfl] at hf
 have h0:DataW.trod enc Tryz.prog w base spare held n 3 (List.take 1 (List.drop 0 cs))=xs[0]?:=hf 0 (by decide)
 rw[List.getElem?_eq_getElem (by omega)] at h0
 obtain ⟨v0,e0,o0,-⟩:=rd3 h0
 have h1:DataW.trod enc Tryz.prog w base spare held n 3 (List.take 1 (List.drop 1 cs))=xs[1]?:=hf 1 (by decide)
 rw[List.getElem?_eq_getElem (by omega)] at h1
 obtain ⟨v1,e1,o1,-⟩:=rd3 h1
 refine ⟨⟨v0,v1⟩,?_,⟨o0,o1⟩,trivial⟩
 have:=Sp (o:=0) (o':=1) e0 (Sp (o:=1) (o':=2) e1 (Ain hl') rfl) rfl
 simpa using this
theorem rd23 {H:Type} {enc:TypeId × Value->H} {w:World} {base:Nat} {spare:Nat->Bool} {held:Bool} {fuel:Nat} {cs:List Value} {x:DataW H × List MemPlace} (h:DataW.trod enc Tryz.prog w base spare held fuel 23 cs=some x):∃ (v:List Aa) (A0:Option Addr) (c0:Nat),cs=[.slice (A0) ((v).length) (c0)]/\Has [.old w] A0 (v).length c0 2 Ak (v)/\(∀ z∈v,ok_S_arr2_int z)/\True:=by
 obtain ⟨v,A,c,h1,h2,h3⟩:=Akh (en:=Ak) (okα:=ok_S_arr2_int) Tryz.underlying23 (show Tryz.prog.cellsOf 62=2 from by kernel_rfl) (by decide) (fun h=>by obtain ⟨v,h1,h2⟩:=rd62 h;exact ⟨v,h1,h2.1⟩) h
 exact ⟨v,A,c,h1,h2,h3,trivial⟩
theorem rd25 {H:Type} {enc:TypeId × Value->H} {w:World} {base:Nat} {spare:Nat->Bool} {held:Bool} {fuel:Nat} {cs:List Value} {x:DataW H × List MemPlace} (h:DataW.trod enc Tryz.prog w base spare held fuel 25 cs=some x):∃ (v:Du) (A0:Option Addr) (c0:Nat) (A1:Option Addr) (c1:Nat),cs=[.slice (A0) ((v.V).length) (c0),.slice (A1) ((v.Lines).length) (c1)]/\Has [.old w] A0 (v.V).length c0 4 Ah (v.V)/\Has [.old w] A1 (v.Lines).length c1 2 Ak (v.Lines)/\ok_S_lidarlaw06_Input v/\True:=by
 obtain ⟨xs,n,_,_,hl,hlen,hf⟩:=DataW.trod_struct Tryz.underlying25 h
 have hlen':xs.length=2:=hlen
 have hl':cs.length=2:=hl.trans (by kernel_rfl)
 have h0:DataW.trod enc Tryz.prog w base spare held n 22 (List.take (Tryz.prog.cellsOf 22) (List.drop 0 cs))=xs[0]?:=hf 0 _ rfl
 rw[show Tryz.prog.cellsOf 22=1 from by kernel_rfl,List.getElem?_eq_getElem (by omega)] at h0
 obtain ⟨v0,A0_0,c0_0,e0,f0_0,o0,-⟩:=rd22 h0
 have h1:DataW.trod enc Tryz.prog w base spare held n 23 (List.take (Tryz.prog.cellsOf 23) (List.drop 1 cs))=xs[1]?:=hf 1 _ rfl
 rw[show Tryz.prog.cellsOf 23=1 from by kernel_rfl,List.getElem?_eq_getElem (by omega)] at h1
 obtain ⟨v1,A1_0,c1_0,e1,f1_0,o1,-⟩:=rd23 h1
 refine ⟨⟨v0,v1⟩,A0_0,c0_0,A1_0,c1_0,?_,f0_0,f1_0,⟨o0,o1⟩,trivial⟩
 have:=Sp (o:=0) (o':=1) e0 (Sp (o:=1) (o':=2) e1 (Ain hl') rfl) rfl
 simpa using this
set_option maxRecDepth 100000 in
set_option maxHeartbeats 1000000 in
theorem meshVolumesLifted (os:Os) (started:os.Started) (H:Type) (enc:TypeId × Value->H) :
  ReturnsInHanded {} Tryz.checked os 4 .any (Rows.meshVolumesSpec.pre6 enc Tryz.prog Tryz.f4 Rows.meshVolumesRow.domain false) (Rows.meshVolumesSpec.post enc Tryz.prog Tryz.f4 false true false false):=by
 refine returnsInHanded_of_change (C:=Tryz.checked) own2 started (by kernel_rfl) Tryz.func4
  (ChangeSpec.witness6 (enc:=enc) (C:=Tryz.checked) false ⟨#[],#[.agg #[.slice (none) (0) (0),.slice (none) (0) (0)],.int .i64 (0)],[]⟩ 16 (by kernel_rfl) (by kernel_rfl) (by kernel_rfl) (by kernel_rfl)) ?_
 intro W base args ds gs before hval0 hW hcnd _
 have hval:∀ (j:Nat) t v,Tryz.f4.params[j]? = some t->args[j]? = some v->Value.okWide Tryz.prog W .any base t v:=hval0
 have hW':=hW
 obtain ⟨p,q,hA0,hV,rfl,hfz,hnd⟩:=hW
 have hA:DataW.TrodAll enc Tryz.prog W 0 (fun _=>true) true Tryz.f4.params.toList args.toList ds p:=hA0
 rw[Tryz.params4] at hA hval
 obtain ⟨v0,vs0,d0,ds0,m0,q0,hargs,rfl,rfl,h0,r0⟩:=trodAll_cons hA
 obtain ⟨v1,vs1,d1,ds1,m1,q1,rfl,rfl,rfl,h1,r1⟩:=trodAll_cons r0
 obtain ⟨rfl,rfl,rfl⟩:=trodAll_nil r1
 obtain rfl:args = #[v0,v1]:=by cases args;simp_all
 obtain ⟨rfl,rfl⟩:=trodVars_none hV
 have k0:=h0
 have lt0:∀ x∈m0,x.block < W.heap.size:=by obtain ⟨m,hm⟩:=k0;exact DataW.trod_lt m _ _ _ hm
 obtain ⟨fu0,hh0⟩:=h0
 obtain ⟨a0,A0_0,c0_0,A0_1,c0_1,e0,f0_0,f0_1,o0,-⟩:=rd25 hh0
 obtain ⟨⟨cs0⟩,rfl,_⟩:=okWide_struct Tryz.underlying25 (hval 0 25 v0 rfl rfl)
 have e0':cs0=_:=e0
 subst e0'
 have k1:=h1
 have lt1:∀ x∈m1,x.block < W.heap.size:=by obtain ⟨m,hm⟩:=k1;exact DataW.trod_lt m _ _ _ hm
 obtain ⟨fu1,hh1⟩:=h1
 obtain ⟨a1,e1,o1,-⟩:=rd3 hh1
 obtain ⟨z1,rfl⟩:=okWide_int Tryz.underlying3 (hval 1 3 v1 rfl rfl)
 obtain rfl:a1=z1:=(by simpa[Value.cells] using e1:z1=a1).symm
 clear hA0 hval0
 refine (Tp a0 a1 f0_0 f0_1 ((fun p b _ _=>Afb p b) a0 a1 o0 o1) W (Bbf W)).2.mono fun e W' hr=>?_
 obtain ⟨v,Ln,rfl,⟨hv,rfl,-⟩,_,hh⟩:=hr
 subst hv
 have bel:Below W.heap.size W W':=(hh.ok (.old W) (by simp)).1
 exact ⟨_,rfl,_,_,_,[],_,[],hW',trodAll_mk1 (shut_bool Tryz.underlying4 _),(trodAll_cons_mk (Below.trod Akg (by kernel_rfl) (of_decide_eq_true (by kernel_rfl)) k0 bel lt0) (trodAll_cons_mk (Below.trod Akg (by kernel_rfl) (of_decide_eq_true (by kernel_rfl)) k1 bel lt1) trodAll_mk0)),rfl,bel.frame _,fun h=>by cases h⟩
set_option maxRecDepth 100000 in
set_option maxHeartbeats 4000000 in
theorem meshVolumes_facts:joinedFacts Tryz.prog 4 Tryz.f4 Rows.meshVolumesSpec Rows.meshVolumesRow=true:=by
 unfold joinedFacts
 repeat' first | (with_reducible refine (Bool.and_eq_true _ _).mpr ⟨?_,?_⟩) | decide +kernel
theorem meshVolumes_proved:Rows.MeshVolumesSaid :=
 OpenClaim.holds_of_wide 4 Tryz.f4 rfl rfl rfl rfl rfl rfl rfl ⟨rfl,rfl,rfl,rfl,rfl⟩ rfl rfl rfl rfl rfl (by kernel_rfl) Tryz.func4 meshVolumes_facts
  (of_decide_eq_true (by kernel_rfl)) (by unfold Func.isWrapper;first | (rw[if_pos (by decide +kernel)];kernel_rfl) | (rw[if_neg (by decide +kernel)];exact ⟨rfl,rfl⟩))
  (fun os started H enc _=>meshVolumesLifted os started H enc)
#print axioms meshVolumes_proved
end Go.Proofs.YtjfndjmabhbicaaGreat
