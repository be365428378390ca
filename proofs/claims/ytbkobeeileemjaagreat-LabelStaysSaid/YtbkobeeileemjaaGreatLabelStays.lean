/- LabelStays returns true for any points, any rules, any edits and any two numbers, and leaves them as they were. No conditions. -/
import Derived.Test.YtbkobeeileemjaaGreatRd
namespace Go.Proofs.YtbkobeeileemjaaGreat
open Go Go.ChangeShapes Go.WideShapes Go.ChangeAt Go.RowKit
set_option maxRecDepth 100000
set_option maxHeartbeats 1000000
def ok_S_api_Span (x:Br):Prop:=rI64 x.Lo∧rI64 x.Hi
def ok_S_api_Point (x:Aa):Prop:=rI64 x.Id∧rI64 x.X∧rI64 x.Y∧ok_S_api_Span x.Z∧rI64 x.Wide∧rI64 x.Num∧rI64 x.Of∧rI64 x.Class
def ok_S_api_Terrain (x:Ag):Prop:=rI64 x.Cell∧rI64 x.Reach∧rI64 x.Slope∧rI64 x.Link∧rI64 x.Flat∧rI64 x.Tall∧rI64 x.High∧rI64 x.Low∧rI64 x.Brush∧rI64 x.Few
def ok_S_api_XY (x:Ab):Prop:=rI64 x.X∧rI64 x.Y
def ok_S_api_Edit (x:Bb):Prop:=rI64 x.Id∧(∀ z∈x.Ring,ok_S_api_XY z)∧rI64 x.From∧rI64 x.To
def ok_S_lidarlaw07_Staying (x:Dl):Prop:=(∀ z∈x.L,ok_S_api_Point z)∧ok_S_api_Terrain x.R∧(∀ z∈x.Edits,ok_S_api_Edit z)∧rU8 x.At∧rU8 x.To
theorem rd3 {H:Type} {enc:TypeId × Value→H} {w:World} {base:Nat} {spare:Nat→Bool} {held:Bool} {fuel:Nat} {cs:List Value} {x:DataW H × List MemPlace} (h:DataW.trod enc Tryz.prog w base spare held fuel 3 cs=some x):∃ (v:Int),cs=[.int .i64 (v)]∧rI64 v∧True:=by
 obtain ⟨z,h1,h2⟩:=Ayk Tryz.underlying3 h
 exact ⟨z,h1,h2,trivial⟩
theorem rd32 {H:Type} {enc:TypeId × Value→H} {w:World} {base:Nat} {spare:Nat→Bool} {held:Bool} {fuel:Nat} {cs:List Value} {x:DataW H × List MemPlace} (h:DataW.trod enc Tryz.prog w base spare held fuel 32 cs=some x):∃ (v:Br),cs=[.int .i64 (v.Lo),.int .i64 (v.Hi)]∧ok_S_api_Span v∧True:=by
 obtain ⟨xs,n,_,_,hl,hlen,hf⟩:=DataW.trod_struct Tryz.underlying32 h
 have hlen':xs.length=2:=hlen
 have hl':cs.length=2:=hl.trans (by kernel_rfl)
 have h0:DataW.trod enc Tryz.prog w base spare held n 3 (List.take (Tryz.prog.cellsOf 3) (List.drop 0 cs))=xs[0]?:=hf 0 _ rfl
 rw [show Tryz.prog.cellsOf 3=1 from by kernel_rfl,List.getElem?_eq_getElem (by omega)] at h0
 obtain ⟨v0,e0,o0,-⟩:=rd3 h0
 have h1:DataW.trod enc Tryz.prog w base spare held n 3 (List.take (Tryz.prog.cellsOf 3) (List.drop 1 cs))=xs[1]?:=hf 1 _ rfl
 rw [show Tryz.prog.cellsOf 3=1 from by kernel_rfl,List.getElem?_eq_getElem (by omega)] at h1
 obtain ⟨v1,e1,o1,-⟩:=rd3 h1
 refine ⟨⟨v0,v1⟩,?_,⟨o0,o1⟩,trivial⟩
 have:=Dx (o:=0) (o':=1) e0 (Dx (o:=1) (o':=2) e1 (Adl hl') rfl) rfl
 simpa using this
theorem rd66 {H:Type} {enc:TypeId × Value→H} {w:World} {base:Nat} {spare:Nat→Bool} {held:Bool} {fuel:Nat} {cs:List Value} {x:DataW H × List MemPlace} (h:DataW.trod enc Tryz.prog w base spare held fuel 66 cs=some x):∃ (v:Aa),cs=[.int .i64 (v.Id),.int .i64 (v.X),.int .i64 (v.Y),.int .i64 (v.Z.Lo),.int .i64 (v.Z.Hi),.int .i64 (v.Wide),.int .i64 (v.Num),.int .i64 (v.Of),.int .i64 (v.Class)]∧ok_S_api_Point v∧True:=by
 obtain ⟨xs,n,_,_,hl,hlen,hf⟩:=DataW.trod_struct Tryz.underlying66 h
 have hlen':xs.length=8:=hlen
 have hl':cs.length=9:=hl.trans (by kernel_rfl)
 have h0:DataW.trod enc Tryz.prog w base spare held n 3 (List.take (Tryz.prog.cellsOf 3) (List.drop 0 cs))=xs[0]?:=hf 0 _ rfl
 rw [show Tryz.prog.cellsOf 3=1 from by kernel_rfl,List.getElem?_eq_getElem (by omega)] at h0
 obtain ⟨v0,e0,o0,-⟩:=rd3 h0
 have h1:DataW.trod enc Tryz.prog w base spare held n 3 (List.take (Tryz.prog.cellsOf 3) (List.drop 1 cs))=xs[1]?:=hf 1 _ rfl
 rw [show Tryz.prog.cellsOf 3=1 from by kernel_rfl,List.getElem?_eq_getElem (by omega)] at h1
 obtain ⟨v1,e1,o1,-⟩:=rd3 h1
 have h2:DataW.trod enc Tryz.prog w base spare held n 3 (List.take (Tryz.prog.cellsOf 3) (List.drop 2 cs))=xs[2]?:=hf 2 _ rfl
 rw [show Tryz.prog.cellsOf 3=1 from by kernel_rfl,List.getElem?_eq_getElem (by omega)] at h2
 obtain ⟨v2,e2,o2,-⟩:=rd3 h2
 have h3:DataW.trod enc Tryz.prog w base spare held n 32 (List.take (Tryz.prog.cellsOf 32) (List.drop 3 cs))=xs[3]?:=hf 3 _ rfl
 rw [show Tryz.prog.cellsOf 32=2 from by kernel_rfl,List.getElem?_eq_getElem (by omega)] at h3
 obtain ⟨v3,e3,o3,-⟩:=rd32 h3
 have h4:DataW.trod enc Tryz.prog w base spare held n 3 (List.take (Tryz.prog.cellsOf 3) (List.drop 5 cs))=xs[4]?:=hf 4 _ rfl
 rw [show Tryz.prog.cellsOf 3=1 from by kernel_rfl,List.getElem?_eq_getElem (by omega)] at h4
 obtain ⟨v4,e4,o4,-⟩:=rd3 h4
 have h5:DataW.trod enc Tryz.prog w base spare held n 3 (List.take (Tryz.prog.cellsOf 3) (List.drop 6 cs))=xs[5]?:=hf 5 _ rfl
 rw [show Tryz.prog.cellsOf 3=1 from by kernel_rfl,List.getElem?_eq_getElem (by omega)] at h5
 obtain ⟨v5,e5,o5,-⟩:=rd3 h5
 have h6:DataW.trod enc Tryz.prog w base spare held n 3 (List.take (Tryz.prog.cellsOf 3) (List.drop 7 cs))=xs[6]?:=hf 6 _ rfl
 rw [show Tryz.prog.cellsOf 3=1 from by kernel_rfl,List.getElem?_eq_getElem (by omega)] at h6
 obtain ⟨v6,e6,o6,-⟩:=rd3 h6
 have h7:DataW.trod enc Tryz.prog w base spare held n 3 (List.take (Tryz.prog.cellsOf 3) (List.drop 8 cs))=xs[7]?:=hf 7 _ rfl
 rw [show Tryz.prog.cellsOf 3=1 from by kernel_rfl,List.getElem?_eq_getElem (by omega)] at h7
 obtain ⟨v7,e7,o7,-⟩:=rd3 h7
 refine ⟨⟨v0,v1,v2,v3,v4,v5,v6,v7⟩,?_,⟨o0,o1,o2,o3,o4,o5,o6,o7⟩,trivial⟩
 have:=Dx (o:=0) (o':=1) e0 (Dx (o:=1) (o':=2) e1 (Dx (o:=2) (o':=3) e2 (Dx (o:=3) (o':=5) e3 (Dx (o:=5) (o':=6) e4 (Dx (o:=6) (o':=7) e5 (Dx (o:=7) (o':=8) e6 (Dx (o:=8) (o':=9) e7 (Adl hl') rfl) rfl) rfl) rfl) rfl) rfl) rfl) rfl
 simpa using this
theorem rd47 {H:Type} {enc:TypeId × Value→H} {w:World} {base:Nat} {spare:Nat→Bool} {held:Bool} {fuel:Nat} {cs:List Value} {x:DataW H × List MemPlace} (h:DataW.trod enc Tryz.prog w base spare held fuel 47 cs=some x):∃ (v:List Aa) (A0:Option Addr) (c0:Nat),cs=[.slice (A0) ((v).length) (c0)]∧Has [.old w] A0 (v).length c0 9 Af (v)∧(∀ z∈v,ok_S_api_Point z)∧True:=by
 obtain ⟨v,A,c,h1,h2,h3⟩:=Agk (en:=Af) (okα:=ok_S_api_Point) Tryz.underlying47 (show Tryz.prog.cellsOf 66=9 from by kernel_rfl) (by decide) (fun h=>by obtain ⟨v,h1,h2⟩:=rd66 h;exact ⟨v,h1,h2.1⟩) h
 exact ⟨v,A,c,h1,h2,h3,trivial⟩
theorem rd54 {H:Type} {enc:TypeId × Value→H} {w:World} {base:Nat} {spare:Nat→Bool} {held:Bool} {fuel:Nat} {cs:List Value} {x:DataW H × List MemPlace} (h:DataW.trod enc Tryz.prog w base spare held fuel 54 cs=some x):∃ (v:Ag),cs=[.int .i64 (v.Cell),.int .i64 (v.Reach),.int .i64 (v.Slope),.int .i64 (v.Link),.int .i64 (v.Flat),.int .i64 (v.Tall),.int .i64 (v.High),.int .i64 (v.Low),.int .i64 (v.Brush),.int .i64 (v.Few)]∧ok_S_api_Terrain v∧True:=by
 obtain ⟨xs,n,_,_,hl,hlen,hf⟩:=DataW.trod_struct Tryz.underlying54 h
 have hlen':xs.length=10:=hlen
 have hl':cs.length=10:=hl.trans (by kernel_rfl)
 have h0:DataW.trod enc Tryz.prog w base spare held n 3 (List.take (Tryz.prog.cellsOf 3) (List.drop 0 cs))=xs[0]?:=hf 0 _ rfl
 rw [show Tryz.prog.cellsOf 3=1 from by kernel_rfl,List.getElem?_eq_getElem (by omega)] at h0
 obtain ⟨v0,e0,o0,-⟩:=rd3 h0
 have h1:DataW.trod enc Tryz.prog w base spare held n 3 (List.take (Tryz.prog.cellsOf 3) (List.drop 1 cs))=xs[1]?:=hf 1 _ rfl
 rw [show Tryz.prog.cellsOf 3=1 from by kernel_rfl,List.getElem?_eq_getElem (by omega)] at h1
 obtain ⟨v1,e1,o1,-⟩:=rd3 h1
 have h2:DataW.trod enc Tryz.prog w base spare held n 3 (List.take (Tryz.prog.cellsOf 3) (List.drop 2 cs))=xs[2]?:=hf 2 _ rfl
 rw [show Tryz.prog.cellsOf 3=1 from by kernel_rfl,List.getElem?_eq_getElem (by omega)] at h2
 obtain ⟨v2,e2,o2,-⟩:=rd3 h2
 have h3:DataW.trod enc Tryz.prog w base spare held n 3 (List.take (Tryz.prog.cellsOf 3) (List.drop 3 cs))=xs[3]?:=hf 3 _ rfl
 rw [show Tryz.prog.cellsOf 3=1 from by kernel_rfl,List.getElem?_eq_getElem (by omega)] at h3
 obtain ⟨v3,e3,o3,-⟩:=rd3 h3
 have h4:DataW.trod enc Tryz.prog w base spare held n 3 (List.take (Tryz.prog.cellsOf 3) (List.drop 4 cs))=xs[4]?:=hf 4 _ rfl
 rw [show Tryz.prog.cellsOf 3=1 from by kernel_rfl,List.getElem?_eq_getElem (by omega)] at h4
 obtain ⟨v4,e4,o4,-⟩:=rd3 h4
 have h5:DataW.trod enc Tryz.prog w base spare held n 3 (List.take (Tryz.prog.cellsOf 3) (List.drop 5 cs))=xs[5]?:=hf 5 _ rfl
 rw [show Tryz.prog.cellsOf 3=1 from by kernel_rfl,List.getElem?_eq_getElem (by omega)] at h5
 obtain ⟨v5,e5,o5,-⟩:=rd3 h5
 have h6:DataW.trod enc Tryz.prog w base spare held n 3 (List.take (Tryz.prog.cellsOf 3) (List.drop 6 cs))=xs[6]?:=hf 6 _ rfl
 rw [show Tryz.prog.cellsOf 3=1 from by kernel_rfl,List.getElem?_eq_getElem (by omega)] at h6
 obtain ⟨v6,e6,o6,-⟩:=rd3 h6
 have h7:DataW.trod enc Tryz.prog w base spare held n 3 (List.take (Tryz.prog.cellsOf 3) (List.drop 7 cs))=xs[7]?:=hf 7 _ rfl
 rw [show Tryz.prog.cellsOf 3=1 from by kernel_rfl,List.getElem?_eq_getElem (by omega)] at h7
 obtain ⟨v7,e7,o7,-⟩:=rd3 h7
 have h8:DataW.trod enc Tryz.prog w base spare held n 3 (List.take (Tryz.prog.cellsOf 3) (List.drop 8 cs))=xs[8]?:=hf 8 _ rfl
 rw [show Tryz.prog.cellsOf 3=1 from by kernel_rfl,List.getElem?_eq_getElem (by omega)] at h8
 obtain ⟨v8,e8,o8,-⟩:=rd3 h8
 have h9:DataW.trod enc Tryz.prog w base spare held n 3 (List.take (Tryz.prog.cellsOf 3) (List.drop 9 cs))=xs[9]?:=hf 9 _ rfl
 rw [show Tryz.prog.cellsOf 3=1 from by kernel_rfl,List.getElem?_eq_getElem (by omega)] at h9
 obtain ⟨v9,e9,o9,-⟩:=rd3 h9
 refine ⟨⟨v0,v1,v2,v3,v4,v5,v6,v7,v8,v9⟩,?_,⟨o0,o1,o2,o3,o4,o5,o6,o7,o8,o9⟩,trivial⟩
 have:=Dx (o:=0) (o':=1) e0 (Dx (o:=1) (o':=2) e1 (Dx (o:=2) (o':=3) e2 (Dx (o:=3) (o':=4) e3 (Dx (o:=4) (o':=5) e4 (Dx (o:=5) (o':=6) e5 (Dx (o:=6) (o':=7) e6 (Dx (o:=7) (o':=8) e7 (Dx (o:=8) (o':=9) e8 (Dx (o:=9) (o':=10) e9 (Adl hl') rfl) rfl) rfl) rfl) rfl) rfl) rfl) rfl) rfl) rfl
 simpa using this
theorem rd28 {H:Type} {enc:TypeId × Value→H} {w:World} {base:Nat} {spare:Nat→Bool} {held:Bool} {fuel:Nat} {cs:List Value} {x:DataW H × List MemPlace} (h:DataW.trod enc Tryz.prog w base spare held fuel 28 cs=some x):∃ (v:Ab),cs=[.int .i64 (v.X),.int .i64 (v.Y)]∧ok_S_api_XY v∧True:=by
 obtain ⟨xs,n,_,_,hl,hlen,hf⟩:=DataW.trod_struct Tryz.underlying28 h
 have hlen':xs.length=2:=hlen
 have hl':cs.length=2:=hl.trans (by kernel_rfl)
 have h0:DataW.trod enc Tryz.prog w base spare held n 3 (List.take (Tryz.prog.cellsOf 3) (List.drop 0 cs))=xs[0]?:=hf 0 _ rfl
 rw [show Tryz.prog.cellsOf 3=1 from by kernel_rfl,List.getElem?_eq_getElem (by omega)] at h0
 obtain ⟨v0,e0,o0,-⟩:=rd3 h0
 have h1:DataW.trod enc Tryz.prog w base spare held n 3 (List.take (Tryz.prog.cellsOf 3) (List.drop 1 cs))=xs[1]?:=hf 1 _ rfl
 rw [show Tryz.prog.cellsOf 3=1 from by kernel_rfl,List.getElem?_eq_getElem (by omega)] at h1
 obtain ⟨v1,e1,o1,-⟩:=rd3 h1
 refine ⟨⟨v0,v1⟩,?_,⟨o0,o1⟩,trivial⟩
 have:=Dx (o:=0) (o':=1) e0 (Dx (o:=1) (o':=2) e1 (Adl hl') rfl) rfl
 simpa using this
theorem rd82 {H:Type} {enc:TypeId × Value→H} {w:World} {base:Nat} {spare:Nat→Bool} {held:Bool} {fuel:Nat} {cs:List Value} {x:DataW H × List MemPlace} (h:DataW.trod enc Tryz.prog w base spare held fuel 82 cs=some x):∃ (v:List Ab) (A0:Option Addr) (c0:Nat),cs=[.slice (A0) ((v).length) (c0)]∧Has [.old w] A0 (v).length c0 2 Ej (v)∧(∀ z∈v,ok_S_api_XY z)∧True:=by
 obtain ⟨v,A,c,h1,h2,h3⟩:=Agk (en:=Ej) (okα:=ok_S_api_XY) Tryz.underlying82 (show Tryz.prog.cellsOf 28=2 from by kernel_rfl) (by decide) (fun h=>by obtain ⟨v,h1,h2⟩:=rd28 h;exact ⟨v,h1,h2.1⟩) h
 exact ⟨v,A,c,h1,h2,h3,trivial⟩
theorem rd84 {H:Type} {enc:TypeId × Value→H} {w:World} {base:Nat} {spare:Nat→Bool} {held:Bool} {fuel:Nat} {cs:List Value} {x:DataW H × List MemPlace} (h:DataW.trod enc Tryz.prog w base spare held fuel 84 cs=some x):∃ (v:Bb) (A0:Option Addr) (c0:Nat),cs=[.int .i64 (v.Id),.slice (A0) ((v.Ring).length) (c0),.int .i64 (v.From),.int .i64 (v.To)]∧Has [.old w] A0 (v.Ring).length c0 2 Ej (v.Ring)∧ok_S_api_Edit v∧True:=by
 obtain ⟨xs,n,_,_,hl,hlen,hf⟩:=DataW.trod_struct Tryz.underlying84 h
 have hlen':xs.length=4:=hlen
 have hl':cs.length=4:=hl.trans (by kernel_rfl)
 have h0:DataW.trod enc Tryz.prog w base spare held n 3 (List.take (Tryz.prog.cellsOf 3) (List.drop 0 cs))=xs[0]?:=hf 0 _ rfl
 rw [show Tryz.prog.cellsOf 3=1 from by kernel_rfl,List.getElem?_eq_getElem (by omega)] at h0
 obtain ⟨v0,e0,o0,-⟩:=rd3 h0
 have h1:DataW.trod enc Tryz.prog w base spare held n 82 (List.take (Tryz.prog.cellsOf 82) (List.drop 1 cs))=xs[1]?:=hf 1 _ rfl
 rw [show Tryz.prog.cellsOf 82=1 from by kernel_rfl,List.getElem?_eq_getElem (by omega)] at h1
 obtain ⟨v1,A1_0,c1_0,e1,f1_0,o1,-⟩:=rd82 h1
 have h2:DataW.trod enc Tryz.prog w base spare held n 3 (List.take (Tryz.prog.cellsOf 3) (List.drop 2 cs))=xs[2]?:=hf 2 _ rfl
 rw [show Tryz.prog.cellsOf 3=1 from by kernel_rfl,List.getElem?_eq_getElem (by omega)] at h2
 obtain ⟨v2,e2,o2,-⟩:=rd3 h2
 have h3:DataW.trod enc Tryz.prog w base spare held n 3 (List.take (Tryz.prog.cellsOf 3) (List.drop 3 cs))=xs[3]?:=hf 3 _ rfl
 rw [show Tryz.prog.cellsOf 3=1 from by kernel_rfl,List.getElem?_eq_getElem (by omega)] at h3
 obtain ⟨v3,e3,o3,-⟩:=rd3 h3
 refine ⟨⟨v0,v1,v2,v3⟩,A1_0,c1_0,?_,f1_0,⟨o0,o1,o2,o3⟩,trivial⟩
 have:=Dx (o:=0) (o':=1) e0 (Dx (o:=1) (o':=2) e1 (Dx (o:=2) (o':=3) e2 (Dx (o:=3) (o':=4) e3 (Adl hl') rfl) rfl) rfl) rfl
 simpa using this
theorem rd73 {H:Type} {enc:TypeId × Value→H} {w:World} {base:Nat} {spare:Nat→Bool} {held:Bool} {fuel:Nat} {cs:List Value} {x:DataW H × List MemPlace} (h:DataW.trod enc Tryz.prog w base spare held fuel 73 cs=some x):∃ (v:List Bb) (A0:Option Addr) (c0:Nat),cs=[.slice (A0) ((v).length) (c0)]∧HasN [.old w] A0 (v).length c0 4 Dk (v)∧(∀ z∈v,ok_S_api_Edit z)∧True:=by
 obtain ⟨v,A,c,h1,h2,h3⟩:=Ara (R:=Dk) (okα:=ok_S_api_Edit) Tryz.underlying73 (show Tryz.prog.cellsOf 84=4 from by kernel_rfl) (by decide) (fun h=>by obtain ⟨v,A0,c0,h1,f0,o,-⟩:=rd84 h;exact ⟨v,⟨A0,c0,h1,f0⟩,o⟩) h
 exact ⟨v,A,c,h1,h2,h3,trivial⟩
theorem rd5 {H:Type} {enc:TypeId × Value→H} {w:World} {base:Nat} {spare:Nat→Bool} {held:Bool} {fuel:Nat} {cs:List Value} {x:DataW H × List MemPlace} (h:DataW.trod enc Tryz.prog w base spare held fuel 5 cs=some x):∃ (v:Int),cs=[.int .u8 (v)]∧rU8 v∧True:=by
 obtain ⟨z,h1,h2⟩:=Az1 Tryz.underlying5 h
 exact ⟨z,h1,h2,trivial⟩
theorem rd80 {H:Type} {enc:TypeId × Value→H} {w:World} {base:Nat} {spare:Nat→Bool} {held:Bool} {fuel:Nat} {cs:List Value} {x:DataW H × List MemPlace} (h:DataW.trod enc Tryz.prog w base spare held fuel 80 cs=some x):∃ (v:Dl) (A0:Option Addr) (c0:Nat) (A1:Option Addr) (c1:Nat),cs=[.slice (A0) ((v.L).length) (c0),.int .i64 (v.R.Cell),.int .i64 (v.R.Reach),.int .i64 (v.R.Slope),.int .i64 (v.R.Link),.int .i64 (v.R.Flat),.int .i64 (v.R.Tall),.int .i64 (v.R.High),.int .i64 (v.R.Low),.int .i64 (v.R.Brush),.int .i64 (v.R.Few),.slice (A1) ((v.Edits).length) (c1),.int .u8 (v.At),.int .u8 (v.To)]∧Has [.old w] A0 (v.L).length c0 9 Af (v.L)∧HasN [.old w] A1 (v.Edits).length c1 4 Dk (v.Edits)∧ok_S_lidarlaw07_Staying v∧True:=by
 obtain ⟨xs,n,_,_,hl,hlen,hf⟩:=DataW.trod_struct Tryz.underlying80 h
 have hlen':xs.length=5:=hlen
 have hl':cs.length=14:=hl.trans (by kernel_rfl)
 have h0:DataW.trod enc Tryz.prog w base spare held n 47 (List.take (Tryz.prog.cellsOf 47) (List.drop 0 cs))=xs[0]?:=hf 0 _ rfl
 rw [show Tryz.prog.cellsOf 47=1 from by kernel_rfl,List.getElem?_eq_getElem (by omega)] at h0
 obtain ⟨v0,A0_0,c0_0,e0,f0_0,o0,-⟩:=rd47 h0
 have h1:DataW.trod enc Tryz.prog w base spare held n 54 (List.take (Tryz.prog.cellsOf 54) (List.drop 1 cs))=xs[1]?:=hf 1 _ rfl
 rw [show Tryz.prog.cellsOf 54=10 from by kernel_rfl,List.getElem?_eq_getElem (by omega)] at h1
 obtain ⟨v1,e1,o1,-⟩:=rd54 h1
 have h2:DataW.trod enc Tryz.prog w base spare held n 73 (List.take (Tryz.prog.cellsOf 73) (List.drop 11 cs))=xs[2]?:=hf 2 _ rfl
 rw [show Tryz.prog.cellsOf 73=1 from by kernel_rfl,List.getElem?_eq_getElem (by omega)] at h2
 obtain ⟨v2,A2_0,c2_0,e2,f2_0,o2,-⟩:=rd73 h2
 have h3:DataW.trod enc Tryz.prog w base spare held n 5 (List.take (Tryz.prog.cellsOf 5) (List.drop 12 cs))=xs[3]?:=hf 3 _ rfl
 rw [show Tryz.prog.cellsOf 5=1 from by kernel_rfl,List.getElem?_eq_getElem (by omega)] at h3
 obtain ⟨v3,e3,o3,-⟩:=rd5 h3
 have h4:DataW.trod enc Tryz.prog w base spare held n 5 (List.take (Tryz.prog.cellsOf 5) (List.drop 13 cs))=xs[4]?:=hf 4 _ rfl
 rw [show Tryz.prog.cellsOf 5=1 from by kernel_rfl,List.getElem?_eq_getElem (by omega)] at h4
 obtain ⟨v4,e4,o4,-⟩:=rd5 h4
 refine ⟨⟨v0,v1,v2,v3,v4⟩,A0_0,c0_0,A2_0,c2_0,?_,f0_0,f2_0,⟨o0,o1,o2,o3,o4⟩,trivial⟩
 have:=Dx (o:=0) (o':=1) e0 (Dx (o:=1) (o':=11) e1 (Dx (o:=11) (o':=12) e2 (Dx (o:=12) (o':=13) e3 (Dx (o:=13) (o':=14) e4 (Adl hl') rfl) rfl) rfl) rfl) rfl
 simpa using this
theorem labelStaysLifted (os:Os) (started:os.Started) (H:Type) (enc:TypeId × Value→H) :
  ReturnsInHanded {} Tryz.checked os 13 .any (Rows.labelStaysSpec.pre6 enc Tryz.prog Tryz.f13 Rows.labelStaysRow.domain false) (Rows.labelStaysSpec.post enc Tryz.prog Tryz.f13 false true false false):=by
 refine returnsInHanded_of_change (C:=Tryz.checked) own2 started (by kernel_rfl) Tryz.func13
  (ChangeSpec.witness6 (enc:=enc) (C:=Tryz.checked) false ⟨#[],#[.agg #[.slice (none) (0) (0),.int .i64 (0),.int .i64 (0),.int .i64 (0),.int .i64 (0),.int .i64 (0),.int .i64 (0),.int .i64 (0),.int .i64 (0),.int .i64 (0),.int .i64 (0),.slice (none) (0) (0),.int .u8 (0),.int .u8 (0)]],[]⟩ 16 (by kernel_rfl) (by kernel_rfl) (by kernel_rfl) (by kernel_rfl)) ?_
 intro W base args ds gs before hval0 hW hcnd _
 have hval:∀ (j:Nat) t v,Tryz.f13.params[j]? = some t→args[j]? = some v→Value.okWide Tryz.prog W .any base t v:=hval0
 have hW':=hW
 obtain ⟨p,q,hA0,hV,rfl,hfz,hnd⟩:=hW
 have hA:DataW.TrodAll enc Tryz.prog W 0 (fun _=>true) true Tryz.f13.params.toList args.toList ds p:=hA0
 rw [Tryz.params13] at hA hval
 obtain ⟨v0,vs0,d0,ds0,m0,q0,hargs,rfl,rfl,h0,r0⟩:=trodAll_cons hA
 obtain ⟨rfl,rfl,rfl⟩:=trodAll_nil r0
 obtain rfl:args = #[v0]:=by cases args;simp_all
 obtain ⟨rfl,rfl⟩:=trodVars_none hV
 have k0:=h0
 have lt0:∀ x∈m0,x.block < W.heap.size:=by obtain ⟨m,hm⟩:=k0;exact DataW.trod_lt m _ _ _ hm
 obtain ⟨fu0,hh0⟩:=h0
 obtain ⟨a0,A0_0,c0_0,A0_1,c0_1,e0,f0_0,f0_1,o0,-⟩:=rd80 hh0
 obtain ⟨⟨cs0⟩,rfl,_⟩:=okWide_struct Tryz.underlying80 (hval 0 80 v0 rfl rfl)
 have e0':cs0=_:=e0
 subst e0'
 clear hA0 hval0
 refine (Ox a0 f0_0 f0_1 ((fun (v:Dl) (o:ok_S_lidarlaw07_Staying v)=>Ah5 v o.2.2.2.1 o.2.2.2.2) a0 o0) W (Az2 W)).2.mono fun e W' hr=>?_
 obtain ⟨v,Ln,rfl,⟨hv,rfl,-⟩,_,hh⟩:=hr
 subst hv
 have bel:Below W.heap.size W W':=(hh.ok (.old W) (by simp)).1
 exact ⟨_,rfl,_,_,_,[],_,[],hW',trodAll_mk1 (shut_bool Tryz.underlying4 _),(trodAll_cons_mk (Below.trod As1 (by kernel_rfl) (of_decide_eq_true (by kernel_rfl)) k0 bel lt0) trodAll_mk0),rfl,bel.frame _,fun h=>by cases h⟩
set_option maxHeartbeats 4000000 in
theorem labelStays_facts:joinedFacts Tryz.prog 13 Tryz.f13 Rows.labelStaysSpec Rows.labelStaysRow=true:=by
 unfold joinedFacts
 repeat' first | (with_reducible refine (Bool.and_eq_true _ _).mpr ⟨?_,?_⟩) | decide +kernel
theorem labelStays_proved:Rows.LabelStaysSaid :=
 OpenClaim.holds_of_wide 13 Tryz.f13 rfl rfl rfl rfl rfl rfl rfl ⟨rfl,rfl,rfl,rfl,rfl⟩ rfl rfl rfl rfl rfl (by kernel_rfl) Tryz.func13 labelStays_facts
  (of_decide_eq_true (by kernel_rfl)) (by unfold Func.isWrapper;first | (rw [if_pos (by decide +kernel)];kernel_rfl) | (rw [if_neg (by decide +kernel)];exact ⟨rfl,rfl⟩))
  (fun os started H enc _=>labelStaysLifted os started H enc)
#print axioms labelStays_proved
end Go.Proofs.YtbkobeeileemjaaGreat
