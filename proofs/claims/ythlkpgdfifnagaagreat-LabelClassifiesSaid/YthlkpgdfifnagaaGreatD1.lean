import Derived.Test.YthlkpgdfifnagaaGreatFlow7
import Derived.Test.YthlkpgdfifnagaaGreatProg
set_option maxRecDepth 100000
set_option maxHeartbeats 1000000
namespace Go.Proofs.YthlkpgdfifnagaaGreat
open Go Go.RowKit Tryz
noncomputable section
theorem Ana:Yj prog 42:=.mk underlying42 rfl (show prog.info? 42=some t42 from by kernel_rfl) kr
instance:OneI prog 42:=⟨Ana⟩
theorem Bb3:Wt prog 42 [.slice none 0 0]:=⟨_,zeroValue42,rfl⟩
instance:Um prog 42 [.slice none 0 0]:=⟨Bb3⟩
theorem Aj2:Aa7 prog 42 3 1 8:=⟨underlying42,⟨Tryz.t3,iq 0,kr,kr,kr,kr,rfl⟩,dD⟩
instance:Ada prog 42 3 1 8:=⟨Aj2⟩
theorem Xb(x0:Int):Nu prog 42 1 [(0,iq x0)] 3 [iq x0]:=fun w=>kr
instance(x0:Int):Ns prog 42 1 [(0,iq x0)] 3 [iq x0]:=⟨Xb _⟩
theorem CtL.of{P:Program}{f:FuncId}{vs:LV}{w:World}{R S:Value->LE->Prop}(h:CtL P f vs w R)(k:∀v Ln,R v Ln->S v Ln):CtL P f vs w S:=by
 obtain⟨h1,h2⟩:=h;exact⟨h1,h2.mono (by rintro e w' ⟨v,Ln,h3,h4,h6,h7⟩;exact⟨v,Ln,h3,k _ _ h4,h6,h7⟩)⟩
theorem Abd.low{α β:Type}{P:Program}{K:LE}{kv:Value}{ax:α->Value}{ry:β->Value}{ky:α->Option β}{w:World}(h:Abd P K kv ax ry ky)(hK:∀e∈K,Ent.ok w e):Abd P [.old w] kv ax ry ky:=by
 obtain⟨f,caps,h1,h2⟩:=h;exact⟨f,caps,h1,fun x y hxy w' hw'=>h2 x y hxy w' fun e he=>Ent.ext (hK e he) (hw' (.old w) List.mem_cons_self)⟩
theorem Abd.up{α β:Type}{P:Program}{K L:LE}{kv:Value}{ax:α->Value}{ry:β->Value}{ky:α->Option β}(h:Abd P K kv ax ry ky)(hs:SubE K L):Abd P L kv ax ry ky:=by
 obtain⟨f,caps,h1,h2⟩:=h;exact⟨f,caps,h1,fun x y hxy w hw=>h2 x y hxy w (hs.ok w hw)⟩
def Ah3(acc:List Aa)(x:Aa):Option (List Aa):=gd ((acc.length+1)*72<=140737488355328) <| some (acc++[x])
def Aj3(acc:LI)(x:Aa):Option LI:=gd ((acc.length+1)*8<=140737488355328) <| some (acc++[x.Id])
def Sx(ky:Aa->Option Ab)(l:List Aa):Option (List Aa):=
 Lb ky Ah3 l []
theorem Ald(ky:Aa->Option Ab)(p1:List Aa){K:List Ent}{A0:Option Addr}{c0:Nat}(ha0:Has K A0 p1.length c0 9 Ah p1){g1 g2:Nat}{kv:Value}(hp1:Pt K g1 0 [.slice A0 p1.length c0])(hp2:Pt K g2 0 [kv])(hkey:Abd prog K kv Bw Dz ky){r:List Aa}(hx:Sx ky p1=some r)(w:World)(hK:∀ e∈K,Ent.ok w e):
  CtL prog 224 [.slice none 0 0,.func (.func 170) #[] #[.pointer (some ⟨g1,0,none⟩),.pointer (some ⟨g2,0,none⟩)]] w (fun v Ln=>∃A c,v=.slice A r.length c/\Ln=[.r A r.length c 30 9 (r.flatMap Ah)]):=by
 have hb0:Has [.old w] A0 p1.length c0 9 Ah p1:=Has.low (E:=[]) (by rw[List.append_nil];exact ha0) hK;have hq1:Pt [.old w] g1 0 _:=Pt.low (E:=[]) (by rw[List.append_nil];exact hp1) hK;have hq2:Pt [.old w] g2 0 _:=Pt.low (E:=[]) (by rw[List.append_nil];exact hp2) hK;have hky:=hkey.low hK;unfold Sx at hx;refine CtL.mkI 13 func224 rfl ntmps224 kr rfl ?_;show T 13 _ [(0,.slice none 0 0),(1,.func (.func 170) #[] #[.pointer (some ⟨g1,0,none⟩),.pointer (some ⟨g2,0,none⟩)])] _;refine Ab2 ?_;refine Aae ?_;refine I_x (Aa5 rfl rfl rfl (fun g3=>?_));refine Sp (Sn rfl) rfl ?_;refine Aad ?_;refine Ye ?_;refine Ab2 ?_;refine Ab2 ?_;refine Aae ?_;refine Sp (Aa3 rfl) rfl ?_;refine Aad ?_;refine Ye ?_;refine Ahc ?_;refine Bb 30 9 ?_;refine Ash (p:=7) (Hs:=[.m g3 41 [.slice none 0 0],.r none 0 0 30 9 []]) (Lr:=[.old w]) (K:=[.old w]) (Rf:=fun Hs'=>∃A c,Hs'=[.m g3 41 [.slice A r.length c],.r A r.length c 30 9 (r.flatMap Ah)]) rfl (by exact .pick 1 rfl (.pick 0 rfl .refl)) (Bn rfl (Bn rfl Fw)) ⟨fun w hw=>hw⟩ ?_ ?_
 ·intro l q a0 hfr hst hpe hpa htm has hbo;have hi0:∃ (A:Option Addr) (c:Nat),bunS [Ri l q,.m g3 41 [.slice none 0 0],.r none 0 0 30 9 []]=bunS [Ri l q,.m g3 41 [.slice A ([]:List Aa).length c],.r A ([]:List Aa).length c 30 9 (([]:List Aa).flatMap Ah)]:=⟨none,0,rfl⟩;have key:=Wy ky Ah3 p1 ([]:List Aa) (K:=[.old w]) (kv:=kv) (l:=l)
   (Inv:=fun s e=>∃A c,e=bunS [Ri l q,.m g3 41 [.slice A s.length c],.r A s.length c 30 9 (s.flatMap Ah)]) (ye:=bunS [Ri l q,.m g3 41 [.slice none 0 0],.r none 0 0 30 9 []]) hb0 hq1 hq2 hky ?_ hi0 hx
  .refine⟨key.1,fun Lf w' hs hw'=>(key.2 Lf w' hs hw').mono ?_⟩;rintro e w'' ⟨v,Ln,rfl,⟨e',rfl,A,c,rfl⟩,hh⟩;exact⟨v,_,rfl,⟨_,⟨A,c,rfl⟩,Bn rfl (Bn rfl Fw),rfl⟩,hh⟩
  .rintro s x s' e hs ⟨A,c,rfl⟩;obtain⟨hb,hs⟩:=Ek hs;obtain rfl:=Option.some.inj hs;refine Akr.mk hfr hpa htm rfl (Bn rfl (Bn rfl Fw)) (fun Lf=>?_);rw[has,hbo];show T 13 _ ((7,.agg #[iq x.Id,iq x.X,iq x.Y,iq x.Z.Lo,iq x.Z.Hi,iq x.Wide,iq x.Num,iq x.Of,iq x.Class])::_) ([Ri l q,.m g3 41 [.slice A s.length c],.r A s.length c 30 9 (s.flatMap Ah)]++Lf);refine Aae ?_;refine I_x (Tn Ao4 rfl (fun g5=>?_));refine I_h (Rz rfl rfl rfl (.here) (.put (.put (.put (.put (.put (.put (.put (.put (.put (.done)))))))))) rfl (List.cons_ne_nil _ _) Ab8.2 ?_);refine Aad ?_;refine Ase (i:=1) (.there .here) hst ?_;refine Ahc ?_;refine Aae ?_;refine Sp (Qp rfl (i:=2) rfl rfl Ao5) rfl ?_;refine Sp (Tl rfl (i:=0) rfl rfl Ab8) rfl ?_;refine I_x (Ih rfl (Jg _ _ _ _ _ _ _ _ _) rfl (fun g0=>?_));refine I_h (Vj Ah s [x] rfl rfl rfl Azi (fun _=>rfl) (i':=0) rfl rfl rfl rfl hb rfl (fun _ _=>.there (.there (.there (.there (.here))))) (fun _ _=>.drop .refl) dD (fun A1 c1=>?_));refine I_h (Rz rfl rfl rfl (.there (.there .here)) (.put .done) rfl (List.cons_ne_nil _ _) Ao5.2 ?_);refine Aad ?_;refine Asd ?_;exact Asf (i:=1) (.there .here) hst hpe (fun w3 hw3=>⟨rfl,_,⟨A1,c1,rfl⟩,Acr (Bn rfl (Bn rfl (Bn rfl Fw))) (hw3.pick (.pick 1 rfl (.pick 1 rfl (.pick 1 rfl (.drop 0 rfl .refl)))))⟩)
 .rintro D Hs' ⟨A,c,rfl⟩ -;refine Asd ?_;refine Ye ?_;refine Ab2 ?_;refine Aae ?_;refine Sp (Qp rfl (i:=1) rfl rfl Ao5) rfl ?_;refine Sp (Sn rfl) rfl ?_;refine Aad ?_;refine Ye ?_;refine Bcc ?_;exact Bcd (rs:=[.tmp 4]) (i:=0) results224 (.tmp rfl .nil) (Ln:=[.r A r.length c 30 9 (r.flatMap Ah)]) ⟨A,c,rfl,rfl⟩ (Bn rfl Fw) .here (.tmp rfl .nil) (.pick 2 rfl (.pick 2 rfl (.drop 0 rfl (.drop 0 rfl .refl))))
theorem Apl(ky:Aa->Option Ab)(p1:List Aa){K:List Ent}{A0:Option Addr}{c0:Nat}(ha0:Has K A0 p1.length c0 9 Ah p1){g1 g2:Nat}{kv:Value}(hp1:Pt K g1 0 [.slice A0 p1.length c0])(hp2:Pt K g2 0 [kv])(hkey:Abd prog K kv Bw Dz ky){r:List Aa}(hx:Sx ky p1=some r)(w:World)(hK:∀ e∈K,Ent.ok w e):
  CtL prog 151 [.func (.func 170) #[] #[.pointer (some ⟨g1,0,none⟩),.pointer (some ⟨g2,0,none⟩)]] w (fun v Ln=>∃A c,v=.slice A r.length c/\Ln=[.r A r.length c 30 9 (r.flatMap Ah)]):=by
 have hb0:Has [.old w] A0 p1.length c0 9 Ah p1:=Has.low (E:=[]) (by rw[List.append_nil];exact ha0) hK;have hq1:Pt [.old w] g1 0 _:=Pt.low (E:=[]) (by rw[List.append_nil];exact hp1) hK;have hq2:Pt [.old w] g2 0 _:=Pt.low (E:=[]) (by rw[List.append_nil];exact hp2) hK;have hky:=hkey.low hK;refine CtL.mk 5 func151 rfl ntmps151 kr rfl ?_;show T 5 _ [(0,.func (.func 170) #[] #[.pointer (some ⟨g1,0,none⟩),.pointer (some ⟨g2,0,none⟩)])] _;refine Y8 ?_;refine T_x (Tp rfl (fun w1 hw1=>Ald ky p1 hb0 hq1 hq2 hky hx w1 hw1.ok) rfl ?_);rintro _ _ hlo ⟨A,c,rfl,rfl⟩;refine Yx ?_;refine Y4 ?_;exact Oz (rs:=[.tmp 2]) results151 (.tmp rfl .nil) (Ln:=[.r A r.length c 30 9 (r.flatMap Ah)]) ⟨A,c,rfl,rfl⟩ (Bn rfl Fw) (.pick 0 rfl (.pick 0 rfl .refl))
theorem Agc(A:OA)(n c:Nat)(f:Nat)(caps:LV)(w:World):CtL prog 122 [.slice A n c,.func (.func f) #[] caps.toArray] w (fun v Ln=>∃g1 g2,v=.func (.func 170) #[] #[.pointer (some ⟨g1,0,none⟩),.pointer (some ⟨g2,0,none⟩)]/\Ln=[.m g2 98 [.func (.func f) #[] caps.toArray],.m g1 41 [.slice A n c]]):=by
 refine CtL.mk 6 func122 rfl ntmps122 kr rfl ?_;show T 6 _ [(0,.slice A n c),(1,.func (.func f) #[] caps.toArray)] _;refine Y2 ?_;refine T_x (Aa5 rfl rfl rfl (fun g1=>?_));refine T_x (Aa5 (cs:=[.func (.func f) #[] caps.toArray]) rfl rfl rfl (fun g2=>?_));refine Y10 ?_;exact Oz (rs:=[.tmp 4]) results122 (.tmp rfl .nil) (Ln:=[.m g2 98 [.func (.func f) #[] caps.toArray],.m g1 41 [.slice A n c]]) ⟨g1,g2,rfl,rfl⟩ (Bn rfl (Bn rfl Fw)) (.pick 0 rfl (.pick 0 rfl (.pick 0 rfl .refl)))
theorem Awa:Abd prog [] (.func (.func 70) #[] #[]) Bw Dz Bt :=
 ⟨70,[],rfl,fun x y hxy w _=>(Ajc x hxy w).of fun v Ln ⟨h1,h2,_⟩=>⟨h1,h2⟩⟩
instance(A:OA)(n c f:Nat):ConF prog 122 [.slice A n c,.func (.func f) #[] #[]] (fun v Ln=>∃g1 g2,v=.func (.func 170) #[] #[.pointer (some ⟨g1,0,none⟩),.pointer (some ⟨g2,0,none⟩)]/\Ln=[.m g2 98 [.func (.func f) #[] #[]],.m g1 41 [.slice A n c]]):=⟨Agc A n c f []⟩
instance(p1:List Aa):Con (Sx Bt p1) prog 151 (fun K vs=>∃(A0:OA) (c0 g1 g2:Nat),vs=[.func (.func 170) #[] #[.pointer (some ⟨g1,0,none⟩),.pointer (some ⟨g2,0,none⟩)]]/\Has K A0 p1.length c0 9 Ah p1/\Pt K g1 0 [.slice A0 p1.length c0]/\Pt K g2 0 [.func (.func 70) #[] #[]]/\True) (fun _ r=>fun v Ln=>∃A c,v=.slice A r.length c/\Ln=[.r A r.length c 30 9 (r.flatMap Ah)]/\True):=⟨by
 rintro K _ r ⟨A0,c0,g1,g2,rfl,h1,h2,h3,-⟩ hx w hK;exact (Apl Bt p1 h1 h2 h3 (Awa.up (K:=[]) SubE.nil) hx w hK).of fun v Ln ⟨A,c,e1,e2⟩=>⟨A,c,e1,e2,trivial⟩⟩
theorem Az9(tr:Af){g:Nat}{K:LE}(hp:Pt K g 0 [iq tr.Cell,iq tr.Reach,iq tr.Slope,iq tr.Link,iq tr.Flat,iq tr.Tall,iq tr.High,iq tr.Low,iq tr.Brush,iq tr.Few]):Abd prog K (.func (.func 120) #[] #[.pointer (some ⟨g,0,none⟩)]) Bw Dz (fun p=>Og p tr):=
 ⟨120,[_],rfl,fun x y hxy w hw=>(Afy x tr hp hxy w hw).of fun v Ln ⟨h1,h2,_⟩=>⟨h1,h2⟩⟩
def Rk(p0:List Aa)(p1:Af):Option LI:=
 bnd (Lb (fun p=>Og p p1) Aj3 p0 ([]:LI)) fun out=>gd (out.length<=1000000) <| some (Co out)
theorem Ah4(p0:List Aa)(p1:Af){K:List Ent}{U0:Option Addr}{E0:Nat}(ha0:Has K U0 p0.length E0 9 Ah p0){r:List Int}(hx:Rk p0 p1=some r)(w:World)(hK:∀ e∈K,Ent.ok w e):
  CtL prog 68 [.slice U0 p0.length E0,.agg #[iq p1.Cell,iq p1.Reach,iq p1.Slope,iq p1.Link,iq p1.Flat,iq p1.Tall,iq p1.High,iq p1.Low,iq p1.Brush,iq p1.Few]] w (fun v Ln=>∃(A0:OA) (c0:Nat),v=.slice A0 r.length c0/\Ln=[.r A0 r.length c0 3 1 (r.flatMap Aj)]/\True):=by
 obtain⟨out,hout,hx⟩:=Bh hx;obtain⟨hn,hx⟩:=Ek hx;obtain rfl:=Option.some.inj hx;have hb0:Has [.old w] U0 p0.length E0 9 Ah p0:=Has.low (E:=[]) (by rw[List.append_nil];exact ha0) hK;refine CtL.mkI 21 func68 rfl ntmps68 kr rfl ?_;show T 21 _ [(0,.slice U0 p0.length E0),(1,.agg #[iq p1.Cell,iq p1.Reach,iq p1.Slope,iq p1.Link,iq p1.Flat,iq p1.Tall,iq p1.High,iq p1.Low,iq p1.Brush,iq p1.Few])] _;refine Ab2 ?_;refine Aae ?_;refine I_x (Aa5 rfl rfl rfl (fun g3=>?_));refine Sp (Sn rfl) rfl ?_;refine Aad ?_;refine Ye ?_;refine Ab2 ?_;refine Aae ?_;refine Sp (Ab3 rfl) rfl ?_;refine Sp (Sn rfl) rfl ?_;refine Aad ?_;refine Ye ?_;refine Ab2 ?_;refine Aae ?_;refine I_x (Tn Bb3 rfl (fun g6=>?_));refine Aad ?_;refine Ye ?_;refine Ab2 ?_;refine Ab2 ?_;refine Aae ?_;refine Sp (Aa3 rfl) rfl ?_;refine Sp (Aa3 rfl) rfl ?_;refine I_x (Tp rfl (fun w1 _=>Agc U0 p0.length E0 120 [.pointer (some ⟨g3,0,none⟩)] w1) rfl ?_);rintro _ _ hlo ⟨g1,g2,rfl,rfl⟩;refine Yy ?_;refine Aad ?_;refine Ye ?_;refine Ahc ?_;refine Bb 3 1 ?_;obtain⟨KK,hKK⟩:∃KK:LE,KK=[.m g2 98 [.func (.func 120) #[] #[.pointer (some ⟨g3,0,none⟩)]],.m g1 41 [.slice U0 p0.length E0],.m g3 32 [iq p1.Cell,iq p1.Reach,iq p1.Slope,iq p1.Link,iq p1.Flat,iq p1.Tall,iq p1.High,iq p1.Low,iq p1.Brush,iq p1.Few],.old w]:=⟨_,rfl⟩;have k1:Pt KK g1 0 [.slice U0 p0.length E0]:=Pt.m0 (by rw[hKK];exact .tail _ (.head _));have k2:Pt KK g2 0 [.func (.func 120) #[] #[.pointer (some ⟨g3,0,none⟩)]]:=Pt.m0 (by rw[hKK];exact .head _);have k3:Pt KK g3 0 [iq p1.Cell,iq p1.Reach,iq p1.Slope,iq p1.Link,iq p1.Flat,iq p1.Tall,iq p1.High,iq p1.Low,iq p1.Brush,iq p1.Few]:=Pt.m0 (by rw[hKK];exact .tail _ (.tail _ (.head _)));have k0:Has KK U0 p0.length E0 9 Ah p0:=Has.up hb0 (by rw[hKK];exact SubE.cons2 (i:=3) rfl SubE.nil);refine Ash (p:=12) (Hs:=[.m g6 42 [.slice none 0 0],.r none 0 0 3 1 []]) (Lr:=KK) (K:=KK) (Rf:=fun Hs'=>∃A c,Hs'=[.m g6 42 [.slice A out.length c],.r A out.length c 3 1 (out.flatMap Aj)]) rfl (by rw[hKK];exact .pick 3 rfl (.pick 0 rfl .refl)) (Bn rfl (Bn rfl Fw)) ⟨fun w hw=>hw⟩ ?_ ?_
 ·intro l q a0 hfr hst hpe hpa htm has hbo;have hi0:∃ (A:Option Addr) (c:Nat),bunS [Ri l q,.m g6 42 [.slice none 0 0],.r none 0 0 3 1 []]=bunS [Ri l q,.m g6 42 [.slice A ([]:List Int).length c],.r A ([]:List Int).length c 3 1 (([]:List Int).flatMap Aj)]:=⟨none,0,rfl⟩;have key:=Wy (fun p=>Og p p1) Aj3 p0 ([]:List Int) (K:=KK) (kv:=.func (.func 120) #[] #[.pointer (some ⟨g3,0,none⟩)]) (l:=l)
   (Inv:=fun s e=>∃A c,e=bunS [Ri l q,.m g6 42 [.slice A s.length c],.r A s.length c 3 1 (s.flatMap Aj)]) (ye:=bunS [Ri l q,.m g6 42 [.slice none 0 0],.r none 0 0 3 1 []]) k0 k1 k2 (Az9 p1 k3) ?_ hi0 hout
  .refine⟨key.1,fun Lf w' hs hw'=>(key.2 Lf w' hs hw').mono ?_⟩;rintro e w'' ⟨v,Ln,rfl,⟨e',rfl,A,c,rfl⟩,hh⟩;exact⟨v,_,rfl,⟨_,⟨A,c,rfl⟩,Bn rfl (Bn rfl Fw),rfl⟩,hh⟩
  .rintro s x s' e hs ⟨A,c,rfl⟩;obtain⟨hb,hs⟩:=Ek hs;obtain rfl:=Option.some.inj hs;refine Akr.mk hfr hpa htm rfl (Bn rfl (Bn rfl Fw)) (fun Lf=>?_);rw[has,hbo];show T 21 _ ((12,.agg #[iq x.Id,iq x.X,iq x.Y,iq x.Z.Lo,iq x.Z.Hi,iq x.Wide,iq x.Num,iq x.Of,iq x.Class])::_) ([Ri l q,.m g6 42 [.slice A s.length c],.r A s.length c 3 1 (s.flatMap Aj)]++Lf);refine Aae ?_;refine I_x (Tn Ao4 rfl (fun g5=>?_));refine I_h (Rz rfl rfl rfl (.here) (.put (.put (.put (.put (.put (.put (.put (.put (.put (.done)))))))))) rfl (List.cons_ne_nil _ _) Ab8.2 ?_);refine Aad ?_;refine Ase (i:=1) (.there .here) hst ?_;refine Ahc ?_;refine Aae ?_;refine Sp (Qp rfl (i:=2) rfl rfl Ana) rfl ?_;refine Sp (Tk rfl Ahh rfl) rfl ?_;refine Sp (Qp rfl (i:=0) rfl rfl one3) rfl ?_;refine I_x (Ih rfl (Xb _) rfl (fun g0=>?_));refine I_h (Vj Aj s [x.Id] rfl rfl rfl Aj2 (fun _=>rfl) (i':=0) rfl rfl rfl rfl hb rfl (fun _ _=>.there (.there (.there (.there (.here))))) (fun _ _=>.drop .refl) dD (fun A1 c1=>?_));refine I_h (Rz rfl rfl rfl (.there (.there .here)) (.put .done) rfl (List.cons_ne_nil _ _) Ana.2 ?_);refine Aad ?_;refine Asd ?_;exact Asf (i:=1) (.there .here) hst hpe (fun w3 hw3=>⟨rfl,_,⟨A1,c1,rfl⟩,Acr (Bn rfl (Bn rfl (Bn rfl Fw))) (hw3.pick (.pick 1 rfl (.pick 1 rfl (.pick 1 rfl (.drop 0 rfl .refl)))))⟩)
 .rintro D Hs' ⟨A,c,rfl⟩ -;subst hKK;refine Asd ?_;refine Ye ?_;refine Ab2 ?_;refine Aae ?_;refine Sp (Qp rfl (i:=1) rfl rfl Ana) rfl ?_;refine I_h (Bbv out rfl hn (.there (.there .here)) rfl ?_);refine Aad ?_;refine Ye ?_;refine Ab2 ?_;refine Aae ?_;refine Sp (Qp rfl (i:=1) rfl rfl Ana) rfl ?_;refine Sp (Sn rfl) rfl ?_;refine Aad ?_;refine Ye ?_;refine Bcc ?_;have hlen:out.length=(Co out).length:=La.symm;refine Ape (s:=4) (v':=.slice A (Co out).length c) rfl (by rw[hlen]) ?_;refine Amz (i:=2) (.there (.there .here)) (e':=.r A (Co out).length c 3 1 ((Co out).flatMap Aj)) (by rw[hlen]) ?_;exact Bcd (rs:=[.tmp 4]) (i:=0) results68 (.tmp rfl .nil) (Ln:=[.r A (Co out).length c 3 1 ((Co out).flatMap Aj)]) ⟨A,c,rfl,rfl,trivial⟩ (Bn rfl Fw) .here (.tmp rfl .nil) (.pick 2 rfl (.pick 5 rfl (.drop 0 rfl (.drop 0 rfl (.drop 0 rfl (.drop 0 rfl (.drop 0 rfl .refl)))))))
instance(p0:List Aa)(p1:Af):Con (Rk p0 p1) prog 68 (fun K vs=>∃U0 E0,vs=[.slice U0 p0.length E0,.agg #[iq p1.Cell,iq p1.Reach,iq p1.Slope,iq p1.Link,iq p1.Flat,iq p1.Tall,iq p1.High,iq p1.Low,iq p1.Brush,iq p1.Few]]/\Has K U0 p0.length E0 9 Ah p0/\True) (fun _ r=>fun v Ln=>∃A0 c0,v=.slice A0 r.length c0/\Ln=[.r A0 r.length c0 3 1 (r.flatMap Aj)]/\True):=⟨by
 rintro K _ r ⟨U0,E0,rfl,ha0,-⟩ hx w hK;exact Ah4 p0 p1 ha0 hx w hK⟩
instance:MkI prog 42 3 1 8 Aj 0:=⟨Tryz.t3,iq 0,underlying42,kr,kr,rfl,kr,kr⟩
def Ut(p0:List Aa):(LI×Int)->Option (Sum (LI×Int) LI):=fun s0=>
 if s0.2<(p0.length:Int) then (bnd (idx p0 s0.2) fun x0=>
 gd ((s0.1.length+1)*8<=140737488355328)<|
 some (.inl (s0.1++[x0.Id],w64 (s0.2+1))))
 else (some (.inr s0.1))
def Xi(p0:List Aa):Option LI:=
 gd ((0:Int)<=(p0.length:Int)/\8*Int.toNat (p0.length:Int)<=140737488355328)<|
 jn (fun (s3:LI)=>
 gd (s3.length<=1000000)<|
 some (Co s3))
 (fun j3=>bnd (lfix (Ut p0) (([]:LI),0)) fun t0=>
 j3 t0)
def Rl(p0:List Aa):(List Aa×Int)->Option (Sum (List Aa×Int) (List Aa)):=fun s0=>
 if s0.2<(p0.length:Int) then (jn (fun (s1:List Aa)=>
 some (.inl (s1,w64 (s0.2+1))))
 (fun j0=>bnd (idx p0 s0.2) fun x0=>
 if x0.Num=x0.Of then (gd ((s0.1.length+1)*72<=140737488355328)<|
 j0 (s0.1++[x0]))
 else (j0 s0.1)))
 else (some (.inr s0.1))
def Vz(p0:List Aa):Option (List Aa):=
 jn (fun (s3:List Aa)=>
 bnd (Sx Bt s3) fun r0=>
 some r0)
 (fun j3=>bnd (lfix (Rl p0) (([]:List Aa),0)) fun t0=>
 j3 t0)
def Cx(p0:List Aa)(p1:Af):Option (List Aa):=
 bnd (Qc p0 p1) fun r2=>
 bnd (Vz r2.1) fun r0=>
 some r0
def Rm(p0:List Aa)(p1:Af):Option (LI×Int):=
 bnd (Qw p0 p1) fun r2=>
 if r2=0 then (bnd (Cx p0 p1) fun r8=>
 bnd (Rk r8 p1) fun r0=>
 some (r0,0))
 else (some (([]:LI),r2))
instance(p0:List Aa):Con (Xi p0) prog 106 (fun K vs=>∃U0 E0,vs=[.slice U0 p0.length E0]/\Has K U0 p0.length E0 9 Ah p0/\True) (fun _ r=>fun v Ln=>∃A0 c0,v=.slice A0 r.length c0/\Ln=[.r A0 r.length c0 3 1 (r.flatMap Aj)]/\True):=⟨by
 rintro K _ r ⟨U0,E0,rfl,ha0,-⟩ hx w hK;replace ha0:=ha0.lo hK;unfold Xi at hx;refine CtS ntmps106 results106 ?_;refine pq ?_;intros;rename_i hx
 apply Jr (γ:=OA×Nat) hx [] (fun s3 y3 f=>(3,.slice y3.1 s3.length y3.2)::f) [999] (fun s3 y3 l=>.r y3.1 s3.length y3.2 3 1 (s3.flatMap Aj)::l);exact kk
 .exact aI
 .refine pI ?_;intros;rename_i hx
  apply Lr (γ:=OA×Nat) hx [9,10] (fun s28 y28 f=>(3,.slice y28.1 s28.1.length y28.2)::(11,iq s28.2)::f) [999] (fun s28 y28 l=>.r y28.1 s28.1.length y28.2 3 1 (s28.1.flatMap Aj)::l) (_,_);exact kk;exact sk;intro s28 y28 x28 hx _;unfold Ut at hx;exact au⟩
instance(p0:List Aa):Con (Vz p0) prog 97 (fun K vs=>∃U0 E0,vs=[.slice U0 p0.length E0]/\Has K U0 p0.length E0 9 Ah p0/\True) (fun _ r=>fun v Ln=>∃A0 c0,v=.slice A0 r.length c0/\Ln=[.r A0 r.length c0 30 9 (r.flatMap Ah)]/\True):=⟨by
 rintro K _ r ⟨U0,E0,rfl,ha0,-⟩ hx w hK;replace ha0:=ha0.lo hK;unfold Vz at hx;refine CtS ntmps97 results97 ?_;refine pq ?_;intros;rename_i hx
 refine pA ?_;intros;rename_i hx
 refine pA ?_;intros;rename_i hx
 apply Jr (γ:=OA×Nat) hx [] (fun s3 y3 f=>(3,.slice y3.1 s3.length y3.2)::f) [999] (fun s3 y3 l=>.r y3.1 s3.length y3.2 30 9 (s3.flatMap Ah)::l);exact kk
 .exact aI
 .refine pI ?_;intros;rename_i hx
  refine Bb 30 9 ?_;apply Lr (γ:=OA×Nat) hx [6,7] (fun s0 y0 f=>(3,.slice y0.1 s0.1.length y0.2)::(8,iq s0.2)::f) [999] (fun s0 y0 l=>.r y0.1 s0.1.length y0.2 30 9 (s0.1.flatMap Ah)::l) (_,_);exact kk;exact sk;intro s0 y0 x0 hx _;unfold Rl at hx;exact au⟩
instance(p0:List Aa)(p1:Af):Con (Cx p0 p1) prog 44 (fun K vs=>∃U0 E0,vs=[.slice U0 p0.length E0,.agg #[iq p1.Cell,iq p1.Reach,iq p1.Slope,iq p1.Link,iq p1.Flat,iq p1.Tall,iq p1.High,iq p1.Low,iq p1.Brush,iq p1.Few]]/\Has K U0 p0.length E0 9 Ah p0/\True) (fun _ r=>fun v Ln=>∃A0 c0,v=.slice A0 r.length c0/\Ln=[.r A0 r.length c0 30 9 (r.flatMap Ah)]/\True):=⟨by
 rintro K _ r ⟨U0,E0,rfl,ha0,-⟩ hx w hK;replace ha0:=ha0.lo hK;unfold Cx at hx;refine CtS ntmps44 results44 ?_;exact au⟩
instance(p0:List Aa)(p1:Af):Con (Rm p0 p1) prog 30 (fun K vs=>∃U0 E0,vs=[.slice U0 p0.length E0,.agg #[iq p1.Cell,iq p1.Reach,iq p1.Slope,iq p1.Link,iq p1.Flat,iq p1.Tall,iq p1.High,iq p1.Low,iq p1.Brush,iq p1.Few]]/\Has K U0 p0.length E0 9 Ah p0/\True) (fun _ r=>fun v Ln=>∃A0 c0,v=.tuple #[.slice A0 r.1.length c0,iq r.2]/\Ln=[.r A0 r.1.length c0 3 1 (r.1.flatMap Aj)]/\True):=⟨by
 rintro K _ r ⟨U0,E0,rfl,ha0,-⟩ hx w hK;replace ha0:=ha0.lo hK;unfold Rm at hx;have:=dl 4 [0,1,2,1,2,2,2] [0,1,3,2,4,5,6];refine CtS ntmps30 results30 ?_;exact au⟩
instance:Ke prog 284 199 1:=⟨.mk underlying284 (show prog.info? 199=some t199 from by kernel_rfl) kr⟩
instance:OneI prog 199:=⟨.mk underlying199 rfl (show prog.info? 199=some t199 from by kernel_rfl) kr⟩
instance(x0:Int)(x1:Int):Ns prog 284 2 [(0,.int .u32 x0),(1,.int .u32 x1)] 199 [.int .u32 x0,.int .u32 x1]:=⟨fun w=>kr⟩
instance:Um prog 286 [.bool false,.slice none 0 0,.slice none 0 0]:=⟨⟨_,zeroValue286,rfl⟩⟩
instance:Br prog 286 0 0:=⟨.mk underlying286 rfl rfl (show prog.info? 4=some Tryz.t4 from by kernel_rfl) (show Tryz.t4.size=1 from by kernel_rfl) rfl⟩
instance:OneI prog 4:=⟨.mk underlying4 rfl (show prog.info? 4=some Tryz.t4 from by kernel_rfl) kr⟩
instance:Br prog 286 1 1:=⟨.mk underlying286 rfl rfl (show prog.info? 284=some t284 from by kernel_rfl) (show t284.size=1 from by kernel_rfl) rfl⟩
instance:OneI prog 284:=⟨.mk underlying284 rfl (show prog.info? 284=some t284 from by kernel_rfl) kr⟩
instance:Br prog 286 2 2:=⟨.mk underlying286 rfl rfl (show prog.info? 284=some t284 from by kernel_rfl) (show t284.size=1 from by kernel_rfl) rfl⟩
instance(x0:Bool)(x1:OA)(x2:Nat)(x3:Nat)(x4:OA)(x5:Nat)(x6:Nat):Iy prog 286 [(0,.bool x0),(1,.slice x1 x2 x3),(2,.slice x4 x5 x6)] [.bool x0,.slice x1 x2 x3,.slice x4 x5 x6]:=⟨fun w=>kr⟩
instance:AggI prog 286 3:=⟨.mk underlying286 rfl (show prog.info? 286=some t286 from by kernel_rfl) kr⟩
instance(x0:Int):Ns prog 284 1 [(0,.int .u32 x0)] 199 [.int .u32 x0]:=⟨fun w=>kr⟩
instance(x0:Int)(x1:Int)(x2:Int)(x3:Int)(x4:Int)(x5:Int):Ns prog 58 3 [(0,.agg #[iq x0,iq x1]),(1,.agg #[iq x2,iq x3]),(2,.agg #[iq x4,iq x5])] 57 [iq x0,iq x1,iq x2,iq x3,iq x4,iq x5]:=⟨fun w=>kr⟩
instance(x0:Int)(x1:Int)(x2:Int)(x3:Int)(x4:Int)(x5:Int)(x6:Int)(x7:Int):Ns prog 58 4 [(0,.agg #[iq x0,iq x1]),(1,.agg #[iq x2,iq x3]),(2,.agg #[iq x4,iq x5]),(3,.agg #[iq x6,iq x7])] 57 [iq x0,iq x1,iq x2,iq x3,iq x4,iq x5,iq x6,iq x7]:=⟨fun w=>kr⟩
instance:Br prog 108 0 0:=⟨.mk underlying108 rfl rfl (show prog.info? 3=some Tryz.t3 from by kernel_rfl) (show Tryz.t3.size=1 from by kernel_rfl) rfl⟩
instance:Br prog 108 1 1:=⟨.mk underlying108 rfl rfl (show prog.info? 3=some Tryz.t3 from by kernel_rfl) (show Tryz.t3.size=1 from by kernel_rfl) rfl⟩
theorem Ah5:Yi prog 108 4:=.mk underlying108 rfl (show prog.info? 108=some t108 from by kernel_rfl) kr
instance:AggI prog 108 4:=⟨Ah5⟩
instance:Br prog 108 2 2:=⟨.mk underlying108 rfl rfl (show prog.info? 28=some Tryz.t28 from by kernel_rfl) (show Tryz.t28.size=2 from by kernel_rfl) rfl⟩
instance:AggI prog 28 2:=⟨.mk underlying28 rfl (show prog.info? 28=some Tryz.t28 from by kernel_rfl) kr⟩
instance:Um prog 103 [iq 0,iq 0]:=⟨⟨_,zeroValue103,rfl⟩⟩
instance(x0:Int)(x1:Int):Iy prog 103 [(0,iq x0),(1,iq x1)] [iq x0,iq x1]:=⟨fun w=>kr⟩
instance:AggI prog 103 2:=⟨.arr underlying103 (show prog.info? 103=some t103 from by kernel_rfl) kr⟩
instance:ArrI prog 103 2 1:=⟨.mk underlying103 (show prog.info? 3=some Tryz.t3 from by kernel_rfl) kr⟩
instance(x0:Int)(x1:Int)(x2:Int)(x3:Int)(x4:Int)(x5:Int):Iy prog 162 [(0,.agg #[iq x0,iq x1]),(1,.agg #[iq x2,iq x3]),(2,.agg #[iq x4,iq x5])] [iq x0,iq x1,iq x2,iq x3,iq x4,iq x5]:=⟨fun w=>kr⟩
theorem Bes(a0:Int)(a1:Int)(b0:Int)(b1:Int):∀w,(Op.equalIn 10000 57 (.agg #[iq a0,iq a1]) (.agg #[iq b0,iq b1])).run prog w=.ok (((a0==b0)&&((a1==b1)&&true))) w :=
 EqF.struct underlying57 kr (.cons rfl (fun w=>kr) (fun w=>kr) (fun w=>run_equalIn_int w 9998 3 .i64 .i64 _ _ underlying3) (.cons rfl (fun w=>kr) (fun w=>kr) (fun w=>run_equalIn_int w 9998 3 .i64 .i64 _ _ underlying3) EqF.nil))
instance(a0:Int)(a1:Int)(b0:Int)(b1:Int):EqSI prog 57 [iq a0,iq a1] [iq b0,iq b1] (((a0==b0)&&((a1==b1)&&true))):=⟨Bes _ _ _ _,kr⟩
instance:UndI prog 284 (.slice 199):=⟨underlying284⟩
def Dy(x:Int):LV:=[.int .u32 x]
instance(x0:Int):DecI Dy [.int .u32 x0] x0:=⟨rfl⟩
instance:EncI 199 Dy:=⟨trivial⟩
def Rc  : LI->Option (Sum LI LI):=fun s0=>
 jn (fun (s6:Bool)=>
 if s6=true then (gd (0<=(w64 ((s0.length:Int)-1))/\(w64 ((s0.length:Int)-1))<=(s0.length:Int))<|
 some (.inl (subl s0 0 (w64 ((s0.length:Int)-1)))))
 else (some (.inr s0)))
 (fun j6=>if 0<(s0.length:Int) then (bnd (idx s0 (w64 ((s0.length:Int)-1))) fun x0=>
 j6 (decide (x0=0)))
 else (j6 false))
def Er(p0:LI):Option LI:=
 jn (fun (s2:LI)=>
 some s2)
 (fun j2=>bnd (lfix Rc p0) fun t0=>
 j2 t0)
instance:UndI prog 167 (.int .u64):=⟨underlying167⟩
instance:UndI prog 199 (.int .u32):=⟨underlying199⟩
def Uf(p0:Int):Option LI:=
 bnd (Er ([wu32 p0,wu32 (shr_ .u64 p0 32)])) fun r3=>
 some r3
def Ml(p0:Int)(p1:Int)(p2:Int):Option (Int×Int):=
 some (wu32 (wu64 ((wu64 ((wu64 p0)+(wu64 p1)))+(wu64 p2))),wu32 (shr_ .u64 (wu64 ((wu64 ((wu64 p0)+(wu64 p1)))+(wu64 p2))) 32))
def Mm(p0:Int)(p1:Int)(p2:Int):Option (Int×Int):=
 some (wu32 ((wu32 (p0-p1))-p2),shr_ .u32 (Wn .u32 (De .u32 (Acg .u32 (if IntKind.signed .u32 then -1 else IntKind.max .u32) p0) p1) (De .u32 (Acg .u32 (if IntKind.signed .u32 then -1 else IntKind.max .u32) (Acg .u32 p0 p1)) (wu32 ((wu32 (p0-p1))-p2)))) 31)
instance:MkI prog 284 199 1 4 Dy 0:=⟨t199,.int .u32 0,underlying284,kr,kr,rfl,kr,kr⟩
def Kn(p1:LI)(s0:LI×Int)(x0:Int):(LI×Int×Int)->Option (Sum (LI×Int×Int) (LI×Int)):=fun s1=>
 if s1.2.2<(p1.length:Int) then (bnd (idx p1 s1.2.2) fun x1=>
 bnd (idx s1.1 (w64 (s0.2+s1.2.2))) fun x2=>
 bnd (idx s1.1 (w64 (s0.2+s1.2.2))) fun x3=>
 some (.inl (setI s1.1 (w64 (s0.2+s1.2.2)) (wu32 (wu64 ((wu64 ((wu64 ((wu64 x0)*(wu64 x1)))+(wu64 x2)))+s1.2.1))),shr_ .u64 (wu64 ((wu64 ((wu64 ((wu64 x0)*(wu64 x1)))+(wu64 x2)))+s1.2.1)) 32,w64 (s1.2.2+1))))
 else (some (.inr (s1.1,s1.2.1)))
def Ko(p0:LI)(p1:LI):(LI×Int)->Option (Sum (LI×Int) LI):=fun s0=>
 if s0.2<(p0.length:Int) then (bnd (idx p0 s0.2) fun x0=>
 jn (fun (s1:LI×Int)=>
 bnd (idx s1.1 (w64 (s0.2+(p1.length:Int)))) fun x1=>
 some (.inl (setI s1.1 (w64 (s0.2+(p1.length:Int))) (wu32 s1.2),w64 (s0.2+1))))
 (fun j0=>bnd (lfix (Kn p1 s0 x0) (s0.1,0,0)) fun t0=>
 j0 t0))
 else (some (.inr s0.1))
def Dq(p0:LI)(p1:LI):Option LI:=
 gd ((0:Int)<=(w64 ((p0.length:Int)+(p1.length:Int)))/\4*Int.toNat (w64 ((p0.length:Int)+(p1.length:Int)))<=140737488355328)<|
 jn (fun (s3:LI)=>
 bnd (Er s3) fun r0=>
 some r0)
 (fun j3=>bnd (lfix (Ko p0 p1) (List.replicate (Int.toNat (w64 ((p0.length:Int)+(p1.length:Int)))) (0:Int),0)) fun t0=>
 j3 t0)
def Se(p0:LI)(p1:LI):Int->Option (Sum Int (Sum Unit Int)):=fun s0=>
 if 0<=s0 then (bnd (idx p0 s0) fun x0=>
 bnd (idx p1 s0) fun x1=>
 if x0=x1 then (some (.inl (w64 (s0-1))))
 else (bnd (idx p0 s0) fun x2=>
 bnd (idx p1 s0) fun x3=>
 if x2<x3 then (some (.inr (.inr (-1))))
 else (some (.inr (.inr 1)))))
 else (some (.inr (.inl ())))
def Sy(p0:LI)(p1:LI):Option Int :=
 if (p0.length:Int)=(p1.length:Int) then (jn (fun (s8:Unit)=>
 some 0)
 (fun j8=>bnd (lfix (Se p0 p1) (w64 ((p0.length:Int)-1))) fun t0=>
 (match t0 with
 |(.inl z0)=>j8 z0
 |(.inr z0)=>some z0
 )))
 else (if (p0.length:Int)<(p1.length:Int) then (some (-1))
 else (some 1))
def Kq(s2:LI×LI):(LI×Int×Int)->Option (Sum (LI×Int×Int) (LI×Int)):=fun s0=>
 if s0.2.2<(s2.1.length:Int) then (jn (fun (s1:Int)=>
 bnd (idx s2.1 s0.2.2) fun x0=>
 bnd (Ml x0 s1 s0.2.1) fun r0=>
 bnd (idx s0.1 s0.2.2) fun x1=>
 some (.inl (setI s0.1 s0.2.2 r0.1,r0.2,w64 (s0.2.2+1))))
 (fun j0=>if s0.2.2<(s2.2.length:Int) then (bnd (idx s2.2 s0.2.2) fun x2=>
 j0 x2)
 else (j0 0)))
 else (some (.inr (s0.1,s0.2.1)))
def Qs(p0:LI)(p1:LI):Option LI:=
 jn (fun (s2:LI×LI)=>
 gd ((0:Int)<=(w64 ((s2.1.length:Int)+1))/\4*Int.toNat (w64 ((s2.1.length:Int)+1))<=140737488355328)<|
 jn (fun (s6:LI×Int)=>
 bnd (idx s6.1 (s2.1.length:Int)) fun x0=>
 bnd (Er (setI s6.1 (s2.1.length:Int) s6.2)) fun r0=>
 some r0)
 (fun j6=>bnd (lfix (Kq s2) (List.replicate (Int.toNat (w64 ((s2.1.length:Int)+1))) (0:Int),0,0)) fun t0=>
 j6 t0))
 (fun j2=>if (p0.length:Int)<(p1.length:Int) then (j2 (p1,p0))
 else (j2 (p0,p1)))
def Pb(p0:LI)(p1:LI):(LI×Int×Int)->Option (Sum (LI×Int×Int) LI):=fun s0=>
 if s0.2.2<(p0.length:Int) then (jn (fun (s1:Int)=>
 bnd (idx p0 s0.2.2) fun x0=>
 bnd (Mm x0 s1 s0.2.1) fun r0=>
 bnd (idx s0.1 s0.2.2) fun x1=>
 some (.inl (setI s0.1 s0.2.2 r0.1,r0.2,w64 (s0.2.2+1))))
 (fun j0=>if s0.2.2<(p1.length:Int) then (bnd (idx p1 s0.2.2) fun x2=>
 j0 x2)
 else (j0 0)))
 else (some (.inr s0.1))
def Ny(p0:LI)(p1:LI):Option LI:=
 gd ((0:Int)<=(p0.length:Int)/\4*Int.toNat (p0.length:Int)<=140737488355328)<|
 jn (fun (s4:LI)=>
 bnd (Er s4) fun r0=>
 some r0)
 (fun j4=>bnd (lfix (Pb p0 p1) (List.replicate (Int.toNat (p0.length:Int)) (0:Int),0,0)) fun t0=>
 j4 t0)
structure Bo where
 neg:Bool
 n:LI
 d:LI
def Kf(p0:Bo)(p1:Bo):Option Bo :=
 bnd (Dq p0.n p1.n) fun r4=>
 bnd (Dq p0.d p1.d) fun r0=>
 some (⟨!(p0.neg==p1.neg),r4,r0⟩:Bo)
def Qt(p0:Bo)(p1:Bo):Option Bo :=
 bnd (Dq p0.n p1.d) fun r4=>
 bnd (Dq p1.n p0.d) fun r0=>
 bnd (Dq p0.d p1.d) fun r1=>
 if (p0.neg==p1.neg)=true then (bnd (Qs r4 r0) fun r2=>
 some (⟨p0.neg,r2,r1⟩:Bo))
 else (bnd (Sy r4 r0) fun r3=>
 if 0<=r3 then (bnd (Ny r4 r0) fun r5=>
 some (⟨p0.neg,r5,r1⟩:Bo))
 else (bnd (Ny r0 r4) fun r6=>
 some (⟨p1.neg,r6,r1⟩:Bo)))
def Pd(p0:Bo):Option Int :=
 if (p0.n.length:Int)=0 then (some 0)
 else (if p0.neg=true then (some (-1))
 else (some 1))
instance:UndI prog 3 (.int .i64):=⟨underlying3⟩
def Mn(p0:Int):Option Bo :=
 if p0<0 then (bnd (Uf (wu64 ((wu64 (w64 (-(w64 (p0+1)))))+1))) fun r4=>
 some (⟨true,r4,[1]⟩:Bo))
 else (bnd (Uf (wu64 p0)) fun r0=>
 some (⟨false,r0,[1]⟩:Bo))
def Mo(p0:List Ab):Int->Option (Sum Int (Sum Unit Bool)):=fun s0=>
 if s0<(p0.length:Int) then (bnd (idx p0 s0) fun x0=>
 jn (fun (s1:Bool)=>
 if s1=true then (some (.inr (.inr false)))
 else (some (.inl (w64 (s0+1)))))
 (fun j0=>if x0.X<(-268435456) then (j0 true)
 else (if 268435456<x0.X then (j0 true)
 else (if x0.Y<(-268435456) then (j0 true)
 else (j0 (decide (268435456<x0.Y)))))))
 else (some (.inr (.inl ())))
def Sf(p0:List Ab):Option Bool :=
 jn (fun (s2:Unit)=>
 some true)
 (fun j2=>bnd (lfix (Mo p0) 0) fun t0=>
 (match t0 with
 |(.inl z0)=>j2 z0
 |(.inr z0)=>some z0
 ))
def Mq(p0:Int):Option Int :=
 if p0<0 then (some (-1))
 else (if 0<p0 then (some 1)
 else (some 0))
def Ne(p0:Ab)(p1:Ab)(p2:Ab):Option Int :=
 some (w64 ((w64 ((w64 (p1.X-p0.X))*(w64 (p2.Y-p0.Y))))-(w64 ((w64 (p1.Y-p0.Y))*(w64 (p2.X-p0.X))))))
def Vl(p0:Ab)(p1:Ab)(p2:Ab):Option (Int×Int):=
 bnd (Sf ([p0,p1,p2])) fun r6=>
 if r6=true then (bnd (Ne p0 p1 p2) fun r0=>
 bnd (Mq r0) fun r1=>
 some (r1,0))
 else (some (0,11))
def Tu(p0:Ab)(p1:Ab):Option Int :=
 some (w64 ((w64 ((w64 (p0.X-p1.X))*(w64 (p0.X-p1.X))))+(w64 ((w64 (p0.Y-p1.Y))*(w64 (p0.Y-p1.Y))))))
def Uu(p0:Ab)(p1:Ab)(p2:Ab)(p3:Ab):Option (Int×Int):=
 bnd (Sf ([p0,p1,p2,p3])) fun r7=>
 if r7=true then (bnd (Ne p0 p1 p2) fun r0=>
 bnd (Mq r0) fun r1=>
 if r1=0 then (some (0,12))
 else (bnd (Tu p0 p3) fun r2=>
 bnd (Mn r2) fun r3=>
 bnd (Ne p3 p1 p2) fun r4=>
 bnd (Mn r4) fun r5=>
 bnd (Kf r3 r5) fun r6=>
 bnd (Tu p1 p3) fun r8=>
 bnd (Mn r8) fun r9=>
 bnd (Ne p3 p2 p0) fun r81=>
 bnd (Mn r81) fun r84=>
 bnd (Kf r9 r84) fun r98=>
 bnd (Qt r6 r98) fun r10=>
 bnd (Tu p2 p3) fun r11=>
 bnd (Mn r11) fun r12=>
 bnd (Ne p3 p0 p1) fun r14=>
 bnd (Mn r14) fun r15=>
 bnd (Kf r12 r15) fun r17=>
 bnd (Qt r10 r17) fun r18=>
 bnd (Pd r18) fun r19=>
 some (w64 (r1*r19),0)))
 else (some (0,11))
def Yp(p0:Av):Option Bool :=
 jn (fun (s2:Bool)=>
 some s2)
 (fun j2=>if (-1152921504606846976)<=p0.Lo then (if p0.Lo<=p0.Hi then (j2 (decide (p0.Hi<=1152921504606846976)))
 else (j2 false))
 else (j2 false))
def Oj(p0:Ae):Option Ab :=
 some (⟨p0.X,p0.Y⟩:Ab)
def Kg(p0:Ab)(p1:Ab):Option Bool :=
 jn (fun (s2:Bool)=>
 some s2)
 (fun j2=>if p0.X<p1.X then (j2 true)
 else (if p0.X=p1.X then (j2 (decide (p0.Y<p1.Y)))
 else (j2 false)))
def Sg(p0:Ab)(p1:Ab)(p2:Ab):Option Int :=
 bnd (Vl p0 p1 p2) fun r4=>
 some r4.1
def Zo(p0:Ae):Option Bool :=
 bnd (Oj p0) fun r2=>
 bnd (Oj p0) fun r5=>
 bnd (Oj p0) fun r8=>
 bnd (Vl r2 r5 r8) fun r0=>
 jn (fun (s3:Bool)=>
 some s3)
 (fun j3=>if r0.2=0 then (bnd (Yp p0.Z) fun r1=>
 if r1=true then (if (-268435456)<=p0.Z.Lo then (j3 (decide (p0.Z.Hi<=268435456)))
 else (j3 false))
 else (j3 false))
 else (j3 false))
structure Ac where
 a0:Int
 a1:Int
def Si(p0:Int)(p1:Int):Option Ac :=
 some (⟨min p0 p1,max p0 p1⟩:Ac)
def Xv(p0:Ac)(p1:Ac):Option Int :=
 if p0.a0=p1.a0 then (some (w64 (p0.a1-p1.a1)))
 else (some (w64 (p0.a0-p1.a0)))
theorem Bcy(x0:Int)(x1:Int)(x2:Int)(x3:Int)(x4:Int)(x5:Int):Al7 prog 162 [iq x0,iq x1,iq x2,iq x3,iq x4,iq x5] [.agg #[iq x0,iq x1],.agg #[iq x2,iq x3],.agg #[iq x4,iq x5]]:=by
 intro j h k w;have h':j<3:=h
 match j,h,h' with
 |0,_,_=>exact (show (Instr.index 162 (.agg ([.int .i64 x0,.int .i64 x1,.int .i64 x2,.int .i64 x3,.int .i64 x4,.int .i64 x5]:LV).toArray) (.int k ((0:Nat):Int))).run prog w=.ok (.agg #[.int .i64 x0,.int .i64 x1]) w by kernel_rfl)
 |1,_,_=>exact (show (Instr.index 162 (.agg ([.int .i64 x0,.int .i64 x1,.int .i64 x2,.int .i64 x3,.int .i64 x4,.int .i64 x5]:LV).toArray) (.int k ((1:Nat):Int))).run prog w=.ok (.agg #[.int .i64 x2,.int .i64 x3]) w by kernel_rfl)
 |2,_,_=>exact (show (Instr.index 162 (.agg ([.int .i64 x0,.int .i64 x1,.int .i64 x2,.int .i64 x3,.int .i64 x4,.int .i64 x5]:LV).toArray) (.int k ((2:Nat):Int))).run prog w=.ok (.agg #[.int .i64 x4,.int .i64 x5]) w by kernel_rfl)
instance(x0:Int)(x1:Int)(x2:Int)(x3:Int)(x4:Int)(x5:Int):Asj prog 162 [iq x0,iq x1,iq x2,iq x3,iq x4,iq x5] Dz [(⟨x0,x1⟩:Ab),(⟨x2,x3⟩:Ab),(⟨x4,x5⟩:Ab)]:=⟨Bcy _ _ _ _ _ _⟩
def Yz(p1:Ab)(p2:Ab)(p3:Ab):(Int×Int×Int)->Option (Sum (Int×Int×Int) (Int×Int)):=fun s0=>
 if s0.2.2<3 then (jn (fun (s1:Int×Int)=>
 some (.inl (s1.1,s1.2,w64 (s0.2.2+1))))
 (fun j0=>bnd (idx [p1,p2,p3] s0.2.2) fun x0=>
 bnd (Kg x0 (⟨s0.1,s0.2.1⟩:Ab)) fun r0=>
 if r0=true then (j0 (x0.X,x0.Y))
 else (j0 (s0.1,s0.2.1))))
 else (some (.inr (s0.1,s0.2.1)))
def Vm(p0:Ab)(p1:Ab)(p2:Ab)(p3:Ab):Option Bool :=
 bnd (Uu p0 p1 p2 p3) fun r5=>
 if r5.1=0 then (jn (fun (s7:Int×Int)=>
 jn (fun (s0:Bool)=>
 some s0)
 (fun j0=>if (((s7.1==p2.X)&&((s7.2==p2.Y)&&true)))=true then (j0 true)
 else (j0 ((s7.1==p3.X)&&((s7.2==p3.Y)&&true)))))
 (fun j7=>bnd (lfix (Yz p1 p2 p3) (p0.X,p0.Y,0)) fun t0=>
 j7 t0))
 else (some (decide (r5.1<0)))
instance(p0:LI):ConB (Er p0) prog 323 (fun K vs=>∃U0 E0,vs=[.slice U0 p0.length E0]/\Has K U0 p0.length E0 1 Dy p0/\True) (fun K r=>fun v Ln=>∃A0 c0 e,v=.slice A0 r.length c0/\Ln=[e]/\Has (K++[e]) A0 r.length c0 1 Dy r/\True):=⟨by
 rintro K _ r ⟨U0,E0,rfl,ha0,-⟩ hx w hK;unfold Er at hx;refine CtS ntmps323 results323 ?_;refine pq ?_;intros;rename_i hx
 refine pA ?_;intros;rename_i hx
 apply JrG (γ:=OA×Nat) hx [] (fun s2 y2 f=>(0,.slice y2.1 s2.length y2.2)::f) [999] (fun s2 y2 l=>l) (fun s2 y2=>Has K y2.1 s2.length y2.2 1 Dy s2/\True);exact kk
 .intro s2 y2 hx hG;obtain⟨_,-⟩:=hG;exact au
 .refine pI ?_;intros;rename_i hx
  apply LrG (γ:=OA×Nat) hx [] (fun s0 y0 f=>(0,.slice y0.1 s0.length y0.2)::f) [999] (fun s0 y0 l=>l) (fun s0 y0=>Has K y0.1 s0.length y0.2 1 Dy s0/\True) (_,_);exact kk;exact sF2;exact gG;exact pK2;intro s0 y0 x0 hx _ hG;obtain⟨_,-⟩:=hG;unfold Rc at hx;exact au⟩
instance(p0:Int):ConB (Uf p0) prog 311 (fun _ vs=>vs=[.int .u64 p0]) (fun K r=>fun v Ln=>∃A0 c0 e,v=.slice A0 r.length c0/\Ln=[e]/\Has (K++[e]) A0 r.length c0 1 Dy r/\True):=⟨by
 rintro K _ r rfl hx w hK;unfold Uf at hx;refine CtS ntmps311 results311 ?_;exact au⟩
instance(p0:Int)(p1:Int)(p2:Int):Con (Ml p0 p1 p2) prog 324 (fun _ vs=>vs=[.int .u32 p0,.int .u32 p1,.int .u32 p2]) (fun _ r=>fun v Ln=>v=.tuple #[.int .u32 r.1,.int .u32 r.2]/\Ln=[]/\True):=⟨by
 rintro _ _ r rfl hx w hK;unfold Ml at hx;refine CtS ntmps324 results324 ?_;exact au⟩
instance(p0:Int)(p1:Int)(p2:Int):Con (Mm p0 p1 p2) prog 325 (fun _ vs=>vs=[.int .u32 p0,.int .u32 p1,.int .u32 p2]) (fun _ r=>fun v Ln=>v=.tuple #[.int .u32 r.1,.int .u32 r.2]/\Ln=[]/\True):=⟨by
 rintro _ _ r rfl hx w hK;unfold Mm at hx;refine CtS ntmps325 results325 ?_;exact au⟩
instance(p0:LI)(p1:LI):ConB (Dq p0 p1) prog 312 (fun K vs=>∃U0 E0 U1 E1,vs=[.slice U0 p0.length E0,.slice U1 p1.length E1]/\Has K U0 p0.length E0 1 Dy p0/\Has K U1 p1.length E1 1 Dy p1/\True) (fun K r=>fun v Ln=>∃A0 c0 e,v=.slice A0 r.length c0/\Ln=[e]/\Has (K++[e]) A0 r.length c0 1 Dy r/\True):=⟨by
 rintro K _ r ⟨U0,E0,U1,E1,rfl,ha0,ha1,-⟩ hx w hK;unfold Dq at hx;refine CtS ntmps312 results312 ?_;refine pq ?_;intros;rename_i hx
 apply Jr (γ:=OA×Nat) hx [] (fun s3 y3 f=>(5,.slice y3.1 s3.length y3.2)::f) [999] (fun s3 y3 l=>.r y3.1 s3.length y3.2 199 1 (s3.flatMap Dy)::l);exact kk
 .exact aI
 .refine pI ?_;intros;rename_i hx
  apply Lr (γ:=OA×Nat) hx [1,18,19] (fun s0 y0 f=>(5,.slice y0.1 s0.1.length y0.2)::(20,iq s0.2)::f) [999] (fun s0 y0 l=>.r y0.1 s0.1.length y0.2 199 1 (s0.1.flatMap Dy)::l) (_,_);exact kk;exact sk;intro s0 y0 x0 hx _;unfold Ko at hx;refine pq ?_;intros;rename_i hx
  refine Cq1 (s:=21) hx rfl ?_ ?_
  .refine pI ?_;intros;rename_i hx
   refine pA ?_;intros;rename_i hx
   apply Jr (γ:=OA×Nat) hx [1,6,18,19,20] (fun s1 y1 f=>(5,.slice y1.1 s1.1.length y1.2)::(8,.int .u64 s1.2)::f) [999] (fun s1 y1 l=>.r y1.1 s1.1.length y1.2 199 1 (s1.1.flatMap Dy)::l);exact kk
   .exact aI
   .refine pI ?_;intros;rename_i hx
    apply Lr (γ:=OA×Nat) hx [1,6,7,18,19,20,25,26] (fun s2 y2 f=>(5,.slice y2.1 s2.1.length y2.2)::(8,.int .u64 s2.2.1)::(27,iq s2.2.2)::f) [999] (fun s2 y2 l=>.r y2.1 s2.1.length y2.2 199 1 (s2.1.flatMap Dy)::l) (_,_);exact kk;exact sk;intro s2 y2 x1 hx _;unfold Kn at hx;exact au
  .exact aI⟩
instance(p0:LI)(p1:LI):Con (Sy p0 p1) prog 314 (fun K vs=>∃U0 E0 U1 E1,vs=[.slice U0 p0.length E0,.slice U1 p1.length E1]/\Has K U0 p0.length E0 1 Dy p0/\Has K U1 p1.length E1 1 Dy p1/\True) (fun _ r=>fun v Ln=>v=iq r/\Ln=[]/\True):=⟨by
 rintro K _ r ⟨U0,E0,U1,E1,rfl,ha0,ha1,-⟩ hx w hK;replace ha0:=ha0.lo hK;replace ha1:=ha1.lo hK;unfold Sy at hx;have:=dl 8 [0,0,0,1,0,0,0,1,0] [0,1,2,3,4,5,6,7,8];have:=dl 9 [0,0,0,1,0,0,0,1,0] [0,1,2,3,4,5,6,7,8];refine CtS ntmps314 results314 ?_;refine pq ?_;intros;rename_i hx
 refine Cq2 (s:=10) hx rfl ?_ ?_
 .exact aI
 .refine pI ?_;intros;rename_i hx
  apply Jr (γ:=Unit) hx [] (fun s8 y8 f=>f) [999] (fun s8 y8 l=>l);exact kk
  .exact aI
  .refine pI ?_;intros;rename_i hx
   apply Lr (γ:=Unit) hx [0,1] (fun s61 y61 f=>(5,iq s61)::f) [999] (fun s61 y61 l=>l) ();exact kk;exact sk;intro s61 y61 x61 hx _;unfold Se at hx;exact au⟩
instance(p0:LI)(p1:LI):ConB (Qs p0 p1) prog 313 (fun K vs=>∃U0 E0 U1 E1,vs=[.slice U0 p0.length E0,.slice U1 p1.length E1]/\Has K U0 p0.length E0 1 Dy p0/\Has K U1 p1.length E1 1 Dy p1/\True) (fun K r=>fun v Ln=>∃A0 c0 e,v=.slice A0 r.length c0/\Ln=[e]/\Has (K++[e]) A0 r.length c0 1 Dy r/\True):=⟨by
 rintro K _ r ⟨U0,E0,U1,E1,rfl,ha0,ha1,-⟩ hx w hK;unfold Qs at hx;refine CtS ntmps313 results313 ?_;refine pq ?_;intros;rename_i hx
 refine pA ?_;intros;rename_i hx
 apply JrG (γ:=OA×Nat×OA×Nat) hx [] (fun s2 y2 f=>(0,.slice y2.1 s2.1.length y2.2.1)::(1,.slice y2.2.2.1 s2.2.length y2.2.2.2)::f) [999] (fun s2 y2 l=>l) (fun s2 y2=>Has K y2.1 s2.1.length y2.2.1 1 Dy s2.1/\Has K y2.2.2.1 s2.2.length y2.2.2.2 1 Dy s2.2/\True);exact kk
 .intro s2 y2 hx hG;obtain⟨_,_,-⟩:=hG;refine pq ?_;intros;rename_i hx
  refine pA ?_;intros;rename_i hx
  apply Jr (γ:=OA×Nat) hx [0] (fun s6 y6 f=>(5,.slice y6.1 s6.1.length y6.2)::(6,.int .u32 s6.2)::f) [999] (fun s6 y6 l=>.r y6.1 s6.1.length y6.2 199 1 (s6.1.flatMap Dy)::l);exact kk
  .exact aI
  .refine pI ?_;intros;rename_i hx
   apply Lr (γ:=OA×Nat) hx [0,1,21] (fun s0 y0 f=>(5,.slice y0.1 s0.1.length y0.2)::(6,.int .u32 s0.2.1)::(22,iq s0.2.2)::f) [999] (fun s0 y0 l=>.r y0.1 s0.1.length y0.2 199 1 (s0.1.flatMap Dy)::l) (_,_);exact kk;exact sk;intro s0 y0 x0 hx _;unfold Kq at hx;exact au
 .exact aI⟩
instance(p0:LI)(p1:LI):ConB (Ny p0 p1) prog 315 (fun K vs=>∃U0 E0 U1 E1,vs=[.slice U0 p0.length E0,.slice U1 p1.length E1]/\Has K U0 p0.length E0 1 Dy p0/\Has K U1 p1.length E1 1 Dy p1/\True) (fun K r=>fun v Ln=>∃A0 c0 e,v=.slice A0 r.length c0/\Ln=[e]/\Has (K++[e]) A0 r.length c0 1 Dy r/\True):=⟨by
 rintro K _ r ⟨U0,E0,U1,E1,rfl,ha0,ha1,-⟩ hx w hK;unfold Ny at hx;refine CtS ntmps315 results315 ?_;refine pq ?_;intros;rename_i hx
 refine pA ?_;intros;rename_i hx
 apply Jr (γ:=OA×Nat) hx [] (fun s4 y4 f=>(5,.slice y4.1 s4.length y4.2)::f) [999] (fun s4 y4 l=>.r y4.1 s4.length y4.2 199 1 (s4.flatMap Dy)::l);exact kk
 .exact aI
 .refine pI ?_;intros;rename_i hx
  apply Lr (γ:=OA×Nat) hx [0,1,13] (fun s0 y0 f=>(5,.slice y0.1 s0.1.length y0.2)::(6,.int .u32 s0.2.1)::(14,iq s0.2.2)::f) [999] (fun s0 y0 l=>.r y0.1 s0.1.length y0.2 199 1 (s0.1.flatMap Dy)::l) (_,_);exact kk;exact sk;intro s0 y0 x0 hx _;unfold Pb at hx;exact au⟩
instance(p0:Bo)(p1:Bo):ConB (Kf p0 p1) prog 288 (fun K vs=>∃U0 E0 U1 E1 U2 E2 U3 E3,vs=[.agg #[.bool p0.neg,.slice U0 p0.n.length E0,.slice U1 p0.d.length E1],.agg #[.bool p1.neg,.slice U2 p1.n.length E2,.slice U3 p1.d.length E3]]/\Has K U0 p0.n.length E0 1 Dy p0.n/\Has K U1 p0.d.length E1 1 Dy p0.d/\Has K U2 p1.n.length E2 1 Dy p1.n/\Has K U3 p1.d.length E3 1 Dy p1.d/\True) (fun K r=>fun v Ln=>∃A0 c0 A2 c2 e,v=.agg #[.bool r.neg,.slice A0 r.n.length c0,.slice A2 r.d.length c2]/\Ln=[e]/\Has (K++[e]) A0 r.n.length c0 1 Dy r.n/\Has (K++[e]) A2 r.d.length c2 1 Dy r.d/\True):=⟨by
 rintro K _ r ⟨U0,E0,U1,E1,U2,E2,U3,E3,rfl,ha0,ha1,ha2,ha3,-⟩ hx w hK;unfold Kf at hx;have:=dl 1 [0,1,0,1,0,0,1,0,1,2,0,1,0,1,2,0,3] [0,1,2,3,4,5,6,7,8,10,11,12,13,9,14,15,16];refine CtS ntmps288 results288 ?_;exact au⟩
instance(p0:Bo)(p1:Bo):ConB (Qt p0 p1) prog 289 (fun K vs=>∃U0 E0 U1 E1 U2 E2 U3 E3,vs=[.agg #[.bool p0.neg,.slice U0 p0.n.length E0,.slice U1 p0.d.length E1],.agg #[.bool p1.neg,.slice U2 p1.n.length E2,.slice U3 p1.d.length E3]]/\Has K U0 p0.n.length E0 1 Dy p0.n/\Has K U1 p0.d.length E1 1 Dy p0.d/\Has K U2 p1.n.length E2 1 Dy p1.n/\Has K U3 p1.d.length E3 1 Dy p1.d/\True) (fun K r=>fun v Ln=>∃A0 c0 A2 c2 e,v=.agg #[.bool r.neg,.slice A0 r.n.length c0,.slice A2 r.d.length c2]/\Ln=[e]/\Has (K++[e]) A0 r.n.length c0 1 Dy r.n/\Has (K++[e]) A2 r.d.length c2 1 Dy r.d/\True):=⟨by
 rintro K _ r ⟨U0,E0,U1,E1,U2,E2,U3,E3,rfl,ha0,ha1,ha2,ha3,-⟩ hx w hK;unfold Qt at hx;have:=dl 1 [0,1,0,1,2,0,1,0,1,2,2,2] [0,1,2,3,5,6,7,8,4,9,10,11];have:=dl 4 [0,1,0,0,2,0,0,3] [0,1,2,3,5,4,6,7];have:=dl 6 [0,1,0,0,2,0,0,3] [0,1,2,3,5,4,6,7];have:=dl 7 [0,1,0,0,2,0,0,3] [0,1,2,3,5,4,6,7];refine CtS ntmps289 results289 ?_;refine pq ?_;intros;rename_i hx
 refine Cq3 (s:=27) hx rfl ?_ ?_
 .exact aI
 .exact aI⟩
instance(p0:Bo):Con (Pd p0) prog 290 (fun K vs=>∃U0 E0 U1 E1,vs=[.agg #[.bool p0.neg,.slice U0 p0.n.length E0,.slice U1 p0.d.length E1]]/\Has K U0 p0.n.length E0 1 Dy p0.n/\Has K U1 p0.d.length E1 1 Dy p0.d/\True) (fun _ r=>fun v Ln=>v=iq r/\Ln=[]/\True):=⟨by
 rintro K _ r ⟨U0,E0,U1,E1,rfl,ha0,ha1,-⟩ hx w hK;replace ha0:=ha0.lo hK;replace ha1:=ha1.lo hK;unfold Pd at hx;refine CtS ntmps290 results290 ?_;exact au⟩
instance(p0:Int):ConB (Mn p0) prog 286 (fun _ vs=>vs=[iq p0]) (fun K r=>fun v Ln=>∃A0 c0 A2 c2 e,v=.agg #[.bool r.neg,.slice A0 r.n.length c0,.slice A2 r.d.length c2]/\Ln=[e]/\Has (K++[e]) A0 r.n.length c0 1 Dy r.n/\Has (K++[e]) A2 r.d.length c2 1 Dy r.d/\True):=⟨by
 rintro K _ r rfl hx w hK;unfold Mn at hx;refine CtS ntmps286 results286 ?_;exact au⟩
instance(p0:List Ab):Con (Sf p0) prog 267 (fun K vs=>∃U0 E0,vs=[.slice U0 p0.length E0]/\Has K U0 p0.length E0 2 Nv p0/\True) (fun _ r=>fun v Ln=>v=.bool r/\Ln=[]/\True):=⟨by
 rintro K _ r ⟨U0,E0,rfl,ha0,-⟩ hx w hK;replace ha0:=ha0.lo hK;unfold Sf at hx;refine CtS ntmps267 results267 ?_;refine pq ?_;intros;rename_i hx
 refine pA ?_;intros;rename_i hx
 apply Jr (γ:=Unit) hx [] (fun s2 y2 f=>f) [999] (fun s2 y2 l=>l);exact kk
 .exact aI
 .refine pI ?_;intros;rename_i hx
  apply Lr (γ:=Unit) hx [5,6] (fun s0 y0 f=>(7,iq s0)::f) [999] (fun s0 y0 l=>l) ();exact kk;exact sk;intro s0 y0 x0 hx _;unfold Mo at hx;refine pq ?_;intros;rename_i hx
  refine Cq1 (s:=8) hx rfl ?_ ?_
  .refine pI ?_;intros;rename_i hx
   apply Jr (γ:=Unit) hx [5,6,7] (fun s1 y1 f=>(28,.bool s1)::f) [999] (fun s1 y1 l=>l);exact kk
   .exact aI
   .exact aI
  .exact aI⟩
instance(p0:Int):Con (Mq p0) prog 268 (fun _ vs=>vs=[iq p0]) (fun _ r=>fun v Ln=>v=iq r/\Ln=[]/\True):=⟨by
 rintro _ _ r rfl hx w hK;unfold Mq at hx;refine CtS ntmps268 results268 ?_;exact au⟩
instance(p0:Ab)(p1:Ab)(p2:Ab):Con (Ne p0 p1 p2) prog 269 (fun _ vs=>vs=[.agg #[iq p0.X,iq p0.Y],.agg #[iq p1.X,iq p1.Y],.agg #[iq p2.X,iq p2.Y]]) (fun _ r=>fun v Ln=>v=iq r/\Ln=[]/\True):=⟨by
 rintro _ _ r rfl hx w hK;unfold Ne at hx;refine CtS ntmps269 results269 ?_;exact au⟩
instance(p0:Ab)(p1:Ab)(p2:Ab):Con (Vl p0 p1 p2) prog 230 (fun _ vs=>vs=[.agg #[iq p0.X,iq p0.Y],.agg #[iq p1.X,iq p1.Y],.agg #[iq p2.X,iq p2.Y]]) (fun _ r=>fun v Ln=>v=.tuple #[iq r.1,iq r.2]/\Ln=[]/\True):=⟨by
 rintro _ _ r rfl hx w hK;unfold Vl at hx;refine CtS ntmps230 results230 ?_;exact au⟩
instance(p0:Ab)(p1:Ab):Con (Tu p0 p1) prog 287 (fun _ vs=>vs=[.agg #[iq p0.X,iq p0.Y],.agg #[iq p1.X,iq p1.Y]]) (fun _ r=>fun v Ln=>v=iq r/\Ln=[]/\True):=⟨by
 rintro _ _ r rfl hx w hK;unfold Tu at hx;have:=dl 1 [0,1,0,1,0,0,1,0,1,0,2,2] [0,1,2,3,4,5,6,7,8,9,10,11];refine CtS ntmps287 results287 ?_;exact au⟩
instance(p0:Ab)(p1:Ab)(p2:Ab)(p3:Ab):Con (Uu p0 p1 p2 p3) prog 236 (fun _ vs=>vs=[.agg #[iq p0.X,iq p0.Y],.agg #[iq p1.X,iq p1.Y],.agg #[iq p2.X,iq p2.Y],.agg #[iq p3.X,iq p3.Y]]) (fun _ r=>fun v Ln=>v=.tuple #[iq r.1,iq r.2]/\Ln=[]/\True):=⟨by
 rintro _ _ r rfl hx w hK;unfold Uu at hx;have:=dl 6 [1,1,2,2,1,1,1,2,2,2,4,3] [0,1,4,5,6,2,3,7,8,9,10,11] [10];have:=dl 7 [1,1,1,2,2,1,1,1,2,2,2,2,3] [0,1,2,5,6,7,3,4,8,9,10,11,12];have:=dl 8 [1,1,1,2,2,1,1,1,2,2,2,2,3] [0,1,2,5,6,7,3,4,8,9,10,11,12];refine CtS ntmps236 results236 ?_;refine pq ?_;intros;rename_i hx
 refine Cq4 (s:=18) hx rfl ?_ ?_
 .exact aI
 .refine pI ?_;intros;rename_i hx
  refine Cq1 (s:=25) hx rfl ?_ ?_
  .exact aI
  .exact aI⟩
instance(p0:Av):Con (Yp p0) prog 231 (fun _ vs=>vs=[.agg #[iq p0.Lo,iq p0.Hi]]) (fun _ r=>fun v Ln=>v=.bool r/\Ln=[]/\True):=⟨by
 rintro _ _ r rfl hx w hK;unfold Yp at hx;refine CtS ntmps231 results231 ?_;exact au⟩
instance Att(p0:Ae):Con (Oj p0) prog 172 (fun _ vs=>vs=[.agg #[iq p0.X,iq p0.Y,iq p0.Z.Lo,iq p0.Z.Hi]]) (fun _ r=>fun v Ln=>v=.agg #[iq r.X,iq r.Y]/\Ln=[]/\True):=⟨by
 rintro _ _ r rfl hx w hK;unfold Oj at hx;refine CtS ntmps172 results172 ?_;exact au⟩
theorem Aap(p0:Ae){r:Ab}(hx:Oj p0=some r)(w:World):CtL prog 172 [.agg #[iq p0.X,iq p0.Y,iq p0.Z.Lo,iq p0.Z.Hi]] w fun v Ln=>v=.agg #[iq r.X,iq r.Y]/\Ln=[]/\True:=(Att p0).h [] _ _ rfl hx w (fun _ h=>absurd h List.not_mem_nil)
instance Ajg(p0:Ab)(p1:Ab):Con (Kg p0 p1) prog 184 (fun _ vs=>vs=[.agg #[iq p0.X,iq p0.Y],.agg #[iq p1.X,iq p1.Y]]) (fun _ r=>fun v Ln=>v=.bool r/\Ln=[]/\True):=⟨by
 rintro _ _ r rfl hx w hK;unfold Kg at hx;refine CtS ntmps184 results184 ?_;exact au⟩
theorem Abp(p0:Ab)(p1:Ab){r:Bool}(hx:Kg p0 p1=some r)(w:World):CtL prog 184 [.agg #[iq p0.X,iq p0.Y],.agg #[iq p1.X,iq p1.Y]] w fun v Ln=>v=.bool r/\Ln=[]/\True:=(Ajg p0 p1).h [] _ _ rfl hx w (fun _ h=>absurd h List.not_mem_nil)
instance(p0:Ab)(p1:Ab)(p2:Ab):Con (Sg p0 p1 p2) prog 178 (fun _ vs=>vs=[.agg #[iq p0.X,iq p0.Y],.agg #[iq p1.X,iq p1.Y],.agg #[iq p2.X,iq p2.Y]]) (fun _ r=>fun v Ln=>v=iq r/\Ln=[]/\True):=⟨by
 rintro _ _ r rfl hx w hK;unfold Sg at hx;refine CtS ntmps178 results178 ?_;exact au⟩
instance(p0:Ae):Con (Zo p0) prog 171 (fun _ vs=>vs=[.agg #[iq p0.X,iq p0.Y,iq p0.Z.Lo,iq p0.Z.Hi]]) (fun _ r=>fun v Ln=>v=.bool r/\Ln=[]/\True):=⟨by
 rintro _ _ r rfl hx w hK;unfold Zo at hx;have:=dl 1 [1,2,1,2,1,2,2,0,0,0,2,2] [0,2,4,1,3,5,6,7,8,9,10,11];refine CtS ntmps171 results171 ?_;exact au⟩
instance(p0:Int)(p1:Int):Con (Si p0 p1) prog 173 (fun _ vs=>vs=[iq p0,iq p1]) (fun _ r=>fun v Ln=>v=.agg #[iq r.a0,iq r.a1]/\Ln=[]/\True):=⟨by
 rintro _ _ r rfl hx w hK;unfold Si at hx;refine CtS ntmps173 results173 ?_;exact au⟩
instance Ale(p0:Ac)(p1:Ac):Con (Xv p0 p1) prog 177 (fun _ vs=>vs=[.agg #[iq p0.a0,iq p0.a1],.agg #[iq p1.a0,iq p1.a1]]) (fun _ r=>fun v Ln=>v=iq r/\Ln=[]/\True):=⟨by
 rintro _ _ r rfl hx w hK;unfold Xv at hx;refine CtS ntmps177 results177 ?_;exact au⟩
theorem Ajh(p0:Ac)(p1:Ac){r:Int}(hx:Xv p0 p1=some r)(w:World):CtL prog 177 [.agg #[iq p0.a0,iq p0.a1],.agg #[iq p1.a0,iq p1.a1]] w fun v Ln=>v=iq r/\Ln=[]/\True:=(Ale p0 p1).h [] _ _ rfl hx w (fun _ h=>absurd h List.not_mem_nil)
instance(p0:Ab)(p1:Ab)(p2:Ab)(p3:Ab):Con (Vm p0 p1 p2 p3) prog 187 (fun _ vs=>vs=[.agg #[iq p0.X,iq p0.Y],.agg #[iq p1.X,iq p1.Y],.agg #[iq p2.X,iq p2.Y],.agg #[iq p3.X,iq p3.Y]]) (fun _ r=>fun v Ln=>v=.bool r/\Ln=[]/\True):=⟨by
 rintro _ _ r rfl hx w hK;unfold Vm at hx;refine CtS ntmps187 results187 ?_;refine pq ?_;intros;rename_i hx
 refine Cq2 (s:=23) hx rfl ?_ ?_
 .exact aI
 .refine pI ?_;intros;rename_i hx
  refine pA ?_;intros;rename_i hx
  apply Jr (γ:=Nat) hx [6,7] (fun s7 y7 f=>(11,.pointer (some ⟨y7,0,none⟩))::f) [1,2,999] (fun s7 y7 l=>.m y7 57 [iq s7.1,iq s7.2]::l);exact kk
  .exact aI
  .refine pI ?_;intros;rename_i hx
   apply Lr (γ:=Nat) hx [6,7,30] (fun s0 y0 f=>(11,.pointer (some ⟨y0,0,none⟩))::(31,iq s0.2.2)::f) [1,2,999] (fun s0 y0 l=>.m y0 57 [iq s0.1,iq s0.2.1]::l) _;exact kk;exact sk;intro s0 y0 x0 hx _;unfold Yz at hx;exact au⟩
end
end Go.Proofs.YthlkpgdfifnagaaGreat
