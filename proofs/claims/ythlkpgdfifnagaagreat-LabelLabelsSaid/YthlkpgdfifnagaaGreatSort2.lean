import Derived.Test.YthlkpgdfifnagaaGreatFlow7
import Derived.Test.YthlkpgdfifnagaaGreatProg
set_option maxRecDepth 100000
set_option maxHeartbeats 1000000
namespace Go.Proofs.YthlkpgdfifnagaaGreat
open Go Go.RowKit Tryz
noncomputable section
theorem Apf:Zp prog 42:=.mk underlying42 rfl (kr:prog.info? 42=some t42) kr
instance:OneI prog 42:=⟨Apf⟩
theorem Bd7:Xw prog 42 [.slice none 0 0]:=⟨_,zeroValue42,rfl⟩
instance:Ur prog 42 [.slice none 0 0]:=⟨Bd7⟩
theorem Alu:Ab4 prog 42 3 1 8:=⟨underlying42,⟨Tryz.t3,iq 0,kr,kr,kr,kr,rfl⟩,dD⟩
instance:Ad9 prog 42 3 1 8:=⟨Alu⟩
theorem Yh(x0:Int):Ov prog 42 1 [(0,iq x0)] 3 [iq x0]:=fun w=>kr
instance(x0:Int):Oo prog 42 1 [(0,iq x0)] 3 [iq x0]:=⟨Yh _⟩
theorem CtL.of{P:Program}{f:FuncId}{vs:LV}{w:World}{R S:Value->LE->Prop}(h:CtL P f vs w R)(k:∀v Ln,R v Ln->S v Ln):CtL P f vs w S:=by
 obtain⟨h1,h2⟩:=h;exact⟨h1,h2.mono (by rintro e w' ⟨v,Ln,h3,h4,h6,h7⟩;exact⟨v,Ln,h3,k _ _ h4,h6,h7⟩)⟩
theorem Ab9.low{α β:Type}{P:Program}{K:LE}{kv:Value}{ax:α->Value}{ry:β->Value}{ky:α->Option β}{w:World}(h:Ab9 P K kv ax ry ky)(hK:∀e∈K,Ent.ok w e):Ab9 P [.old w] kv ax ry ky:=by
 obtain⟨f,caps,h1,h2⟩:=h;exact⟨f,caps,h1,fun x y hxy w' hw'=>h2 x y hxy w' fun e he=>Ent.ext (hK e he) (hw' (.old w) mS)⟩
theorem Ab9.up{α β:Type}{P:Program}{K L:LE}{kv:Value}{ax:α->Value}{ry:β->Value}{ky:α->Option β}(h:Ab9 P K kv ax ry ky)(hs:SubE K L):Ab9 P L kv ax ry ky:=by
 obtain⟨f,caps,h1,h2⟩:=h;exact⟨f,caps,h1,fun x y hxy w hw=>h2 x y hxy w (hs.ok w hw)⟩
def Ajy(acc:List Aa)(x:Aa):Option (List Aa):=gd ((acc.length+1)*72<=140737488355328) <| some (acc++[x])
def Alv(acc:LI)(x:Aa):Option LI:=gd ((acc.length+1)*8<=140737488355328) <| some (acc++[x.Id])
def Um(ky:Aa->Option Ab)(l:List Aa):Option (List Aa):=
 Lv ky Ajy l []
theorem And(ky:Aa->Option Ab)(p1:List Aa){K:List Ent}{A0:Option Addr}{c0:Nat}(ha0:Has K A0 p1.length c0 9 Ag p1){g1 g2:Nat}{kv:Value}(hp1:Pt K g1 0 [.slice A0 p1.length c0])(hp2:Pt K g2 0 [kv])(hkey:Ab9 prog K kv By Ed ky){r:List Aa}(hx:Um ky p1=some r)(w:World)(hK:∀ e∈K,Ent.ok w e):
  CtL prog 224 [.slice none 0 0,.func (.func 170) #[] #[.pointer (some ⟨g1,0,none⟩),.pointer (some ⟨g2,0,none⟩)]] w (fun v Ln=>∃A c,v=.slice A r.length c/\Ln=[.r A r.length c 30 9 (r.flatMap Ag)]):=by
 have hb0:Has [.old w] A0 p1.length c0 9 Ag p1:=Has.low (E:=[]) (by rw[List.append_nil];exact ha0) hK;have hq1:Pt [.old w] g1 0 _:=Pt.low (E:=[]) (by rw[List.append_nil];exact hp1) hK;have hq2:Pt [.old w] g2 0 _:=Pt.low (E:=[]) (by rw[List.append_nil];exact hp2) hK;have hky:=hkey.low hK;unfold Um at hx;refine CtL.mkI 13 func224 rfl ntmps224 kr rfl ?_;show T 13 _ [(0,.slice none 0 0),(1,.func (.func 170) #[] #[.pointer (some ⟨g1,0,none⟩),.pointer (some ⟨g2,0,none⟩)])] _;refine Acu ?_;refine Aa9 ?_;refine I_x (Ab3 rfl rfl rfl (fun g3=>?_));refine Tx (Tw rfl) rfl ?_;refine Aa8 ?_;refine Zh ?_;refine Acu ?_;refine Acu ?_;refine Aa9 ?_;refine Tx (Ab1 rfl) rfl ?_;refine Aa8 ?_;refine Zh ?_;refine Aii ?_;refine Ba 30 9 ?_;refine Atw (p:=7) (Hs:=[.m g3 41 [.slice none 0 0],.r none 0 0 30 9 []]) (Lr:=[.old w]) (K:=[.old w]) (Rf:=fun Hs'=>∃A c,Hs'=[.m g3 41 [.slice A r.length c],.r A r.length c 30 9 (r.flatMap Ag)]) rfl (by exact .pick 1 rfl (.pick 0 rfl .refl)) (Bq rfl (Bq rfl Gg)) ⟨fun w hw=>hw⟩ ?_ ?_
 ·intro l q a0 hfr hst hpe hpa htm has hbo;have hi0:∃ (A:Option Addr) (c:Nat),bunS [Sp l q,.m g3 41 [.slice none 0 0],.r none 0 0 30 9 []]=bunS [Sp l q,.m g3 41 [.slice A ([]:List Aa).length c],.r A ([]:List Aa).length c 30 9 (([]:List Aa).flatMap Ag)]:=⟨none,0,rfl⟩;have key:=Yb ky Ajy p1 ([]:List Aa) (K:=[.old w]) (kv:=kv) (l:=l)
   (Inv:=fun s e=>∃A c,e=bunS [Sp l q,.m g3 41 [.slice A s.length c],.r A s.length c 30 9 (s.flatMap Ag)]) (ye:=bunS [Sp l q,.m g3 41 [.slice none 0 0],.r none 0 0 30 9 []]) hb0 hq1 hq2 hky ?_ hi0 hx
  .refine⟨key.1,fun Lf w' hs hw'=>(key.2 Lf w' hs hw').mono ?_⟩;rintro e w'' ⟨v,Ln,rfl,⟨e',rfl,A,c,rfl⟩,hh⟩;exact⟨v,_,rfl,⟨_,⟨A,c,rfl⟩,Bq rfl (Bq rfl Gg),rfl⟩,hh⟩
  .rintro s x s' e hs ⟨A,c,rfl⟩;obtain⟨hb,hs⟩:=Em hs;obtain rfl:=oI hs;refine Alx.mk hfr hpa htm rfl (Bq rfl (Bq rfl Gg)) (fun Lf=>?_);rw[has,hbo];show T 13 _ ((7,.agg #[iq x.Id,iq x.X,iq x.Y,iq x.Z.Lo,iq x.Z.Hi,iq x.Wide,iq x.Num,iq x.Of,iq x.Class])::_) ([Sp l q,.m g3 41 [.slice A s.length c],.r A s.length c 30 9 (s.flatMap Ag)]++Lf);refine Aa9 ?_;refine I_x (Uw Aqc rfl (fun g5=>?_));refine I_h (Tg rfl rfl rfl (.here) (.put (.put (.put (.put (.put (.put (.put (.put (.put (.done)))))))))) rfl (List.cons_ne_nil _ _) Ac2.2 ?_);refine Aa8 ?_;refine Att (i:=1) (.there .here) hst ?_;refine Aii ?_;refine Aa9 ?_;refine Tx (Rx rfl (i:=2) rfl rfl Aqd) rfl ?_;refine Tx (Uu rfl (i:=0) rfl rfl Ac2) rfl ?_;refine I_x (Iy rfl (Jt _ _ _ _ _ _ _ _ _) rfl (fun g0=>?_));refine I_h (Wn Ag s [x] rfl rfl rfl Ba9 (fun _=>rfl) (i':=0) rfl rfl rfl rfl hb rfl (fun _ _=>.there (.there (.there (.there (.here))))) (fun _ _=>.drop .refl) dD (fun A1 c1=>?_));refine I_h (Tg rfl rfl rfl (.there (.there .here)) (.put .done) rfl (List.cons_ne_nil _ _) Aqd.2 ?_);refine Aa8 ?_;refine Ats ?_;exact Atu (i:=1) (.there .here) hst hpe (fun w3 hw3=>⟨rfl,_,⟨A1,c1,rfl⟩,Adj (Bq rfl (Bq rfl (Bq rfl Gg))) (hw3.pick (.pick 1 rfl (.pick 1 rfl (.pick 1 rfl (.drop 0 rfl .refl)))))⟩)
 .rintro D Hs' ⟨A,c,rfl⟩ -;refine Ats ?_;refine Zh ?_;refine Acu ?_;refine Aa9 ?_;refine Tx (Rx rfl (i:=1) rfl rfl Aqd) rfl ?_;refine Tx (Tw rfl) rfl ?_;refine Aa8 ?_;refine Zh ?_;refine Bd8 ?_;exact Bd9 (rs:=[.tmp 4]) (i:=0) results224 (.tmp rfl .nil) (Ln:=[.r A r.length c 30 9 (r.flatMap Ag)]) ⟨A,c,rfl,rfl⟩ (Bq rfl Gg) .here (.tmp rfl .nil) (.pick 2 rfl (.pick 2 rfl (.drop 0 rfl (.drop 0 rfl .refl))))
theorem Arp(ky:Aa->Option Ab)(p1:List Aa){K:List Ent}{A0:Option Addr}{c0:Nat}(ha0:Has K A0 p1.length c0 9 Ag p1){g1 g2:Nat}{kv:Value}(hp1:Pt K g1 0 [.slice A0 p1.length c0])(hp2:Pt K g2 0 [kv])(hkey:Ab9 prog K kv By Ed ky){r:List Aa}(hx:Um ky p1=some r)(w:World)(hK:∀ e∈K,Ent.ok w e):
  CtL prog 151 [.func (.func 170) #[] #[.pointer (some ⟨g1,0,none⟩),.pointer (some ⟨g2,0,none⟩)]] w (fun v Ln=>∃A c,v=.slice A r.length c/\Ln=[.r A r.length c 30 9 (r.flatMap Ag)]):=by
 have hb0:Has [.old w] A0 p1.length c0 9 Ag p1:=Has.low (E:=[]) (by rw[List.append_nil];exact ha0) hK;have hq1:Pt [.old w] g1 0 _:=Pt.low (E:=[]) (by rw[List.append_nil];exact hp1) hK;have hq2:Pt [.old w] g2 0 _:=Pt.low (E:=[]) (by rw[List.append_nil];exact hp2) hK;have hky:=hkey.low hK;refine CtL.mk 5 func151 rfl ntmps151 kr rfl ?_;show T 5 _ [(0,.func (.func 170) #[] #[.pointer (some ⟨g1,0,none⟩),.pointer (some ⟨g2,0,none⟩)])] _;refine Y8 ?_;refine T_x (Ux rfl (fun w1 hw1=>And ky p1 hb0 hq1 hq2 hky hx w1 hw1.ok) rfl ?_);rintro _ _ hlo ⟨A,c,rfl,rfl⟩;refine Aah ?_;refine Y4 ?_;exact Pr (rs:=[.tmp 2]) results151 (.tmp rfl .nil) (Ln:=[.r A r.length c 30 9 (r.flatMap Ag)]) ⟨A,c,rfl,rfl⟩ (Bq rfl Gg) (.pick 0 rfl (.pick 0 rfl .refl))
theorem Ahp(A:OA)(n c:Nat)(f:Nat)(caps:LV)(w:World):CtL prog 122 [.slice A n c,.func (.func f) #[] caps.toArray] w (fun v Ln=>∃g1 g2,v=.func (.func 170) #[] #[.pointer (some ⟨g1,0,none⟩),.pointer (some ⟨g2,0,none⟩)]/\Ln=[.m g2 98 [.func (.func f) #[] caps.toArray],.m g1 41 [.slice A n c]]):=by
 refine CtL.mk 6 func122 rfl ntmps122 kr rfl ?_;show T 6 _ [(0,.slice A n c),(1,.func (.func f) #[] caps.toArray)] _;refine Y2 ?_;refine T_x (Ab3 rfl rfl rfl (fun g1=>?_));refine T_x (Ab3 (cs:=[.func (.func f) #[] caps.toArray]) rfl rfl rfl (fun g2=>?_));refine Y10 ?_;exact Pr (rs:=[.tmp 4]) results122 (.tmp rfl .nil) (Ln:=[.m g2 98 [.func (.func f) #[] caps.toArray],.m g1 41 [.slice A n c]]) ⟨g1,g2,rfl,rfl⟩ (Bq rfl (Bq rfl Gg)) (.pick 0 rfl (.pick 0 rfl (.pick 0 rfl .refl)))
theorem Azo:Ab9 prog [] (.func (.func 70) #[] #[]) By Ed Bp :=
 ⟨70,[],rfl,fun x y hxy w _=>(Akn x hxy w).of fun v Ln ⟨h1,h2,_⟩=>⟨h1,h2⟩⟩
instance(A:OA)(n c f:Nat):ConF prog 122 [.slice A n c,.func (.func f) #[] #[]] (fun v Ln=>∃g1 g2,v=.func (.func 170) #[] #[.pointer (some ⟨g1,0,none⟩),.pointer (some ⟨g2,0,none⟩)]/\Ln=[.m g2 98 [.func (.func f) #[] #[]],.m g1 41 [.slice A n c]]):=⟨Ahp A n c f []⟩
instance(p1:List Aa):Con (Um Bp p1) prog 151 (fun K vs=>∃(A0:OA) (c0 g1 g2:Nat),vs=[.func (.func 170) #[] #[.pointer (some ⟨g1,0,none⟩),.pointer (some ⟨g2,0,none⟩)]]/\Has K A0 p1.length c0 9 Ag p1/\Pt K g1 0 [.slice A0 p1.length c0]/\Pt K g2 0 [.func (.func 70) #[] #[]]/\True) (fun _ r v Ln=>∃A c,v=.slice A r.length c/\Ln=[.r A r.length c 30 9 (r.flatMap Ag)]/\True):=⟨by
 rintro K _ r ⟨A0,c0,g1,g2,rfl,h1,h2,h3,-⟩ hx w hK;exact (Arp Bp p1 h1 h2 h3 (Azo.up (K:=[]) SubE.nil) hx w hK).of fun v Ln ⟨A,c,e1,e2⟩=>⟨A,c,e1,e2,trivial⟩⟩
theorem Bch(tr:Af){g:Nat}{K:LE}(hp:Pt K g 0 [iq tr.Cell,iq tr.Reach,iq tr.Slope,iq tr.Link,iq tr.Flat,iq tr.Tall,iq tr.High,iq tr.Low,iq tr.Brush,iq tr.Few]):Ab9 prog K (.func (.func 120) #[] #[.pointer (some ⟨g,0,none⟩)]) By Ed (fun p=>Pg p tr):=
 ⟨120,[_],rfl,fun x y hxy w hw=>(Agy x tr hp hxy w hw).of fun v Ln ⟨h1,h2,_⟩=>⟨h1,h2⟩⟩
def Su(p0:List Aa)(p1:Af):Option LI:=
 bnd (Lv (fun p=>Pg p p1) Alv p0 ([]:LI)) fun out=>gd (out.length<=1000000) <| some (Cq out)
theorem Ajz(p0:List Aa)(p1:Af){K:List Ent}{U0:Option Addr}{E0:Nat}(ha0:Has K U0 p0.length E0 9 Ag p0){r:List Int}(hx:Su p0 p1=some r)(w:World)(hK:∀ e∈K,Ent.ok w e):
  CtL prog 68 [.slice U0 p0.length E0,.agg #[iq p1.Cell,iq p1.Reach,iq p1.Slope,iq p1.Link,iq p1.Flat,iq p1.Tall,iq p1.High,iq p1.Low,iq p1.Brush,iq p1.Few]] w (fun v Ln=>∃(A0:OA) (c0:Nat),v=.slice A0 r.length c0/\Ln=[.r A0 r.length c0 3 1 (r.flatMap Ak)]/\True):=by
 obtain⟨out,hout,hx⟩:=Bk hx;obtain⟨hn,hx⟩:=Em hx;obtain rfl:=oI hx;have hb0:Has [.old w] U0 p0.length E0 9 Ag p0:=Has.low (E:=[]) (by rw[List.append_nil];exact ha0) hK;refine CtL.mkI 21 func68 rfl ntmps68 kr rfl ?_;show T 21 _ [(0,.slice U0 p0.length E0),(1,.agg #[iq p1.Cell,iq p1.Reach,iq p1.Slope,iq p1.Link,iq p1.Flat,iq p1.Tall,iq p1.High,iq p1.Low,iq p1.Brush,iq p1.Few])] _;refine Acu ?_;refine Aa9 ?_;refine I_x (Ab3 rfl rfl rfl (fun g3=>?_));refine Tx (Tw rfl) rfl ?_;refine Aa8 ?_;refine Zh ?_;refine Acu ?_;refine Aa9 ?_;refine Tx (Acv rfl) rfl ?_;refine Tx (Tw rfl) rfl ?_;refine Aa8 ?_;refine Zh ?_;refine Acu ?_;refine Aa9 ?_;refine I_x (Uw Bd7 rfl (fun g6=>?_));refine Aa8 ?_;refine Zh ?_;refine Acu ?_;refine Acu ?_;refine Aa9 ?_;refine Tx (Ab1 rfl) rfl ?_;refine Tx (Ab1 rfl) rfl ?_;refine I_x (Ux rfl (fun w1 _=>Ahp U0 p0.length E0 120 [.pointer (some ⟨g3,0,none⟩)] w1) rfl ?_);rintro _ _ hlo ⟨g1,g2,rfl,rfl⟩;refine Aai ?_;refine Aa8 ?_;refine Zh ?_;refine Aii ?_;refine Ba 3 1 ?_;obtain⟨KK,hKK⟩:∃KK:LE,KK=[.m g2 98 [.func (.func 120) #[] #[.pointer (some ⟨g3,0,none⟩)]],.m g1 41 [.slice U0 p0.length E0],.m g3 32 [iq p1.Cell,iq p1.Reach,iq p1.Slope,iq p1.Link,iq p1.Flat,iq p1.Tall,iq p1.High,iq p1.Low,iq p1.Brush,iq p1.Few],.old w]:=⟨_,rfl⟩;have k1:Pt KK g1 0 [.slice U0 p0.length E0]:=Pt.m0 (by rw[hKK];exact .tail _ (.head _));have k2:Pt KK g2 0 [.func (.func 120) #[] #[.pointer (some ⟨g3,0,none⟩)]]:=Pt.m0 (by rw[hKK];exact .head _);have k3:Pt KK g3 0 [iq p1.Cell,iq p1.Reach,iq p1.Slope,iq p1.Link,iq p1.Flat,iq p1.Tall,iq p1.High,iq p1.Low,iq p1.Brush,iq p1.Few]:=Pt.m0 (by rw[hKK];exact .tail _ (.tail _ (.head _)));have k0:Has KK U0 p0.length E0 9 Ag p0:=Has.up hb0 (by rw[hKK];exact SubE.cons2 (i:=3) rfl SubE.nil);refine Atw (p:=12) (Hs:=[.m g6 42 [.slice none 0 0],.r none 0 0 3 1 []]) (Lr:=KK) (K:=KK) (Rf:=fun Hs'=>∃A c,Hs'=[.m g6 42 [.slice A out.length c],.r A out.length c 3 1 (out.flatMap Ak)]) rfl (by rw[hKK];exact .pick 3 rfl (.pick 0 rfl .refl)) (Bq rfl (Bq rfl Gg)) ⟨fun w hw=>hw⟩ ?_ ?_
 ·intro l q a0 hfr hst hpe hpa htm has hbo;have hi0:∃ (A:Option Addr) (c:Nat),bunS [Sp l q,.m g6 42 [.slice none 0 0],.r none 0 0 3 1 []]=bunS [Sp l q,.m g6 42 [.slice A ([]:List Int).length c],.r A ([]:List Int).length c 3 1 (([]:List Int).flatMap Ak)]:=⟨none,0,rfl⟩;have key:=Yb (fun p=>Pg p p1) Alv p0 ([]:List Int) (K:=KK) (kv:=.func (.func 120) #[] #[.pointer (some ⟨g3,0,none⟩)]) (l:=l)
   (Inv:=fun s e=>∃A c,e=bunS [Sp l q,.m g6 42 [.slice A s.length c],.r A s.length c 3 1 (s.flatMap Ak)]) (ye:=bunS [Sp l q,.m g6 42 [.slice none 0 0],.r none 0 0 3 1 []]) k0 k1 k2 (Bch p1 k3) ?_ hi0 hout
  .refine⟨key.1,fun Lf w' hs hw'=>(key.2 Lf w' hs hw').mono ?_⟩;rintro e w'' ⟨v,Ln,rfl,⟨e',rfl,A,c,rfl⟩,hh⟩;exact⟨v,_,rfl,⟨_,⟨A,c,rfl⟩,Bq rfl (Bq rfl Gg),rfl⟩,hh⟩
  .rintro s x s' e hs ⟨A,c,rfl⟩;obtain⟨hb,hs⟩:=Em hs;obtain rfl:=oI hs;refine Alx.mk hfr hpa htm rfl (Bq rfl (Bq rfl Gg)) (fun Lf=>?_);rw[has,hbo];show T 21 _ ((12,.agg #[iq x.Id,iq x.X,iq x.Y,iq x.Z.Lo,iq x.Z.Hi,iq x.Wide,iq x.Num,iq x.Of,iq x.Class])::_) ([Sp l q,.m g6 42 [.slice A s.length c],.r A s.length c 3 1 (s.flatMap Ak)]++Lf);refine Aa9 ?_;refine I_x (Uw Aqc rfl (fun g5=>?_));refine I_h (Tg rfl rfl rfl (.here) (.put (.put (.put (.put (.put (.put (.put (.put (.put (.done)))))))))) rfl (List.cons_ne_nil _ _) Ac2.2 ?_);refine Aa8 ?_;refine Att (i:=1) (.there .here) hst ?_;refine Aii ?_;refine Aa9 ?_;refine Tx (Rx rfl (i:=2) rfl rfl Apf) rfl ?_;refine Tx (Ut rfl Aim rfl) rfl ?_;refine Tx (Rx rfl (i:=0) rfl rfl one3) rfl ?_;refine I_x (Iy rfl (Yh _) rfl (fun g0=>?_));refine I_h (Wn Ak s [x.Id] rfl rfl rfl Alu (fun _=>rfl) (i':=0) rfl rfl rfl rfl hb rfl (fun _ _=>.there (.there (.there (.there (.here))))) (fun _ _=>.drop .refl) dD (fun A1 c1=>?_));refine I_h (Tg rfl rfl rfl (.there (.there .here)) (.put .done) rfl (List.cons_ne_nil _ _) Apf.2 ?_);refine Aa8 ?_;refine Ats ?_;exact Atu (i:=1) (.there .here) hst hpe (fun w3 hw3=>⟨rfl,_,⟨A1,c1,rfl⟩,Adj (Bq rfl (Bq rfl (Bq rfl Gg))) (hw3.pick (.pick 1 rfl (.pick 1 rfl (.pick 1 rfl (.drop 0 rfl .refl)))))⟩)
 .rintro D Hs' ⟨A,c,rfl⟩ -;subst hKK;refine Ats ?_;refine Zh ?_;refine Acu ?_;refine Aa9 ?_;refine Tx (Rx rfl (i:=1) rfl rfl Apf) rfl ?_;refine I_h (Bdt out rfl hn (.there (.there .here)) rfl ?_);refine Aa8 ?_;refine Zh ?_;refine Acu ?_;refine Aa9 ?_;refine Tx (Rx rfl (i:=1) rfl rfl Apf) rfl ?_;refine Tx (Tw rfl) rfl ?_;refine Aa8 ?_;refine Zh ?_;refine Bd8 ?_;have hlen:out.length=(Cq out).length:=Lt.symm;refine Aqm (s:=4) (v':=.slice A (Cq out).length c) rfl (by rw[hlen]) ?_;refine An7 (i:=2) (.there (.there .here)) (e':=.r A (Cq out).length c 3 1 ((Cq out).flatMap Ak)) (by rw[hlen]) ?_;exact Bd9 (rs:=[.tmp 4]) (i:=0) results68 (.tmp rfl .nil) (Ln:=[.r A (Cq out).length c 3 1 ((Cq out).flatMap Ak)]) ⟨A,c,rfl,rfl,trivial⟩ (Bq rfl Gg) .here (.tmp rfl .nil) (.pick 2 rfl (.pick 5 rfl (.drop 0 rfl (.drop 0 rfl (.drop 0 rfl (.drop 0 rfl (.drop 0 rfl .refl)))))))
instance(p0:List Aa)(p1:Af):Con (Su p0 p1) prog 68 (fun K vs=>∃U0 E0,vs=[.slice U0 p0.length E0,.agg #[iq p1.Cell,iq p1.Reach,iq p1.Slope,iq p1.Link,iq p1.Flat,iq p1.Tall,iq p1.High,iq p1.Low,iq p1.Brush,iq p1.Few]]/\Has K U0 p0.length E0 9 Ag p0/\True) (fun _ r v Ln=>∃A0 c0,v=.slice A0 r.length c0/\Ln=[.r A0 r.length c0 3 1 (r.flatMap Ak)]/\True):=⟨by
 rintro K _ r ⟨U0,E0,rfl,ha0,-⟩ hx w hK;exact Ajz p0 p1 ha0 hx w hK⟩
instance:MkI prog 42 3 1 8 Ak 0:=⟨Tryz.t3,iq 0,underlying42,kr,kr,rfl,kr,kr⟩
def Vz(p0:List Aa):(LI×Int)->Option (Sum (LI×Int) LI):=fun s0=>
 if s0.2<(p0.length:Int) then (bnd (idx p0 s0.2) fun x0=>
 gd ((s0.1.length+1)*8<=140737488355328)<|
 some (.inl (s0.1++[x0.Id],w64 (s0.2+1))))
 else (some (.inr s0.1))
def Yq(p0:List Aa):Option LI:=
 gd ((0:Int)<=(p0.length:Int)/\8*Int.toNat (p0.length:Int)<=140737488355328)<|
 jn (fun (s3:LI)=>
 gd (s3.length<=1000000)<|
 some (Cq s3))
 (fun j3=>bnd (lfix (Vz p0) (([]:LI),0)) fun t0=>
 j3 t0)
def Sv(p0:List Aa):(List Aa×Int)->Option (Sum (List Aa×Int) (List Aa)):=fun s0=>
 if s0.2<(p0.length:Int) then (jn (fun (s1:List Aa)=>
 some (.inl (s1,w64 (s0.2+1))))
 (fun j0=>bnd (idx p0 s0.2) fun x0=>
 if x0.Num=x0.Of then (gd ((s0.1.length+1)*72<=140737488355328)<|
 j0 (s0.1++[x0]))
 else (j0 s0.1)))
 else (some (.inr s0.1))
def Xm(p0:List Aa):Option (List Aa):=
 jn (fun (s3:List Aa)=>
 bnd (Um Bp s3) fun r0=>
 some r0)
 (fun j3=>bnd (lfix (Sv p0) (([]:List Aa),0)) fun t0=>
 j3 t0)
def Bx(p0:List Aa)(p1:Af):Option (List Aa):=
 bnd (Qz p0 p1) fun r2=>
 bnd (Xm r2.1) fun r0=>
 some r0
def Sw(p0:List Aa)(p1:Af):Option (LI×Int):=
 bnd (Sd p0 p1) fun r2=>
 if r2=0 then (bnd (Bx p0 p1) fun r8=>
 bnd (Su r8 p1) fun r0=>
 some (r0,0))
 else (some (([]:LI),r2))
instance(p0:List Aa):Con (Yq p0) prog 106 (fun K vs=>∃U0 E0,vs=[.slice U0 p0.length E0]/\Has K U0 p0.length E0 9 Ag p0/\True) (fun _ r v Ln=>∃A0 c0,v=.slice A0 r.length c0/\Ln=[.r A0 r.length c0 3 1 (r.flatMap Ak)]/\True):=⟨by
 rintro K _ r ⟨U0,E0,rfl,ha0,-⟩ hx w hK;replace ha0:=ha0.lo hK;unfold Yq at hx;refine CtS ntmps106 results106 ?_;refine pq ?_;intros;rename_i hx
 apply Jr (γ:=OA×Nat) hx [] (fun s3 y3 f=>(3,.slice y3.1 s3.length y3.2)::f) [999] (fun s3 y3 l=>.r y3.1 s3.length y3.2 3 1 (s3.flatMap Ak)::l);exact kk
 .exact aI
 .refine pI ?_;intros;rename_i hx
  apply Lr (γ:=OA×Nat) hx [9,10] (fun s28 y28 f=>(3,.slice y28.1 s28.1.length y28.2)::(11,iq s28.2)::f) [999] (fun s28 y28 l=>.r y28.1 s28.1.length y28.2 3 1 (s28.1.flatMap Ak)::l) (_,_);exact kk;exact sk;intro s28 y28 x28 hx _;unfold Vz at hx;exact au⟩
instance(p0:List Aa):Con (Xm p0) prog 97 (fun K vs=>∃U0 E0,vs=[.slice U0 p0.length E0]/\Has K U0 p0.length E0 9 Ag p0/\True) (fun _ r v Ln=>∃A0 c0,v=.slice A0 r.length c0/\Ln=[.r A0 r.length c0 30 9 (r.flatMap Ag)]/\True):=⟨by
 rintro K _ r ⟨U0,E0,rfl,ha0,-⟩ hx w hK;replace ha0:=ha0.lo hK;unfold Xm at hx;refine CtS ntmps97 results97 ?_;refine pq ?_;intros;rename_i hx
 refine pA ?_;intros;rename_i hx
 refine pA ?_;intros;rename_i hx
 apply Jr (γ:=OA×Nat) hx [] (fun s3 y3 f=>(3,.slice y3.1 s3.length y3.2)::f) [999] (fun s3 y3 l=>.r y3.1 s3.length y3.2 30 9 (s3.flatMap Ag)::l);exact kk
 .exact aI
 .refine pI ?_;intros;rename_i hx
  refine Ba 30 9 ?_;apply Lr (γ:=OA×Nat) hx [6,7] (fun s0 y0 f=>(3,.slice y0.1 s0.1.length y0.2)::(8,iq s0.2)::f) [999] (fun s0 y0 l=>.r y0.1 s0.1.length y0.2 30 9 (s0.1.flatMap Ag)::l) (_,_);exact kk;exact sk;intro s0 y0 x0 hx _;unfold Sv at hx;exact au⟩
instance(p0:List Aa)(p1:Af):Con (Bx p0 p1) prog 44 (fun K vs=>∃U0 E0,vs=[.slice U0 p0.length E0,.agg #[iq p1.Cell,iq p1.Reach,iq p1.Slope,iq p1.Link,iq p1.Flat,iq p1.Tall,iq p1.High,iq p1.Low,iq p1.Brush,iq p1.Few]]/\Has K U0 p0.length E0 9 Ag p0/\True) (fun _ r v Ln=>∃A0 c0,v=.slice A0 r.length c0/\Ln=[.r A0 r.length c0 30 9 (r.flatMap Ag)]/\True):=⟨by
 rintro K _ r ⟨U0,E0,rfl,ha0,-⟩ hx w hK;replace ha0:=ha0.lo hK;unfold Bx at hx;refine CtS ntmps44 results44 ?_;exact au⟩
instance(p0:List Aa)(p1:Af):Con (Sw p0 p1) prog 30 (fun K vs=>∃U0 E0,vs=[.slice U0 p0.length E0,.agg #[iq p1.Cell,iq p1.Reach,iq p1.Slope,iq p1.Link,iq p1.Flat,iq p1.Tall,iq p1.High,iq p1.Low,iq p1.Brush,iq p1.Few]]/\Has K U0 p0.length E0 9 Ag p0/\True) (fun _ r v Ln=>∃A0 c0,v=.tuple #[.slice A0 r.1.length c0,iq r.2]/\Ln=[.r A0 r.1.length c0 3 1 (r.1.flatMap Ak)]/\True):=⟨by
 rintro K _ r ⟨U0,E0,rfl,ha0,-⟩ hx w hK;replace ha0:=ha0.lo hK;unfold Sw at hx;have:=dl 4 [0,1,2,1,2,2,2] [0,1,3,2,4,5,6];refine CtS ntmps30 results30 ?_;exact au⟩
instance:Kt prog 284 199 1:=⟨.mk underlying284 (kr:prog.info? 199=some t199) kr⟩
instance:OneI prog 199:=⟨.mk underlying199 rfl (kr:prog.info? 199=some t199) kr⟩
instance(x0:Int)(x1:Int):Oo prog 284 2 [(0,.int .u32 x0),(1,.int .u32 x1)] 199 [.int .u32 x0,.int .u32 x1]:=⟨fun w=>kr⟩
instance:Ur prog 286 [.bool false,.slice none 0 0,.slice none 0 0]:=⟨⟨_,zeroValue286,rfl⟩⟩
instance:Bt prog 286 0 0:=⟨.mk underlying286 rfl rfl (kr:prog.info? 4=some Tryz.t4) (kr:Tryz.t4.size=1) rfl⟩
instance:OneI prog 4:=⟨.mk underlying4 rfl (kr:prog.info? 4=some Tryz.t4) kr⟩
instance:Bt prog 286 1 1:=⟨.mk underlying286 rfl rfl (kr:prog.info? 284=some t284) (kr:t284.size=1) rfl⟩
instance:OneI prog 284:=⟨.mk underlying284 rfl (kr:prog.info? 284=some t284) kr⟩
instance:Bt prog 286 2 2:=⟨.mk underlying286 rfl rfl (kr:prog.info? 284=some t284) (kr:t284.size=1) rfl⟩
instance(x0:Bool)(x1:OA)(x2:Nat)(x3:Nat)(x4:OA)(x5:Nat)(x6:Nat):Ji prog 286 [(0,.bool x0),(1,.slice x1 x2 x3),(2,.slice x4 x5 x6)] [.bool x0,.slice x1 x2 x3,.slice x4 x5 x6]:=⟨fun w=>kr⟩
instance:AggI prog 286 3:=⟨.mk underlying286 rfl (kr:prog.info? 286=some t286) kr⟩
instance(x0:Int):Oo prog 284 1 [(0,.int .u32 x0)] 199 [.int .u32 x0]:=⟨fun w=>kr⟩
instance(x0:Int)(x1:Int)(x2:Int)(x3:Int)(x4:Int)(x5:Int):Oo prog 58 3 [(0,.agg #[iq x0,iq x1]),(1,.agg #[iq x2,iq x3]),(2,.agg #[iq x4,iq x5])] 57 [iq x0,iq x1,iq x2,iq x3,iq x4,iq x5]:=⟨fun w=>kr⟩
instance(x0:Int)(x1:Int)(x2:Int)(x3:Int)(x4:Int)(x5:Int)(x6:Int)(x7:Int):Oo prog 58 4 [(0,.agg #[iq x0,iq x1]),(1,.agg #[iq x2,iq x3]),(2,.agg #[iq x4,iq x5]),(3,.agg #[iq x6,iq x7])] 57 [iq x0,iq x1,iq x2,iq x3,iq x4,iq x5,iq x6,iq x7]:=⟨fun w=>kr⟩
instance:Bt prog 108 0 0:=⟨.mk underlying108 rfl rfl (kr:prog.info? 3=some Tryz.t3) (kr:Tryz.t3.size=1) rfl⟩
instance:Bt prog 108 1 1:=⟨.mk underlying108 rfl rfl (kr:prog.info? 3=some Tryz.t3) (kr:Tryz.t3.size=1) rfl⟩
theorem Aj0:Zo prog 108 4:=.mk underlying108 rfl (kr:prog.info? 108=some t108) kr
instance:AggI prog 108 4:=⟨Aj0⟩
instance:Bt prog 108 2 2:=⟨.mk underlying108 rfl rfl (kr:prog.info? 28=some Tryz.t28) (kr:Tryz.t28.size=2) rfl⟩
instance:AggI prog 28 2:=⟨.mk underlying28 rfl (kr:prog.info? 28=some Tryz.t28) kr⟩
instance:Ur prog 103 [iq 0,iq 0]:=⟨⟨_,zeroValue103,rfl⟩⟩
instance(x0:Int)(x1:Int):Ji prog 103 [(0,iq x0),(1,iq x1)] [iq x0,iq x1]:=⟨fun w=>kr⟩
instance:AggI prog 103 2:=⟨.arr underlying103 (kr:prog.info? 103=some t103) kr⟩
instance:ArrI prog 103 2 1:=⟨.mk underlying103 (kr:prog.info? 3=some Tryz.t3) kr⟩
instance(x0:Int)(x1:Int)(x2:Int)(x3:Int)(x4:Int)(x5:Int):Ji prog 162 [(0,.agg #[iq x0,iq x1]),(1,.agg #[iq x2,iq x3]),(2,.agg #[iq x4,iq x5])] [iq x0,iq x1,iq x2,iq x3,iq x4,iq x5]:=⟨fun w=>kr⟩
theorem Bg6(a0:Int)(a1:Int)(b0:Int)(b1:Int):∀w,(Op.equalIn 10000 57 (.agg #[iq a0,iq a1]) (.agg #[iq b0,iq b1])).run prog w=.ok (((a0==b0)&&((a1==b1)&&true))) w :=
 EqF.struct underlying57 kr (.cons rfl (fun w=>kr) (fun w=>kr) (fun w=>run_equalIn_int w 9998 3 .i64 .i64 _ _ underlying3) (.cons rfl (fun w=>kr) (fun w=>kr) (fun w=>run_equalIn_int w 9998 3 .i64 .i64 _ _ underlying3) EqF.nil))
instance(a0:Int)(a1:Int)(b0:Int)(b1:Int):EqSI prog 57 [iq a0,iq a1] [iq b0,iq b1] (((a0==b0)&&((a1==b1)&&true))):=⟨Bg6 _ _ _ _,kr⟩
instance:UndI prog 284 (.slice 199):=⟨underlying284⟩
def Ec(x:Int):LV:=[.int .u32 x]
instance(x0:Int):DecI Ec [.int .u32 x0] x0:=⟨rfl⟩
instance:EncI 199 Ec:=⟨trivial⟩
def Sn  : LI->Option (Sum LI LI):=fun s0=>
 jn (fun (s6:Bool)=>
 if s6=true then (gd (0<=(w64 ((s0.length:Int)-1))/\(w64 ((s0.length:Int)-1))<=(s0.length:Int))<|
 some (.inl (subl s0 0 (w64 ((s0.length:Int)-1)))))
 else (some (.inr s0)))
 (fun j6=>if 0<(s0.length:Int) then (bnd (idx s0 (w64 ((s0.length:Int)-1))) fun x0=>
 j6 (decide (x0=0)))
 else (j6 false))
def Ff(p0:LI):Option LI:=
 jn (fun (s2:LI)=>
 some s2)
 (fun j2=>bnd (lfix Sn p0) fun t0=>
 j2 t0)
instance:UndI prog 167 (.int .u64):=⟨underlying167⟩
instance:UndI prog 199 (.int .u32):=⟨underlying199⟩
def Vn(p0:Int):Option LI:=
 bnd (Ff ([wu32 p0,wu32 (shr_ .u64 p0 32)])) fun r3=>
 some r3
def Nl(p0:Int)(p1:Int)(p2:Int):Option (Int×Int):=
 some (wu32 (wu64 ((wu64 ((wu64 p0)+(wu64 p1)))+(wu64 p2))),wu32 (shr_ .u64 (wu64 ((wu64 ((wu64 p0)+(wu64 p1)))+(wu64 p2))) 32))
def Nm(p0:Int)(p1:Int)(p2:Int):Option (Int×Int):=
 some (wu32 ((wu32 (p0-p1))-p2),shr_ .u32 (Xs .u32 (Df .u32 (Adb .u32 (if IntKind.signed .u32 then -1 else IntKind.max .u32) p0) p1) (Df .u32 (Adb .u32 (if IntKind.signed .u32 then -1 else IntKind.max .u32) (Adb .u32 p0 p1)) (wu32 ((wu32 (p0-p1))-p2)))) 31)
instance:MkI prog 284 199 1 4 Ec 0:=⟨t199,.int .u32 0,underlying284,kr,kr,rfl,kr,kr⟩
def Lj(p1:LI)(s0:LI×Int)(x0:Int):(LI×Int×Int)->Option (Sum (LI×Int×Int) (LI×Int)):=fun s1=>
 if s1.2.2<(p1.length:Int) then (bnd (idx p1 s1.2.2) fun x1=>
 bnd (idx s1.1 (w64 (s0.2+s1.2.2))) fun x2=>
 bnd (idx s1.1 (w64 (s0.2+s1.2.2))) fun x3=>
 some (.inl (setI s1.1 (w64 (s0.2+s1.2.2)) (wu32 (wu64 ((wu64 ((wu64 ((wu64 x0)*(wu64 x1)))+(wu64 x2)))+s1.2.1))),shr_ .u64 (wu64 ((wu64 ((wu64 ((wu64 x0)*(wu64 x1)))+(wu64 x2)))+s1.2.1)) 32,w64 (s1.2.2+1))))
 else (some (.inr (s1.1,s1.2.1)))
def Lk(p0:LI)(p1:LI):(LI×Int)->Option (Sum (LI×Int) LI):=fun s0=>
 if s0.2<(p0.length:Int) then (bnd (idx p0 s0.2) fun x0=>
 jn (fun (s1:LI×Int)=>
 bnd (idx s1.1 (w64 (s0.2+(p1.length:Int)))) fun x1=>
 some (.inl (setI s1.1 (w64 (s0.2+(p1.length:Int))) (wu32 s1.2),w64 (s0.2+1))))
 (fun j0=>bnd (lfix (Lj p1 s0 x0) (s0.1,0,0)) fun t0=>
 j0 t0))
 else (some (.inr s0.1))
def Ds(p0:LI)(p1:LI):Option LI:=
 gd ((0:Int)<=(w64 ((p0.length:Int)+(p1.length:Int)))/\4*Int.toNat (w64 ((p0.length:Int)+(p1.length:Int)))<=140737488355328)<|
 jn (fun (s3:LI)=>
 bnd (Ff s3) fun r0=>
 some r0)
 (fun j3=>bnd (lfix (Lk p0 p1) (List.replicate (Int.toNat (w64 ((p0.length:Int)+(p1.length:Int)))) (0:Int),0)) fun t0=>
 j3 t0)
def Tp(p0:LI)(p1:LI):Int->Option (Sum Int (Sum Unit Int)):=fun s0=>
 if 0<=s0 then (bnd (idx p0 s0) fun x0=>
 bnd (idx p1 s0) fun x1=>
 if x0=x1 then (some (.inl (w64 (s0-1))))
 else (bnd (idx p0 s0) fun x2=>
 bnd (idx p1 s0) fun x3=>
 if x2<x3 then (some (.inr (.inr (-1))))
 else (some (.inr (.inr 1)))))
 else (some (.inr (.inl ())))
def Un(p0:LI)(p1:LI):Option Int :=
 if (p0.length:Int)=(p1.length:Int) then (jn (fun (s8:Unit)=>
 some 0)
 (fun j8=>bnd (lfix (Tp p0 p1) (w64 ((p0.length:Int)-1))) fun t0=>
 (match t0 with
 |(.inl z0)=>j8 z0
 |(.inr z0)=>some z0
 )))
 else (if (p0.length:Int)<(p1.length:Int) then (some (-1))
 else (some 1))
def Ll(s2:LI×LI):(LI×Int×Int)->Option (Sum (LI×Int×Int) (LI×Int)):=fun s0=>
 if s0.2.2<(s2.1.length:Int) then (jn (fun (s1:Int)=>
 bnd (idx s2.1 s0.2.2) fun x0=>
 bnd (Nl x0 s1 s0.2.1) fun r0=>
 bnd (idx s0.1 s0.2.2) fun x1=>
 some (.inl (setI s0.1 s0.2.2 r0.1,r0.2,w64 (s0.2.2+1))))
 (fun j0=>if s0.2.2<(s2.2.length:Int) then (bnd (idx s2.2 s0.2.2) fun x2=>
 j0 x2)
 else (j0 0)))
 else (some (.inr (s0.1,s0.2.1)))
def Sa(p0:LI)(p1:LI):Option LI:=
 jn (fun (s2:LI×LI)=>
 gd ((0:Int)<=(w64 ((s2.1.length:Int)+1))/\4*Int.toNat (w64 ((s2.1.length:Int)+1))<=140737488355328)<|
 jn (fun (s6:LI×Int)=>
 bnd (idx s6.1 (s2.1.length:Int)) fun x0=>
 bnd (Ff (setI s6.1 (s2.1.length:Int) s6.2)) fun r0=>
 some r0)
 (fun j6=>bnd (lfix (Ll s2) (List.replicate (Int.toNat (w64 ((s2.1.length:Int)+1))) (0:Int),0,0)) fun t0=>
 j6 t0))
 (fun j2=>if (p0.length:Int)<(p1.length:Int) then (j2 (p1,p0))
 else (j2 (p0,p1)))
def Qd(p0:LI)(p1:LI):(LI×Int×Int)->Option (Sum (LI×Int×Int) LI):=fun s0=>
 if s0.2.2<(p0.length:Int) then (jn (fun (s1:Int)=>
 bnd (idx p0 s0.2.2) fun x0=>
 bnd (Nm x0 s1 s0.2.1) fun r0=>
 bnd (idx s0.1 s0.2.2) fun x1=>
 some (.inl (setI s0.1 s0.2.2 r0.1,r0.2,w64 (s0.2.2+1))))
 (fun j0=>if s0.2.2<(p1.length:Int) then (bnd (idx p1 s0.2.2) fun x2=>
 j0 x2)
 else (j0 0)))
 else (some (.inr s0.1))
def Pe(p0:LI)(p1:LI):Option LI:=
 gd ((0:Int)<=(p0.length:Int)/\4*Int.toNat (p0.length:Int)<=140737488355328)<|
 jn (fun (s4:LI)=>
 bnd (Ff s4) fun r0=>
 some r0)
 (fun j4=>bnd (lfix (Qd p0 p1) (List.replicate (Int.toNat (p0.length:Int)) (0:Int),0,0)) fun t0=>
 j4 t0)
structure Br where
 neg:Bool
 n:LI
 d:LI
def Kz(p0:Br)(p1:Br):Option Br :=
 bnd (Ds p0.n p1.n) fun r4=>
 bnd (Ds p0.d p1.d) fun r0=>
 some (⟨!(p0.neg==p1.neg),r4,r0⟩:Br)
def Sb(p0:Br)(p1:Br):Option Br :=
 bnd (Ds p0.n p1.d) fun r4=>
 bnd (Ds p1.n p0.d) fun r0=>
 bnd (Ds p0.d p1.d) fun r1=>
 if (p0.neg==p1.neg)=true then (bnd (Sa r4 r0) fun r2=>
 some (⟨p0.neg,r2,r1⟩:Br))
 else (bnd (Un r4 r0) fun r3=>
 if 0<=r3 then (bnd (Pe r4 r0) fun r5=>
 some (⟨p0.neg,r5,r1⟩:Br))
 else (bnd (Pe r0 r4) fun r6=>
 some (⟨p1.neg,r6,r1⟩:Br)))
def Qe(p0:Br):Option Int :=
 if (p0.n.length:Int)=0 then (some 0)
 else (if p0.neg=true then (some (-1))
 else (some 1))
instance:UndI prog 3 (.int .i64):=⟨underlying3⟩
def Nn(p0:Int):Option Br :=
 if p0<0 then (bnd (Vn (wu64 ((wu64 (w64 (-(w64 (p0+1)))))+1))) fun r4=>
 some (⟨true,r4,[1]⟩:Br))
 else (bnd (Vn (wu64 p0)) fun r0=>
 some (⟨false,r0,[1]⟩:Br))
def Np(p0:List Ab):Int->Option (Sum Int (Sum Unit Bool)):=fun s0=>
 if s0<(p0.length:Int) then (bnd (idx p0 s0) fun x0=>
 jn (fun (s1:Bool)=>
 if s1=true then (some (.inr (.inr false)))
 else (some (.inl (w64 (s0+1)))))
 (fun j0=>if x0.X<(-268435456) then (j0 true)
 else (if 268435456<x0.X then (j0 true)
 else (if x0.Y<(-268435456) then (j0 true)
 else (j0 (decide (268435456<x0.Y)))))))
 else (some (.inr (.inl ())))
def Tq(p0:List Ab):Option Bool :=
 jn (fun (s2:Unit)=>
 some true)
 (fun j2=>bnd (lfix (Np p0) 0) fun t0=>
 (match t0 with
 |(.inl z0)=>j2 z0
 |(.inr z0)=>some z0
 ))
def Nq(p0:Int):Option Int :=
 if p0<0 then (some (-1))
 else (if 0<p0 then (some 1)
 else (some 0))
def Ok(p0:Ab)(p1:Ab)(p2:Ab):Option Int :=
 some (w64 ((w64 ((w64 (p1.X-p0.X))*(w64 (p2.Y-p0.Y))))-(w64 ((w64 (p1.Y-p0.Y))*(w64 (p2.X-p0.X))))))
def Ww(p0:Ab)(p1:Ab)(p2:Ab):Option (Int×Int):=
 bnd (Tq ([p0,p1,p2])) fun r6=>
 if r6=true then (bnd (Ok p0 p1 p2) fun r0=>
 bnd (Nq r0) fun r1=>
 some (r1,0))
 else (some (0,11))
def Ve(p0:Ab)(p1:Ab):Option Int :=
 some (w64 ((w64 ((w64 (p0.X-p1.X))*(w64 (p0.X-p1.X))))+(w64 ((w64 (p0.Y-p1.Y))*(w64 (p0.Y-p1.Y))))))
def Wa(p0:Ab)(p1:Ab)(p2:Ab)(p3:Ab):Option (Int×Int):=
 bnd (Tq ([p0,p1,p2,p3])) fun r7=>
 if r7=true then (bnd (Ok p0 p1 p2) fun r0=>
 bnd (Nq r0) fun r1=>
 if r1=0 then (some (0,12))
 else (bnd (Ve p0 p3) fun r2=>
 bnd (Nn r2) fun r3=>
 bnd (Ok p3 p1 p2) fun r4=>
 bnd (Nn r4) fun r5=>
 bnd (Kz r3 r5) fun r6=>
 bnd (Ve p1 p3) fun r8=>
 bnd (Nn r8) fun r9=>
 bnd (Ok p3 p2 p0) fun r81=>
 bnd (Nn r81) fun r84=>
 bnd (Kz r9 r84) fun r98=>
 bnd (Sb r6 r98) fun r10=>
 bnd (Ve p2 p3) fun r11=>
 bnd (Nn r11) fun r12=>
 bnd (Ok p3 p0 p1) fun r14=>
 bnd (Nn r14) fun r15=>
 bnd (Kz r12 r15) fun r17=>
 bnd (Sb r10 r17) fun r18=>
 bnd (Qe r18) fun r19=>
 some (w64 (r1*r19),0)))
 else (some (0,11))
def Aaa(p0:Av):Option Bool :=
 jn (fun (s2:Bool)=>
 some s2)
 (fun j2=>if (-1152921504606846976)<=p0.Lo then (if p0.Lo<=p0.Hi then (j2 (decide (p0.Hi<=1152921504606846976)))
 else (j2 false))
 else (j2 false))
def Pm(p0:Ae):Option Ab :=
 some (⟨p0.X,p0.Y⟩:Ab)
def La(p0:Ab)(p1:Ab):Option Bool :=
 jn (fun (s2:Bool)=>
 some s2)
 (fun j2=>if p0.X<p1.X then (j2 true)
 else (if p0.X=p1.X then (j2 (decide (p0.Y<p1.Y)))
 else (j2 false)))
def Ts(p0:Ab)(p1:Ab)(p2:Ab):Option Int :=
 bnd (Ww p0 p1 p2) fun r4=>
 some r4.1
def Aa6(p0:Ae):Option Bool :=
 bnd (Pm p0) fun r2=>
 bnd (Pm p0) fun r5=>
 bnd (Pm p0) fun r8=>
 bnd (Ww r2 r5 r8) fun r0=>
 jn (fun (s3:Bool)=>
 some s3)
 (fun j3=>if r0.2=0 then (bnd (Aaa p0.Z) fun r1=>
 if r1=true then (if (-268435456)<=p0.Z.Lo then (j3 (decide (p0.Z.Hi<=268435456)))
 else (j3 false))
 else (j3 false))
 else (j3 false))
structure Ad where
 a0:Int
 a1:Int
def Tt(p0:Int)(p1:Int):Option Ad :=
 some (⟨min p0 p1,max p0 p1⟩:Ad)
def Zf(p0:Ad)(p1:Ad):Option Int :=
 if p0.a0=p1.a0 then (some (w64 (p0.a1-p1.a1)))
 else (some (w64 (p0.a0-p1.a0)))
theorem Bfl(x0:Int)(x1:Int)(x2:Int)(x3:Int)(x4:Int)(x5:Int):Ani prog 162 [iq x0,iq x1,iq x2,iq x3,iq x4,iq x5] [.agg #[iq x0,iq x1],.agg #[iq x2,iq x3],.agg #[iq x4,iq x5]]:=by
 intro j h k w;have h':j<3:=h
 match j,h,h' with
 |0,_,_=>exact (kr:(Instr.index 162 (.agg ([.int .i64 x0,.int .i64 x1,.int .i64 x2,.int .i64 x3,.int .i64 x4,.int .i64 x5]:LV).toArray) (.int k ((0:Nat):Int))).run prog w=.ok (.agg #[.int .i64 x0,.int .i64 x1]) w)
 |1,_,_=>exact (kr:(Instr.index 162 (.agg ([.int .i64 x0,.int .i64 x1,.int .i64 x2,.int .i64 x3,.int .i64 x4,.int .i64 x5]:LV).toArray) (.int k ((1:Nat):Int))).run prog w=.ok (.agg #[.int .i64 x2,.int .i64 x3]) w)
 |2,_,_=>exact (kr:(Instr.index 162 (.agg ([.int .i64 x0,.int .i64 x1,.int .i64 x2,.int .i64 x3,.int .i64 x4,.int .i64 x5]:LV).toArray) (.int k ((2:Nat):Int))).run prog w=.ok (.agg #[.int .i64 x4,.int .i64 x5]) w)
instance(x0:Int)(x1:Int)(x2:Int)(x3:Int)(x4:Int)(x5:Int):At3 prog 162 [iq x0,iq x1,iq x2,iq x3,iq x4,iq x5] Ed [(⟨x0,x1⟩:Ab),(⟨x2,x3⟩:Ab),(⟨x4,x5⟩:Ab)]:=⟨Bfl _ _ _ _ _ _⟩
def Aam(p1:Ab)(p2:Ab)(p3:Ab):(Int×Int×Int)->Option (Sum (Int×Int×Int) (Int×Int)):=fun s0=>
 if s0.2.2<3 then (jn (fun (s1:Int×Int)=>
 some (.inl (s1.1,s1.2,w64 (s0.2.2+1))))
 (fun j0=>bnd (idx [p1,p2,p3] s0.2.2) fun x0=>
 bnd (La x0 (⟨s0.1,s0.2.1⟩:Ab)) fun r0=>
 if r0=true then (j0 (x0.X,x0.Y))
 else (j0 (s0.1,s0.2.1))))
 else (some (.inr (s0.1,s0.2.1)))
def Wy(p0:Ab)(p1:Ab)(p2:Ab)(p3:Ab):Option Bool :=
 bnd (Wa p0 p1 p2 p3) fun r5=>
 if r5.1=0 then (jn (fun (s7:Int×Int)=>
 jn (fun (s0:Bool)=>
 some s0)
 (fun j0=>if (((s7.1==p2.X)&&((s7.2==p2.Y)&&true)))=true then (j0 true)
 else (j0 ((s7.1==p3.X)&&((s7.2==p3.Y)&&true)))))
 (fun j7=>bnd (lfix (Aam p1 p2 p3) (p0.X,p0.Y,0)) fun t0=>
 j7 t0))
 else (some (decide (r5.1<0)))
instance(p0:LI):ConB (Ff p0) prog 323 (fun K vs=>∃U0 E0,vs=[.slice U0 p0.length E0]/\Has K U0 p0.length E0 1 Ec p0/\True) (fun K r v Ln=>∃A0 c0 e,v=.slice A0 r.length c0/\Ln=[e]/\Has (K++[e]) A0 r.length c0 1 Ec r/\True):=⟨by
 rintro K _ r ⟨U0,E0,rfl,ha0,-⟩ hx w hK;unfold Ff at hx;refine CtS ntmps323 results323 ?_;refine pq ?_;intros;rename_i hx
 refine pA ?_;intros;rename_i hx
 apply JrG (γ:=OA×Nat) hx [] (fun s2 y2 f=>(0,.slice y2.1 s2.length y2.2)::f) [999] (fun s2 y2 l=>l) (fun s2 y2=>Has K y2.1 s2.length y2.2 1 Ec s2/\True);exact kk
 .intro s2 y2 hx hG;obtain⟨_,-⟩:=hG;exact au
 .refine pI ?_;intros;rename_i hx
  apply LrG (γ:=OA×Nat) hx [] (fun s0 y0 f=>(0,.slice y0.1 s0.length y0.2)::f) [999] (fun s0 y0 l=>l) (fun s0 y0=>Has K y0.1 s0.length y0.2 1 Ec s0/\True) (_,_);exact kk;exact sF2;exact gG;exact pK2;intro s0 y0 x0 hx _ hG;obtain⟨_,-⟩:=hG;unfold Sn at hx;exact au⟩
instance(p0:Int):ConB (Vn p0) prog 311 (fun _ vs=>vs=[.int .u64 p0]) (fun K r v Ln=>∃A0 c0 e,v=.slice A0 r.length c0/\Ln=[e]/\Has (K++[e]) A0 r.length c0 1 Ec r/\True):=⟨by
 rintro K _ r rfl hx w hK;unfold Vn at hx;refine CtS ntmps311 results311 ?_;exact au⟩
instance(p0:Int)(p1:Int)(p2:Int):Con (Nl p0 p1 p2) prog 324 (fun _ vs=>vs=[.int .u32 p0,.int .u32 p1,.int .u32 p2]) (fun _ r v Ln=>v=.tuple #[.int .u32 r.1,.int .u32 r.2]/\Ln=[]/\True):=⟨by
 rintro _ _ r rfl hx w hK;unfold Nl at hx;refine CtS ntmps324 results324 ?_;exact au⟩
instance(p0:Int)(p1:Int)(p2:Int):Con (Nm p0 p1 p2) prog 325 (fun _ vs=>vs=[.int .u32 p0,.int .u32 p1,.int .u32 p2]) (fun _ r v Ln=>v=.tuple #[.int .u32 r.1,.int .u32 r.2]/\Ln=[]/\True):=⟨by
 rintro _ _ r rfl hx w hK;unfold Nm at hx;refine CtS ntmps325 results325 ?_;exact au⟩
instance(p0:LI)(p1:LI):ConB (Ds p0 p1) prog 312 (fun K vs=>∃U0 E0 U1 E1,vs=[.slice U0 p0.length E0,.slice U1 p1.length E1]/\Has K U0 p0.length E0 1 Ec p0/\Has K U1 p1.length E1 1 Ec p1/\True) (fun K r v Ln=>∃A0 c0 e,v=.slice A0 r.length c0/\Ln=[e]/\Has (K++[e]) A0 r.length c0 1 Ec r/\True):=⟨by
 rintro K _ r ⟨U0,E0,U1,E1,rfl,ha0,ha1,-⟩ hx w hK;unfold Ds at hx;refine CtS ntmps312 results312 ?_;refine pq ?_;intros;rename_i hx
 apply Jr (γ:=OA×Nat) hx [] (fun s3 y3 f=>(5,.slice y3.1 s3.length y3.2)::f) [999] (fun s3 y3 l=>.r y3.1 s3.length y3.2 199 1 (s3.flatMap Ec)::l);exact kk
 .exact aI
 .refine pI ?_;intros;rename_i hx
  apply Lr (γ:=OA×Nat) hx [1,18,19] (fun s0 y0 f=>(5,.slice y0.1 s0.1.length y0.2)::(20,iq s0.2)::f) [999] (fun s0 y0 l=>.r y0.1 s0.1.length y0.2 199 1 (s0.1.flatMap Ec)::l) (_,_);exact kk;exact sk;intro s0 y0 x0 hx _;unfold Lk at hx;refine pq ?_;intros;rename_i hx
  refine Cq1 (s:=21) hx rfl ?_ ?_
  .refine pI ?_;intros;rename_i hx
   refine pA ?_;intros;rename_i hx
   apply Jr (γ:=OA×Nat) hx [1,6,18,19,20] (fun s1 y1 f=>(5,.slice y1.1 s1.1.length y1.2)::(8,.int .u64 s1.2)::f) [999] (fun s1 y1 l=>.r y1.1 s1.1.length y1.2 199 1 (s1.1.flatMap Ec)::l);exact kk
   .exact aI
   .refine pI ?_;intros;rename_i hx
    apply Lr (γ:=OA×Nat) hx [1,6,7,18,19,20,25,26] (fun s2 y2 f=>(5,.slice y2.1 s2.1.length y2.2)::(8,.int .u64 s2.2.1)::(27,iq s2.2.2)::f) [999] (fun s2 y2 l=>.r y2.1 s2.1.length y2.2 199 1 (s2.1.flatMap Ec)::l) (_,_);exact kk;exact sk;intro s2 y2 x1 hx _;unfold Lj at hx;exact au
  .exact aI⟩
instance(p0:LI)(p1:LI):Con (Un p0 p1) prog 314 (fun K vs=>∃U0 E0 U1 E1,vs=[.slice U0 p0.length E0,.slice U1 p1.length E1]/\Has K U0 p0.length E0 1 Ec p0/\Has K U1 p1.length E1 1 Ec p1/\True) (fun _ r v Ln=>v=iq r/\Ln=[]/\True):=⟨by
 rintro K _ r ⟨U0,E0,U1,E1,rfl,ha0,ha1,-⟩ hx w hK;replace ha0:=ha0.lo hK;replace ha1:=ha1.lo hK;unfold Un at hx;have:=dl 8 [0,0,0,1,0,0,0,1,0] [0,1,2,3,4,5,6,7,8];have:=dl 9 [0,0,0,1,0,0,0,1,0] [0,1,2,3,4,5,6,7,8];refine CtS ntmps314 results314 ?_;refine pq ?_;intros;rename_i hx
 refine Cq2 (s:=10) hx rfl ?_ ?_
 .exact aI
 .refine pI ?_;intros;rename_i hx
  apply Jr (γ:=Unit) hx [] (fun s8 y8 f=>f) [999] (fun s8 y8 l=>l);exact kk
  .exact aI
  .refine pI ?_;intros;rename_i hx
   apply Lr (γ:=Unit) hx [0,1] (fun s61 y61 f=>(5,iq s61)::f) [999] (fun s61 y61 l=>l) ();exact kk;exact sk;intro s61 y61 x61 hx _;unfold Tp at hx;exact au⟩
instance(p0:LI)(p1:LI):ConB (Sa p0 p1) prog 313 (fun K vs=>∃U0 E0 U1 E1,vs=[.slice U0 p0.length E0,.slice U1 p1.length E1]/\Has K U0 p0.length E0 1 Ec p0/\Has K U1 p1.length E1 1 Ec p1/\True) (fun K r v Ln=>∃A0 c0 e,v=.slice A0 r.length c0/\Ln=[e]/\Has (K++[e]) A0 r.length c0 1 Ec r/\True):=⟨by
 rintro K _ r ⟨U0,E0,U1,E1,rfl,ha0,ha1,-⟩ hx w hK;unfold Sa at hx;refine CtS ntmps313 results313 ?_;refine pq ?_;intros;rename_i hx
 refine pA ?_;intros;rename_i hx
 apply JrG (γ:=OA×Nat×OA×Nat) hx [] (fun s2 y2 f=>(0,.slice y2.1 s2.1.length y2.2.1)::(1,.slice y2.2.2.1 s2.2.length y2.2.2.2)::f) [999] (fun s2 y2 l=>l) (fun s2 y2=>Has K y2.1 s2.1.length y2.2.1 1 Ec s2.1/\Has K y2.2.2.1 s2.2.length y2.2.2.2 1 Ec s2.2/\True);exact kk
 .intro s2 y2 hx hG;obtain⟨_,_,-⟩:=hG;refine pq ?_;intros;rename_i hx
  refine pA ?_;intros;rename_i hx
  apply Jr (γ:=OA×Nat) hx [0] (fun s6 y6 f=>(5,.slice y6.1 s6.1.length y6.2)::(6,.int .u32 s6.2)::f) [999] (fun s6 y6 l=>.r y6.1 s6.1.length y6.2 199 1 (s6.1.flatMap Ec)::l);exact kk
  .exact aI
  .refine pI ?_;intros;rename_i hx
   apply Lr (γ:=OA×Nat) hx [0,1,21] (fun s0 y0 f=>(5,.slice y0.1 s0.1.length y0.2)::(6,.int .u32 s0.2.1)::(22,iq s0.2.2)::f) [999] (fun s0 y0 l=>.r y0.1 s0.1.length y0.2 199 1 (s0.1.flatMap Ec)::l) (_,_);exact kk;exact sk;intro s0 y0 x0 hx _;unfold Ll at hx;exact au
 .exact aI⟩
instance(p0:LI)(p1:LI):ConB (Pe p0 p1) prog 315 (fun K vs=>∃U0 E0 U1 E1,vs=[.slice U0 p0.length E0,.slice U1 p1.length E1]/\Has K U0 p0.length E0 1 Ec p0/\Has K U1 p1.length E1 1 Ec p1/\True) (fun K r v Ln=>∃A0 c0 e,v=.slice A0 r.length c0/\Ln=[e]/\Has (K++[e]) A0 r.length c0 1 Ec r/\True):=⟨by
 rintro K _ r ⟨U0,E0,U1,E1,rfl,ha0,ha1,-⟩ hx w hK;unfold Pe at hx;refine CtS ntmps315 results315 ?_;refine pq ?_;intros;rename_i hx
 refine pA ?_;intros;rename_i hx
 apply Jr (γ:=OA×Nat) hx [] (fun s4 y4 f=>(5,.slice y4.1 s4.length y4.2)::f) [999] (fun s4 y4 l=>.r y4.1 s4.length y4.2 199 1 (s4.flatMap Ec)::l);exact kk
 .exact aI
 .refine pI ?_;intros;rename_i hx
  apply Lr (γ:=OA×Nat) hx [0,1,13] (fun s0 y0 f=>(5,.slice y0.1 s0.1.length y0.2)::(6,.int .u32 s0.2.1)::(14,iq s0.2.2)::f) [999] (fun s0 y0 l=>.r y0.1 s0.1.length y0.2 199 1 (s0.1.flatMap Ec)::l) (_,_);exact kk;exact sk;intro s0 y0 x0 hx _;unfold Qd at hx;exact au⟩
instance(p0:Br)(p1:Br):ConB (Kz p0 p1) prog 288 (fun K vs=>∃U0 E0 U1 E1 U2 E2 U3 E3,vs=[.agg #[.bool p0.neg,.slice U0 p0.n.length E0,.slice U1 p0.d.length E1],.agg #[.bool p1.neg,.slice U2 p1.n.length E2,.slice U3 p1.d.length E3]]/\Has K U0 p0.n.length E0 1 Ec p0.n/\Has K U1 p0.d.length E1 1 Ec p0.d/\Has K U2 p1.n.length E2 1 Ec p1.n/\Has K U3 p1.d.length E3 1 Ec p1.d/\True) (fun K r v Ln=>∃A0 c0 A2 c2 e,v=.agg #[.bool r.neg,.slice A0 r.n.length c0,.slice A2 r.d.length c2]/\Ln=[e]/\Has (K++[e]) A0 r.n.length c0 1 Ec r.n/\Has (K++[e]) A2 r.d.length c2 1 Ec r.d/\True):=⟨by
 rintro K _ r ⟨U0,E0,U1,E1,U2,E2,U3,E3,rfl,ha0,ha1,ha2,ha3,-⟩ hx w hK;unfold Kz at hx;have:=dl 1 [0,1,0,1,0,0,1,0,1,2,0,1,0,1,2,0,3] [0,1,2,3,4,5,6,7,8,10,11,12,13,9,14,15,16];refine CtS ntmps288 results288 ?_;exact au⟩
instance(p0:Br)(p1:Br):ConB (Sb p0 p1) prog 289 (fun K vs=>∃U0 E0 U1 E1 U2 E2 U3 E3,vs=[.agg #[.bool p0.neg,.slice U0 p0.n.length E0,.slice U1 p0.d.length E1],.agg #[.bool p1.neg,.slice U2 p1.n.length E2,.slice U3 p1.d.length E3]]/\Has K U0 p0.n.length E0 1 Ec p0.n/\Has K U1 p0.d.length E1 1 Ec p0.d/\Has K U2 p1.n.length E2 1 Ec p1.n/\Has K U3 p1.d.length E3 1 Ec p1.d/\True) (fun K r v Ln=>∃A0 c0 A2 c2 e,v=.agg #[.bool r.neg,.slice A0 r.n.length c0,.slice A2 r.d.length c2]/\Ln=[e]/\Has (K++[e]) A0 r.n.length c0 1 Ec r.n/\Has (K++[e]) A2 r.d.length c2 1 Ec r.d/\True):=⟨by
 rintro K _ r ⟨U0,E0,U1,E1,U2,E2,U3,E3,rfl,ha0,ha1,ha2,ha3,-⟩ hx w hK;unfold Sb at hx;have:=dl 1 [0,1,0,1,2,0,1,0,1,2,2,2] [0,1,2,3,5,6,7,8,4,9,10,11];have:=dl 4 [0,1,0,0,2,0,0,3] [0,1,2,3,5,4,6,7];have:=dl 6 [0,1,0,0,2,0,0,3] [0,1,2,3,5,4,6,7];have:=dl 7 [0,1,0,0,2,0,0,3] [0,1,2,3,5,4,6,7];refine CtS ntmps289 results289 ?_;refine pq ?_;intros;rename_i hx
 refine Cq3 (s:=27) hx rfl ?_ ?_
 .exact aI
 .exact aI⟩
instance(p0:Br):Con (Qe p0) prog 290 (fun K vs=>∃U0 E0 U1 E1,vs=[.agg #[.bool p0.neg,.slice U0 p0.n.length E0,.slice U1 p0.d.length E1]]/\Has K U0 p0.n.length E0 1 Ec p0.n/\Has K U1 p0.d.length E1 1 Ec p0.d/\True) (fun _ r v Ln=>v=iq r/\Ln=[]/\True):=⟨by
 rintro K _ r ⟨U0,E0,U1,E1,rfl,ha0,ha1,-⟩ hx w hK;replace ha0:=ha0.lo hK;replace ha1:=ha1.lo hK;unfold Qe at hx;refine CtS ntmps290 results290 ?_;exact au⟩
instance(p0:Int):ConB (Nn p0) prog 286 (fun _ vs=>vs=[iq p0]) (fun K r v Ln=>∃A0 c0 A2 c2 e,v=.agg #[.bool r.neg,.slice A0 r.n.length c0,.slice A2 r.d.length c2]/\Ln=[e]/\Has (K++[e]) A0 r.n.length c0 1 Ec r.n/\Has (K++[e]) A2 r.d.length c2 1 Ec r.d/\True):=⟨by
 rintro K _ r rfl hx w hK;unfold Nn at hx;refine CtS ntmps286 results286 ?_;exact au⟩
instance(p0:List Ab):Con (Tq p0) prog 267 (fun K vs=>∃U0 E0,vs=[.slice U0 p0.length E0]/\Has K U0 p0.length E0 2 Fh p0/\True) (fun _ r v Ln=>v=.bool r/\Ln=[]/\True):=⟨by
 rintro K _ r ⟨U0,E0,rfl,ha0,-⟩ hx w hK;replace ha0:=ha0.lo hK;unfold Tq at hx;refine CtS ntmps267 results267 ?_;refine pq ?_;intros;rename_i hx
 refine pA ?_;intros;rename_i hx
 apply Jr (γ:=Unit) hx [] (fun s2 y2 f=>f) [999] (fun s2 y2 l=>l);exact kk
 .exact aI
 .refine pI ?_;intros;rename_i hx
  apply Lr (γ:=Unit) hx [5,6] (fun s0 y0 f=>(7,iq s0)::f) [999] (fun s0 y0 l=>l) ();exact kk;exact sk;intro s0 y0 x0 hx _;unfold Np at hx;refine pq ?_;intros;rename_i hx
  refine Cq1 (s:=8) hx rfl ?_ ?_
  .refine pI ?_;intros;rename_i hx
   apply Jr (γ:=Unit) hx [5,6,7] (fun s1 y1 f=>(28,.bool s1)::f) [999] (fun s1 y1 l=>l);exact kk
   .exact aI
   .exact aI
  .exact aI⟩
instance(p0:Int):Con (Nq p0) prog 268 (fun _ vs=>vs=[iq p0]) (fun _ r v Ln=>v=iq r/\Ln=[]/\True):=⟨by
 rintro _ _ r rfl hx w hK;unfold Nq at hx;refine CtS ntmps268 results268 ?_;exact au⟩
instance(p0:Ab)(p1:Ab)(p2:Ab):Con (Ok p0 p1 p2) prog 269 (fun _ vs=>vs=[.agg #[iq p0.X,iq p0.Y],.agg #[iq p1.X,iq p1.Y],.agg #[iq p2.X,iq p2.Y]]) (fun _ r v Ln=>v=iq r/\Ln=[]/\True):=⟨by
 rintro _ _ r rfl hx w hK;unfold Ok at hx;refine CtS ntmps269 results269 ?_;exact au⟩
instance(p0:Ab)(p1:Ab)(p2:Ab):Con (Ww p0 p1 p2) prog 230 (fun _ vs=>vs=[.agg #[iq p0.X,iq p0.Y],.agg #[iq p1.X,iq p1.Y],.agg #[iq p2.X,iq p2.Y]]) (fun _ r v Ln=>v=.tuple #[iq r.1,iq r.2]/\Ln=[]/\True):=⟨by
 rintro _ _ r rfl hx w hK;unfold Ww at hx;refine CtS ntmps230 results230 ?_;exact au⟩
instance(p0:Ab)(p1:Ab):Con (Ve p0 p1) prog 287 (fun _ vs=>vs=[.agg #[iq p0.X,iq p0.Y],.agg #[iq p1.X,iq p1.Y]]) (fun _ r v Ln=>v=iq r/\Ln=[]/\True):=⟨by
 rintro _ _ r rfl hx w hK;unfold Ve at hx;have:=dl 1 [0,1,0,1,0,0,1,0,1,0,2,2] [0,1,2,3,4,5,6,7,8,9,10,11];refine CtS ntmps287 results287 ?_;exact au⟩
instance(p0:Ab)(p1:Ab)(p2:Ab)(p3:Ab):Con (Wa p0 p1 p2 p3) prog 236 (fun _ vs=>vs=[.agg #[iq p0.X,iq p0.Y],.agg #[iq p1.X,iq p1.Y],.agg #[iq p2.X,iq p2.Y],.agg #[iq p3.X,iq p3.Y]]) (fun _ r v Ln=>v=.tuple #[iq r.1,iq r.2]/\Ln=[]/\True):=⟨by
 rintro _ _ r rfl hx w hK;unfold Wa at hx;have:=dl 6 [1,1,2,2,1,1,1,2,2,2,4,3] [0,1,4,5,6,2,3,7,8,9,10,11] [10];have:=dl 7 [1,1,1,2,2,1,1,1,2,2,2,2,3] [0,1,2,5,6,7,3,4,8,9,10,11,12];have:=dl 8 [1,1,1,2,2,1,1,1,2,2,2,2,3] [0,1,2,5,6,7,3,4,8,9,10,11,12];refine CtS ntmps236 results236 ?_;refine pq ?_;intros;rename_i hx
 refine Cq4 (s:=18) hx rfl ?_ ?_
 .exact aI
 .refine pI ?_;intros;rename_i hx
  refine Cq1 (s:=25) hx rfl ?_ ?_
  .exact aI
  .exact aI⟩
instance(p0:Av):Con (Aaa p0) prog 231 (fun _ vs=>vs=[.agg #[iq p0.Lo,iq p0.Hi]]) (fun _ r v Ln=>v=.bool r/\Ln=[]/\True):=⟨by
 rintro _ _ r rfl hx w hK;unfold Aaa at hx;refine CtS ntmps231 results231 ?_;exact au⟩
instance Avw(p0:Ae):Con (Pm p0) prog 172 (fun _ vs=>vs=[.agg #[iq p0.X,iq p0.Y,iq p0.Z.Lo,iq p0.Z.Hi]]) (fun _ r v Ln=>v=.agg #[iq r.X,iq r.Y]/\Ln=[]/\True):=⟨by
 rintro _ _ r rfl hx w hK;unfold Pm at hx;refine CtS ntmps172 results172 ?_;exact au⟩
theorem Abt(p0:Ae){r:Ab}(hx:Pm p0=some r)(w:World):CtL prog 172 [.agg #[iq p0.X,iq p0.Y,iq p0.Z.Lo,iq p0.Z.Hi]] w fun v Ln=>v=.agg #[iq r.X,iq r.Y]/\Ln=[]/\True:=(Avw p0).h [] _ _ rfl hx w (fun _ h=>absurd h List.not_mem_nil)
instance Akw(p0:Ab)(p1:Ab):Con (La p0 p1) prog 184 (fun _ vs=>vs=[.agg #[iq p0.X,iq p0.Y],.agg #[iq p1.X,iq p1.Y]]) (fun _ r v Ln=>v=.bool r/\Ln=[]/\True):=⟨by
 rintro _ _ r rfl hx w hK;unfold La at hx;refine CtS ntmps184 results184 ?_;exact au⟩
theorem Acs(p0:Ab)(p1:Ab){r:Bool}(hx:La p0 p1=some r)(w:World):CtL prog 184 [.agg #[iq p0.X,iq p0.Y],.agg #[iq p1.X,iq p1.Y]] w fun v Ln=>v=.bool r/\Ln=[]/\True:=(Akw p0 p1).h [] _ _ rfl hx w (fun _ h=>absurd h List.not_mem_nil)
instance(p0:Ab)(p1:Ab)(p2:Ab):Con (Ts p0 p1 p2) prog 178 (fun _ vs=>vs=[.agg #[iq p0.X,iq p0.Y],.agg #[iq p1.X,iq p1.Y],.agg #[iq p2.X,iq p2.Y]]) (fun _ r v Ln=>v=iq r/\Ln=[]/\True):=⟨by
 rintro _ _ r rfl hx w hK;unfold Ts at hx;refine CtS ntmps178 results178 ?_;exact au⟩
instance(p0:Ae):Con (Aa6 p0) prog 171 (fun _ vs=>vs=[.agg #[iq p0.X,iq p0.Y,iq p0.Z.Lo,iq p0.Z.Hi]]) (fun _ r v Ln=>v=.bool r/\Ln=[]/\True):=⟨by
 rintro _ _ r rfl hx w hK;unfold Aa6 at hx;have:=dl 1 [1,2,1,2,1,2,2,0,0,0,2,2] [0,2,4,1,3,5,6,7,8,9,10,11];refine CtS ntmps171 results171 ?_;exact au⟩
instance(p0:Int)(p1:Int):Con (Tt p0 p1) prog 173 (fun _ vs=>vs=[iq p0,iq p1]) (fun _ r v Ln=>v=.agg #[iq r.a0,iq r.a1]/\Ln=[]/\True):=⟨by
 rintro _ _ r rfl hx w hK;unfold Tt at hx;refine CtS ntmps173 results173 ?_;exact au⟩
instance Ane(p0:Ad)(p1:Ad):Con (Zf p0 p1) prog 177 (fun _ vs=>vs=[.agg #[iq p0.a0,iq p0.a1],.agg #[iq p1.a0,iq p1.a1]]) (fun _ r v Ln=>v=iq r/\Ln=[]/\True):=⟨by
 rintro _ _ r rfl hx w hK;unfold Zf at hx;refine CtS ntmps177 results177 ?_;exact au⟩
theorem Akx(p0:Ad)(p1:Ad){r:Int}(hx:Zf p0 p1=some r)(w:World):CtL prog 177 [.agg #[iq p0.a0,iq p0.a1],.agg #[iq p1.a0,iq p1.a1]] w fun v Ln=>v=iq r/\Ln=[]/\True:=(Ane p0 p1).h [] _ _ rfl hx w (fun _ h=>absurd h List.not_mem_nil)
instance(p0:Ab)(p1:Ab)(p2:Ab)(p3:Ab):Con (Wy p0 p1 p2 p3) prog 187 (fun _ vs=>vs=[.agg #[iq p0.X,iq p0.Y],.agg #[iq p1.X,iq p1.Y],.agg #[iq p2.X,iq p2.Y],.agg #[iq p3.X,iq p3.Y]]) (fun _ r v Ln=>v=.bool r/\Ln=[]/\True):=⟨by
 rintro _ _ r rfl hx w hK;unfold Wy at hx;refine CtS ntmps187 results187 ?_;refine pq ?_;intros;rename_i hx
 refine Cq2 (s:=23) hx rfl ?_ ?_
 .exact aI
 .refine pI ?_;intros;rename_i hx
  refine pA ?_;intros;rename_i hx
  apply Jr (γ:=Nat) hx [6,7] (fun s7 y7 f=>(11,.pointer (some ⟨y7,0,none⟩))::f) [1,2,999] (fun s7 y7 l=>.m y7 57 [iq s7.1,iq s7.2]::l);exact kk
  .exact aI
  .refine pI ?_;intros;rename_i hx
   apply Lr (γ:=Nat) hx [6,7,30] (fun s0 y0 f=>(11,.pointer (some ⟨y0,0,none⟩))::(31,iq s0.2.2)::f) [1,2,999] (fun s0 y0 l=>.m y0 57 [iq s0.1,iq s0.2.1]::l) _;exact kk;exact sk;intro s0 y0 x0 hx _;unfold Aam at hx;exact au⟩
theorem Apg:Po prog 22 108 4:=.mk underlying22 (kr:prog.info? 108=some t108) kr
instance:Kt prog 22 108 4:=⟨Apg⟩
instance:Ur prog 108 [iq 0,iq 0,iq 0,iq 0]:=⟨⟨_,zeroValue108,rfl⟩⟩
instance:Kt prog 24 103 2:=⟨.mk underlying24 (kr:prog.info? 103=some t103) kr⟩
theorem Aj1:Po prog 42 3 1:=.mk underlying42 (kr:prog.info? 3=some Tryz.t3) kr
instance:Kt prog 42 3 1:=⟨Aj1⟩
instance:ArrI prog 101 3 1:=⟨.mk underlying101 (kr:prog.info? 3=some Tryz.t3) kr⟩
theorem Alw:Zp prog 22:=.mk underlying22 rfl (kr:prog.info? 22=some Tryz.t22) kr
instance:OneI prog 22:=⟨Alw⟩
instance:UndI prog 22 (.slice 108):=⟨underlying22⟩
instance:UndI prog 203 (.map 57 4):=⟨underlying203⟩
def Lm(p0:List Ae):Int->Option (Sum Int (Sum Unit Int)):=fun s0=>
 if s0<(p0.length:Int) then (bnd (idx p0 s0) fun x0=>
 bnd (Aa6 x0) fun r0=>
 if r0=true then (some (.inl (w64 (s0+1))))
 else (some (.inr (.inr 60))))
 else (some (.inr (.inl ())))
def So(p0:List Ae):((List (Ab×Bool))×Int)->Option (Sum ((List (Ab×Bool))×Int) (Sum Unit Int)):=fun s0=>
 if s0.2<(p0.length:Int) then (bnd (idx p0 s0.2) fun x0=>
 bnd (Pm x0) fun r0=>
 gd ((-9223372036854775808<=r0.X/\r0.X<=9223372036854775807)/\(-9223372036854775808<=r0.Y/\r0.Y<=9223372036854775807))<|
 bnd (some ((mget s0.1 r0).getD false)) fun x1=>
 if x1=true then (some (.inr (.inr 61)))
 else (bnd (Pm x0) fun r1=>
 gd ((-9223372036854775808<=r1.X/\r1.X<=9223372036854775807)/\(-9223372036854775808<=r1.Y/\r1.Y<=9223372036854775807))<|
 gd (s0.1.length<9223372036854775807)<|
 some (.inl (mput s0.1 r1 true,w64 (s0.2+1)))))
 else (some (.inr (.inl ())))
def Uo(p0:List Ae):Option Int :=
 if 1024<(p0.length:Int) then (some 2)
 else (jn (fun (s5:Unit)=>
 jn (fun (s0:Unit)=>
 some 0)
 (fun j0=>bnd (lfix (So p0) (([]:List (Ab×Bool)),0)) fun t0=>
 (match t0 with
 |(.inl z0)=>j0 z0
 |(.inr z0)=>some z0
 )))
 (fun j5=>bnd (lfix (Lm p0) 0) fun t1=>
 (match t1 with
 |(.inl z1)=>j5 z1
 |(.inr z1)=>some z1
 )))
def Am(x:Ae):LV:=[iq x.X,iq x.Y,iq x.Z.Lo,iq x.Z.Hi]
instance(x0:Int)(x1:Int)(x2:Int)(x3:Int):DecI Am [iq x0,iq x1,iq x2,iq x3] (⟨x0,x1,⟨x2,x3⟩⟩):=⟨rfl⟩
instance:EncI 108 Am:=⟨trivial⟩
def Au(x:Ad):Value:=.agg #[iq x.a0,iq x.a1]
theorem Jh(x y:Ad)(h:Au x=Au y):x=y:=by
 rcases x with⟨_,_⟩;rcases y with⟨_,_⟩;simp[Au] at h;simp[h]
instance(x:Ad):UnfI Au x (.agg #[iq x.a0,iq x.a1]):=⟨rfl⟩
instance(x0:Int)(x1:Int):Abe Au (.agg #[iq x0,iq x1]) (⟨x0,x1⟩):=⟨rfl⟩
instance:ValI prog 103 Au ((⟨0,0⟩:Ad)):=⟨Jh,fun w=>kr⟩
theorem Bci:(match prog.underlying 103 with|some (.array _ _)|some (.struct _)=>true|_=>false)=true:=kr
theorem Aeu:Maps.Keyed prog 103:=Maps.Keyed.of_law (deep_law_laid Aqe (m:=3) oo (of_decide_eq_true kr) kr Bci)
theorem Bfm(x:Ad)(h:(-9223372036854775808<=x.a0/\x.a0<=9223372036854775807)/\(-9223372036854775808<=x.a1/\x.a1<=9223372036854775807)):(keyOf prog 103 (Au x)).isSome=true:=by
 refine Av1 (zs:=[x.a0,x.a1]) (d:=333) kr underlying103 kr rfl underlying3 kr kr (fun z hz=>?_);simp only[List.mem_cons,List.not_mem_nil,or_false] at hz;rcases hz with rfl|rfl
 .exact Aiz h.1
 .exact Aiz h.2
instance:KeyI prog 103 Au (fun x=>(-9223372036854775808<=x.a0/\x.a0<=9223372036854775807)/\(-9223372036854775808<=x.a1/\x.a1<=9223372036854775807)):=⟨Aeu,Jh,Bfm⟩
instance:UndI prog 154 (.map 103 4):=⟨underlying154⟩
instance:UndI prog 24 (.slice 103):=⟨underlying24⟩
def Ar(x:Ad):LV:=[iq x.a0,iq x.a1]
instance(x0:Int)(x1:Int):DecI Ar [iq x0,iq x1] (⟨x0,x1⟩):=⟨rfl⟩
instance:EncI 103 Ar:=⟨trivial⟩
def Vf(p1:List Ad):((List (Ad×Bool))×Int)->Option (Sum ((List (Ad×Bool))×Int) Unit):=fun s6=>
 if s6.2<(p1.length:Int) then none
 else (some (.inr ()))
def Tz(p1:List Ad):Int->Option (Sum Int Unit):=fun s0=>
 if s0<(p1.length:Int) then none
 else (some (.inr ()))
def Rs(p0:List Ae)(p1:List Ad):Option Int :=
 jn (fun (s3:Unit)=>
 jn (fun (s9:Unit)=>
 some 0)
 (fun j9=>bnd (lfix (Tz p1) 0) fun t0=>
 j9 t0))
 (fun j3=>bnd (lfix (Vf p1) (([]:List (Ad×Bool)),0)) fun t6=>
 j3 t6)
def Sx(p0:Int):Option Bool :=
 some (!(decide (p0=p0)))
def Qf(p0:Int)(p1:Int):Option Int :=
 bnd (Sx p0) fun r1=>
 bnd (Sx p1) fun r4=>
 if r1=true then (if r4=true then (some 0)
 else (some (-1)))
 else (if r4=true then (some 1)
 else (if p0<p1 then (some (-1))
 else (if p1<p0 then (some 1)
 else (some 0))))
instance:UndI prog 42 (.slice 3):=⟨underlying42⟩
def Bs(p0:LI)(p1:LI):Int->Option (Sum Int (Sum Unit Int)):=fun s0=>
 if s0<(p0.length:Int) then (bnd (idx p0 s0) fun x0=>
 if (p1.length:Int)<=s0 then (some (.inr (.inr 1)))
 else (bnd (idx p1 s0) fun x1=>
 bnd (Qf x0 x1) fun r0=>
 if r0=0 then (some (.inl (w64 (s0+1))))
 else (some (.inr (.inr r0)))))
 else (some (.inr (.inl ())))
def Hq(p0:LI)(p1:LI):Option Int :=
 jn (fun (s2:Unit)=>
 if (p0.length:Int)<(p1.length:Int) then (some (-1))
 else (some 0))
 (fun j2=>bnd (lfix (Bs p0 p1) 0) fun t0=>
 (match t0 with
 |(.inl z0)=>j2 z0
 |(.inr z0)=>some z0
 ))
structure Ah where
 a0:Int
 a1:Int
 a2:Int
def Fg(p0:Ah)(p1:Ah):Option Int :=
 bnd (Hq ([p0.a0,p0.a1,p0.a2]) ([p1.a0,p1.a1,p1.a2])) fun r5=>
 some r5
def Yi(p0:Int)(p1:Int)(p2:List Ae):Option Int :=
 bnd (idx p2 p0) fun x1=>
 bnd (idx p2 p1) fun x0=>
 bnd (Pm x1) fun r0=>
 bnd (Pm x0) fun r1=>
 bnd (La r0 r1) fun r2=>
 if r2=true then (some (-1))
 else (bnd (idx p2 p1) fun x2=>
 bnd (idx p2 p0) fun x3=>
 bnd (Pm x2) fun r3=>
 bnd (Pm x3) fun r4=>
 bnd (La r3 r4) fun r5=>
 if r5=true then (some 1)
 else (some 0))
def Az(x:Ah):LV:=[iq x.a0,iq x.a1,iq x.a2]
instance(x0:Int)(x1:Int)(x2:Int):DecI Az [iq x0,iq x1,iq x2] (⟨x0,x1,x2⟩):=⟨rfl⟩
instance:EncI 101 Az:=⟨trivial⟩
instance(p0:List Ae):Con (Uo p0) prog 123 (fun K vs=>∃U0 E0,vs=[.slice U0 p0.length E0]/\Has K U0 p0.length E0 4 Am p0/\True) (fun _ r v Ln=>v=iq r/\Ln=[]/\True):=⟨by
 rintro K _ r ⟨U0,E0,rfl,ha0,-⟩ hx w hK;replace ha0:=ha0.lo hK;unfold Uo at hx;refine CtS ntmps123 results123 ?_;refine pq ?_;intros;rename_i hx
 refine Cq1 (s:=10) hx rfl ?_ ?_
 .exact aI
 .refine pI ?_;intros;rename_i hx
  apply Jr (γ:=Unit) hx [0] (fun s5 y5 f=>f) [999] (fun s5 y5 l=>l);exact kk
  .intro s5 y5 hx;refine pq ?_;intros;rename_i hx
   refine pA ?_;intros;rename_i hx
   apply Jr (γ:=Unit) hx [] (fun s0 y0 f=>f) [999] (fun s0 y0 l=>l);exact kk
   .exact aI
   .refine pI ?_;intros;rename_i hx
    apply Lr (γ:=Nat) hx [22,23] (fun s1 y1 f=>(5,.map (some y1))::(24,iq s1.2)::f) [999] (fun s1 y1 l=>Bg prog 57 Ed Ca y1 s1.1::l) _;exact kk;exact sk;intro s1 y1 x0 hx _;unfold So at hx;exact au
  .refine pI ?_;intros;rename_i hx
   apply Lr (γ:=Unit) hx [0,11,12] (fun s2 y2 f=>(13,iq s2)::f) [999] (fun s2 y2 l=>l) ();exact kk;exact sk;intro s2 y2 x1 hx _;unfold Lm at hx;exact au⟩
instance(p0:List Ae)(p1:List Ad):Con (Rs p0 p1) prog 124 (fun K vs=>∃U0 E0 U1 E1,vs=[.slice U0 p0.length E0,.slice U1 p1.length E1]/\Has K U0 p0.length E0 4 Am p0/\Has K U1 p1.length E1 2 Ar p1/\True) (fun _ r v Ln=>v=iq r/\Ln=[]/\True):=⟨by
 rintro K _ r ⟨U0,E0,U1,E1,rfl,ha0,ha1,-⟩ hx w hK;replace ha0:=ha0.lo hK;replace ha1:=ha1.lo hK;unfold Rs at hx;refine CtS ntmps124 results124 ?_;refine pq ?_;intros;rename_i hx
 refine pA ?_;intros;rename_i hx
 refine pA ?_;intros;rename_i hx
 apply Jr (γ:=Unit) hx [0,1] (fun s3 y3 f=>f) [999] (fun s3 y3 l=>l);exact kk
 .intro s3 y3 hx;apply Jr (γ:=Unit) hx [] (fun s9 y9 f=>f) [999] (fun s9 y9 l=>l);exact kk
  .exact aI
  .refine pI ?_;intros;rename_i hx
   apply Lr (γ:=Unit) hx [0,1,66,67] (fun s0 y0 f=>(68,iq s0)::f) [999] (fun s0 y0 l=>l) ();exact kk;exact sk;intro s0 y0 x0 hx _;unfold Tz at hx;exact au
 .refine pI ?_;intros;rename_i hx
  apply Lr (γ:=Nat) hx [0,1,15,16] (fun s6 y6 f=>(5,.map (some y6))::(17,iq s6.2)::f) [999] (fun s6 y6 l=>Bg prog 103 Au Ca y6 s6.1::l) _;exact kk;exact sk;intro s6 y6 x6 hx _;unfold Vf at hx;exact au⟩
instance(p0:Int):Con (Sx p0) prog 265 (fun _ vs=>vs=[iq p0]) (fun _ r v Ln=>v=.bool r/\Ln=[]/\True):=⟨by
 rintro _ _ r rfl hx w hK;unfold Sx at hx;refine CtS ntmps265 results265 ?_;exact au⟩
instance(p0:Int)(p1:Int):Con (Qf p0 p1) prog 238 (fun _ vs=>vs=[iq p0,iq p1]) (fun _ r v Ln=>v=iq r/\Ln=[]/\True):=⟨by
 rintro _ _ r rfl hx w hK;unfold Qf at hx;refine CtS ntmps238 results238 ?_;exact au⟩
instance(p0:LI)(p1:LI):Con (Hq p0 p1) prog 190 (fun K vs=>∃U0 E0 U1 E1,vs=[.slice U0 p0.length E0,.slice U1 p1.length E1]/\Has K U0 p0.length E0 1 Ak p0/\Has K U1 p1.length E1 1 Ak p1/\True) (fun _ r v Ln=>v=iq r/\Ln=[]/\True):=⟨by
 rintro K _ r ⟨U0,E0,U1,E1,rfl,ha0,ha1,-⟩ hx w hK;replace ha0:=ha0.lo hK;replace ha1:=ha1.lo hK;unfold Hq at hx;refine CtS ntmps190 results190 ?_;refine pq ?_;intros;rename_i hx
 refine pA ?_;intros;rename_i hx
 apply Jr (γ:=Unit) hx [0,1] (fun s2 y2 f=>f) [999] (fun s2 y2 l=>l);exact kk
 .exact aI
 .refine pI ?_;intros;rename_i hx
  apply Lr (γ:=Unit) hx [0,1,9,10] (fun s0 y0 f=>(11,iq s0)::f) [999] (fun s0 y0 l=>l) ();exact kk;exact sk;intro s0 y0 x0 hx _;unfold Bs at hx;exact au⟩
instance Zg(p0:Ah)(p1:Ah):Con (Fg p0 p1) prog 189 (fun _ vs=>vs=[.agg #[iq p0.a0,iq p0.a1,iq p0.a2],.agg #[iq p1.a0,iq p1.a1,iq p1.a2]]) (fun _ r v Ln=>v=iq r/\Ln=[]/\True):=⟨by
 rintro _ _ r rfl hx w hK;unfold Fg at hx;have:=dl 1 [0,0,2,2] [0,1,2,3];refine CtS ntmps189 results189 ?_;exact au⟩
theorem Yj(p0:Ah)(p1:Ah){r:Int}(hx:Fg p0 p1=some r)(w:World):CtL prog 189 [.agg #[iq p0.a0,iq p0.a1,iq p0.a2],.agg #[iq p1.a0,iq p1.a1,iq p1.a2]] w fun v Ln=>v=iq r/\Ln=[]/\True:=(Zg p0 p1).h [] _ _ rfl hx w (fun _ h=>absurd h List.not_mem_nil)
theorem Ah1(p0:Int)(p1:Int)(p2:List Ae){K:LE}{U0:OA}{E0:Nat}(ha0:Has K U0 p2.length E0 4 Am p2){g0_2:Nat}(hp2:Pt K g0_2 0 [.slice U0 p2.length E0]){r:Int}(hx:Yi p0 p1 p2=some r)(w:World)(hK:∀e∈K,Ent.ok w e):CtL prog 183 [iq p0,iq p1,.pointer (some ⟨g0_2,0,none⟩)] w fun v Ln=>v=iq r/\Ln=[]/\True:=by
 have ha0':=Has.up0 ha0;have hp2':=Pt.low (E:=[]) (Pt.up0 hp2) hK;refine CtL.mk 28 func183 rfl ntmps183 kr rfl ?_;show T 28 _ [(0,iq p0),(1,iq p1),(2,.pointer (some ⟨g0_2,0,none⟩))] _;unfold Yi at hx;refine Y7 ?_;refine T_dr [1,0,0,1,2,1,0,0,1,2,2] (.q 0 (.q 1 (.q 2 (.q 3 (.q 5 (.q 6 (.q 7 (.q 8 (.e 4 (.e 9 (.e 10 (.done) (.stop)) (.stop)) (.stop)))))))))) mixed kr kr ?_;refine P_q rfl rfl (Sc rfl hp2' (sb 0) rfl Alw) rfl ?_;refine Y ?_;obtain⟨x1,h2,hx3⟩:=Bk hx;refine P_il (Has.low (E:=[]) ha0' hK) h2 Apg Aj0 (sb 0) (fun b4 o5=>?_);refine P_q rfl rfl (Sc rfl hp2' (sb 0) rfl Alw) rfl ?_;refine Y ?_;obtain⟨x0,h0,hx0⟩:=Bk hx3;refine P_il (Has.low (E:=[]) ha0' hK) h0 Apg Aj0 (sb 0) (fun b0 o0=>?_);obtain⟨r0,h1,hx1⟩:=Bk hx0;refine Pc (fun w1 hw1=>Abt x1  h1 w1) ?_;obtain⟨r1,h3,hx2⟩:=Bk hx1;refine Pc (fun w1 hw1=>Abt x0  h3 w1) ?_;obtain⟨r2,h4,hx4⟩:=Bk hx2;refine Pc (fun w1 hw1=>Acs r0 r1  h4 w1) ?_;refine Y2 ?_;refine Zt (s:=16) rfl (fun h5=>?_) (fun h5=>?_)
 .have hx5:=Yv h5 hx4;refine Y8 ?_;obtain rfl:=oI hx5;exact Pr (rs:=[.tmp 5]) results183 (.tmp rfl (.nil)) (Ln:=[]) ⟨rfl,rfl,trivial⟩ Gg (by exact .refl)
 .have hx6:=Aeb h5 hx4;refine Y5 ?_;refine T_dr [1,0,0,1,2,1,0,0,1,2,2] (.q 0 (.q 1 (.q 2 (.q 3 (.q 5 (.q 6 (.q 7 (.q 8 (.e 4 (.e 9 (.e 10 (.done) (.stop)) (.stop)) (.stop)))))))))) mixed kr kr ?_;refine P_q rfl rfl (Sc rfl hp2' (sb 0) rfl Alw) rfl ?_;refine Y ?_;obtain⟨x2,h6,hx7⟩:=Bk hx6;refine P_il (Has.low (E:=[]) ha0' hK) h6 Apg Aj0 (sb 0) (fun b1 o1=>?_);refine P_q rfl rfl (Sc rfl hp2' (sb 0) rfl Alw) rfl ?_;refine Y ?_;obtain⟨x3,h7,hx8⟩:=Bk hx7;refine P_il (Has.low (E:=[]) ha0' hK) h7 Apg Aj0 (sb 0) (fun b2 o2=>?_);obtain⟨r3,h8,hx9⟩:=Bk hx8;refine Pc (fun w1 hw1=>Abt x2  h8 w1) ?_;obtain⟨r4,h9,hx62⟩:=Bk hx9;refine Pc (fun w1 hw1=>Abt x3  h9 w1) ?_;obtain⟨r5,h64,hx65⟩:=Bk hx62;refine Pc (fun w1 hw1=>Acs r3 r4  h64 w1) ?_;refine Y2 ?_;refine Zt (s:=27) rfl (fun h66=>?_) (fun h66=>?_)
  .have hx67:=Yv h66 hx65;refine Y8 ?_;obtain rfl:=oI hx67;exact Pr (rs:=[.tmp 5]) results183 (.tmp rfl (.nil)) (Ln:=[]) ⟨rfl,rfl,trivial⟩ Gg (by exact .refl)
  .have hx68:=Aeb h66 hx65;refine Y9 ?_;obtain rfl:=oI hx68;exact Pr (rs:=[.tmp 5]) results183 (.tmp rfl (.nil)) (Ln:=[]) ⟨rfl,rfl,trivial⟩ Gg (by exact .refl)
instance:Bt prog 156 0 0:=⟨.mk underlying156 rfl rfl (kr:prog.info? 22=some Tryz.t22) (kr:Tryz.t22.size=1) rfl⟩
instance:Bt prog 156 1 1:=⟨.mk underlying156 rfl rfl (kr:prog.info? 153=some t153) (kr:t153.size=1) rfl⟩
instance:OneI prog 153:=⟨.mk underlying153 rfl (kr:prog.info? 153=some t153) kr⟩
structure An where
 v:List Ae
 apex:List (Ad×Int)
 fixed:List (Ad×Bool)
def Bj(p0:An)(p1:Int):Option Ab :=
 bnd (idx p0.v p1) fun x2=>
 bnd (Pm x2) fun r0=>
 some r0
instance:UndI prog 153 (.map 103 3):=⟨underlying153⟩
def Dy(p0:An)(p1:Int)(p2:Int)(p3:Int):Option An :=
 gd ((-9223372036854775808<=p1/\p1<=9223372036854775807)/\(-9223372036854775808<=p2/\p2<=9223372036854775807))<|
 gd (p0.apex.length<9223372036854775807)<|
 gd ((-9223372036854775808<=p2/\p2<=9223372036854775807)/\(-9223372036854775808<=p3/\p3<=9223372036854775807))<|
 gd ((mput p0.apex ((⟨p1,p2⟩:Ad)) p3).length<9223372036854775807)<|
 gd ((-9223372036854775808<=p3/\p3<=9223372036854775807)/\(-9223372036854775808<=p1/\p1<=9223372036854775807))<|
 gd ((mput (mput p0.apex ((⟨p1,p2⟩:Ad)) p3) ((⟨p2,p3⟩:Ad)) p1).length<9223372036854775807)<|
 some (⟨p0.v,mput (mput (mput p0.apex ((⟨p1,p2⟩:Ad)) p3) ((⟨p2,p3⟩:Ad)) p1) ((⟨p3,p1⟩:Ad)) p2,p0.fixed⟩:An)
def Lq(p0:An)(p1:Int)(p2:Int)(p3:Int):Option An :=
 gd ((-9223372036854775808<=p1/\p1<=9223372036854775807)/\(-9223372036854775808<=p2/\p2<=9223372036854775807))<|
 gd ((-9223372036854775808<=p2/\p2<=9223372036854775807)/\(-9223372036854775808<=p3/\p3<=9223372036854775807))<|
 gd ((-9223372036854775808<=p3/\p3<=9223372036854775807)/\(-9223372036854775808<=p1/\p1<=9223372036854775807))<|
 some (⟨p0.v,mdel (mdel (mdel p0.apex ((⟨p1,p2⟩:Ad))) ((⟨p2,p3⟩:Ad))) ((⟨p3,p1⟩:Ad)),p0.fixed⟩:An)
def Jp(p0:An)(p1:Int)(p2:Int):Option (An×Bool):=
 gd ((-9223372036854775808<=p1/\p1<=9223372036854775807)/\(-9223372036854775808<=p2/\p2<=9223372036854775807))<|
 bnd (some ((mget p0.apex ((⟨p1,p2⟩:Ad))).getD 0)) fun x3=>
 gd ((-9223372036854775808<=p2/\p2<=9223372036854775807)/\(-9223372036854775808<=p1/\p1<=9223372036854775807))<|
 bnd (some ((mget p0.apex ((⟨p2,p1⟩:Ad))).getD 0)) fun x8=>
 jn (fun (s5:Bool)=>
 if s5=true then (some (p0,false))
 else (bnd (Lq p0 p1 p2 x3) fun r0=>
 bnd (Lq r0 p2 p1 x8) fun r1=>
 bnd (Dy r1 p1 x8 x3) fun r2=>
 bnd (Dy r2 p2 x3 x8) fun r3=>
 some (r3,true)))
 (fun j5=>if ((mget p0.apex ((⟨p1,p2⟩:Ad))).isSome)=true then (if ((mget p0.apex ((⟨p2,p1⟩:Ad))).isSome)=true then (bnd (Bj p0 x3) fun r4=>
 bnd (Bj p0 x8) fun r5=>
 bnd (Bj p0 p1) fun r6=>
 bnd (Ts r4 r5 r6) fun r7=>
 bnd (Bj p0 x3) fun r8=>
 bnd (Bj p0 x8) fun r9=>
 bnd (Bj p0 p2) fun r35=>
 bnd (Ts r8 r9 r35) fun r38=>
 j5 (decide (0<=(w64 (r7*r38)))))
 else (j5 true))
 else (j5 true))
instance(p0:An)(p1:Int):Con (Bj p0 p1) prog 179 (fun K vs=>∃g0_0 gm0_0 gm0_1 U0 E0,vs=[.pointer (some ⟨g0_0,0,none⟩),iq p1]/\Pt K g0_0 0 [.slice U0 p0.v.length E0,.map (some gm0_0),.map (some gm0_1)]/\Has K U0 p0.v.length E0 4 Am p0.v/\True) (fun _ r v Ln=>v=.agg #[iq r.X,iq r.Y]/\Ln=[]/\True):=⟨by
 rintro K _ r ⟨g0_0,gm0_0,gm0_1,U0,E0,rfl,hp0,ha0,-⟩ hx w hK;replace hp0:=Pt.lo hp0 hK;replace ha0:=ha0.lo hK;unfold Bj at hx;refine CtS ntmps179 results179 ?_;exact au⟩
instance(p0:An)(p1:Int)(p2:Int)(p3:Int):ConK (Dy p0 p1 p2 p3) prog 180 (fun g0_0 gm0_0 gm0_1 U0 E0 ua0 uc0 vs Lp=>vs=[.pointer (some ⟨g0_0,0,none⟩),iq p1,iq p2,iq p3]/\Lp=[.m g0_0 156 [.slice U0 p0.v.length E0,.map (some gm0_0),.map (some gm0_1)],Bg prog 103 Au Cy gm0_0 p0.apex,Bg prog 103 Au Ca gm0_1 p0.fixed]/\ua0=none/\uc0=0/\True) (fun U0 E0 ua0 uc0 K K2=>Has K U0 p0.v.length E0 4 Am p0.v/\True) (fun g0_0 gm0_0 gm0_1 U0 E0 ua0 uc0 K r v Ln=>∃A0 c0,v=.tuple #[]/\Ln=[.m g0_0 156 [.slice A0 r.v.length c0,.map (some gm0_0),.map (some gm0_1)],Bg prog 103 Au Cy gm0_0 r.apex,Bg prog 103 Au Ca gm0_1 r.fixed]/\Has K A0 r.v.length c0 4 Am r.v/\True):=⟨by
 rintro g0_0 gm0_0 gm0_1 U0 E0 _ _ K K2 _ _ r ⟨rfl,rfl,rfl,rfl,-⟩ ⟨ha0,-⟩ hx;unfold Dy at hx;refine CtSK ntmps180 results180 ?_;intro Lf hKf;have hKg:=hKf.r;replace hKf:=hKf.l;refine Xr ?_;exact au⟩
instance(p0:An)(p1:Int)(p2:Int)(p3:Int):ConK (Lq p0 p1 p2 p3) prog 235 (fun g0_0 gm0_0 gm0_1 U0 E0 ua0 uc0 vs Lp=>vs=[.pointer (some ⟨g0_0,0,none⟩),iq p1,iq p2,iq p3]/\Lp=[.m g0_0 156 [.slice U0 p0.v.length E0,.map (some gm0_0),.map (some gm0_1)],Bg prog 103 Au Cy gm0_0 p0.apex,Bg prog 103 Au Ca gm0_1 p0.fixed]/\ua0=none/\uc0=0/\True) (fun U0 E0 ua0 uc0 K K2=>Has K U0 p0.v.length E0 4 Am p0.v/\True) (fun g0_0 gm0_0 gm0_1 U0 E0 ua0 uc0 K r v Ln=>∃A0 c0,v=.tuple #[]/\Ln=[.m g0_0 156 [.slice A0 r.v.length c0,.map (some gm0_0),.map (some gm0_1)],Bg prog 103 Au Cy gm0_0 r.apex,Bg prog 103 Au Ca gm0_1 r.fixed]/\Has K A0 r.v.length c0 4 Am r.v/\True):=⟨by
 rintro g0_0 gm0_0 gm0_1 U0 E0 _ _ K K2 _ _ r ⟨rfl,rfl,rfl,rfl,-⟩ ⟨ha0,-⟩ hx;unfold Lq at hx;refine CtSK ntmps235 results235 ?_;intro Lf hKf;have hKg:=hKf.r;replace hKf:=hKf.l;refine Xr ?_;exact au⟩
instance(p0:An)(p1:Int)(p2:Int):ConK (Jp p0 p1 p2) prog 186 (fun g0_0 gm0_0 gm0_1 U0 E0 ua0 uc0 vs Lp=>vs=[.pointer (some ⟨g0_0,0,none⟩),iq p1,iq p2]/\Lp=[.m g0_0 156 [.slice U0 p0.v.length E0,.map (some gm0_0),.map (some gm0_1)],Bg prog 103 Au Cy gm0_0 p0.apex,Bg prog 103 Au Ca gm0_1 p0.fixed]/\ua0=none/\uc0=0/\True) (fun U0 E0 ua0 uc0 K K2=>Has K U0 p0.v.length E0 4 Am p0.v/\True) (fun g0_0 gm0_0 gm0_1 U0 E0 ua0 uc0 K r v Ln=>∃A0 c0,v=.bool r.2/\Ln=[.m g0_0 156 [.slice A0 r.1.v.length c0,.map (some gm0_0),.map (some gm0_1)],Bg prog 103 Au Cy gm0_0 r.1.apex,Bg prog 103 Au Ca gm0_1 r.1.fixed]/\Has K A0 r.1.v.length c0 4 Am r.1.v/\True):=⟨by
 rintro g0_0 gm0_0 gm0_1 U0 E0 _ _ K K2 _ _ r ⟨rfl,rfl,rfl,rfl,-⟩ ⟨ha0,-⟩ hx;unfold Jp at hx;refine CtSK ntmps186 results186 ?_;intro Lf hKf;have hKg:=hKf.r;replace hKf:=hKf.l;refine Xr ?_;refine pq ?_;intros;rename_i hx
 refine pA ?_;intros;rename_i hx
 apply Jr (γ:=Unit) hx [0,1,2,7,9] (fun s5 y5 f=>(62,.bool s5)::f) [0,1,2,1003] (fun s5 y5 l=>l);exact kk
 .exact aI
 .exact aI⟩
section
open Go.Shelf Go.Lib Go.Sort
theorem Adg{P:Program}{f:FuncId}(h:Xx P f):∀(args:Array Value) (w:World),(callFunc f args).run P w=.ok (.enter f args) w:=by
 obtain⟨fn,h1,h2,h3⟩:=h;obtain⟨c,hc⟩:∃c,fn.body=some c:=by cases hb:fn.body with
  |none=>rw[hb] at h3;cases h3
  |some c=>exact⟨c,rfl⟩
 exact enters_of h1 h2 hc
def Anf(z:Int):Prop:=-1000000000000<=z/\z<=1000000000000
instance(z:Int):Decidable (Anf z):=by unfold Anf;infer_instance
def Ua(x:Ad):Prop:=Anf x.a0/\Anf x.a1
instance(x:Ad):Decidable (Ua x):=by unfold Ua;infer_instance
def cmp2(x y:Ad):Int:=if x.a0=y.a0 then x.a1-y.a1 else x.a0-y.a0
theorem Adh(x y:Ad):cmp2 x y<0↔x.a0<y.a0\/x.a0=y.a0/\x.a1<y.a1:=by unfold cmp2;split <;> omega
theorem tot2:Aa0 Ua cmp2 where
 irr x _:=by rw[Adh];omega
 trans x y z _ _ _ h1 h2:=by rw[Adh] at *;omega
 tot x y _ _ h1 h2:=by
  rw[Adh] at h1 h2;obtain⟨x0,x1⟩:=x;obtain⟨y0,y1⟩:=y;simp only at h1 h2;rw[show x0=y0 by omega,show x1=y1 by omega]
theorem Avx{x y:Ad}(hx:Ua x)(hy:Ua y):Zf x y=some (cmp2 x y):=by
 obtain⟨⟨_,_⟩,_,_⟩:=hx;obtain⟨⟨_,_⟩,_,_⟩:=hy;unfold Zf cmp2;split <;> (rw[Aq oo oo])
theorem Arq(l:List Ad)(hb:l.length<=1000000000)(hp:∀x∈l,Ua x){A:OA}{m c:Nat}{t:TypeId}{gf:Nat}{cb:Array Value}(w:World)(hok:Ent.ok w (.r A m c t 2 (l.flatMap Ar)))(hcmp:Ad2 prog Ua cmp2 (fun x=>.agg #[iq x.a0,iq x.a1]) A m c t 2 gf cb w (l.flatMap Ar))(eg:Xx prog gf):Ad1 prog 176 A m c t 2 gf cb w (l.flatMap Ar) ((Bf cmp2 l).flatMap Ar):=
 Aek (ρ:=Tryz.laysSort2_ren) Tryz.laysSort2 (k:=2) isAgg103 sizeOf103 (enc:=Ar) (fun _=>rfl) dD (fun x v hv=>by simp[Ar] at hv;rcases hv with rfl|rfl <;> rfl) tot2 (Adg eg) l hb hp w hok hcmp
def Abu(x:Ah):Prop:=True
instance(x:Ah):Decidable (Abu x):=by unfold Abu;infer_instance
def cmpI(x y:Int):Int:=if x<y then -1 else if y<x then 1 else 0
theorem Atr(x y:Int):cmpI x y<0↔x<y:=by
 unfold cmpI;split
 .omega
 .split <;> omega
theorem Bcj(x y:Int):cmpI x y=0↔x=y:=by
 unfold cmpI;split
 .omega
 .split <;> omega
def cmp3(x y:Ah):Int:=if cmpI x.a0 y.a0=0 then if cmpI x.a1 y.a1=0 then cmpI x.a2 y.a2 else cmpI x.a1 y.a1 else cmpI x.a0 y.a0
theorem Adi(x y:Ah):cmp3 x y<0↔x.a0<y.a0\/x.a0=y.a0/\(x.a1<y.a1\/x.a1=y.a1/\x.a2<y.a2):=by
 unfold cmp3;simp only[Bcj];split
 .split <;> rw[Atr] <;> omega
 .rw[Atr];omega
theorem tot3:Aa0 Abu cmp3 where
 irr x _:=by rw[Adi];omega
 trans x y z _ _ _ h1 h2:=by rw[Adi] at *;omega
 tot x y _ _ h1 h2:=by
  rw[Adi] at h1 h2;obtain⟨x0,x1,x2⟩:=x;obtain⟨y0,y1,y2⟩:=y;simp only at h1 h2;rw[show x0=y0 by omega,show x1=y1 by omega,show x2=y2 by omega]
theorem Bck(x y:Int):Qf x y=some (cmpI x y):=by
 unfold Qf Sx cmpI;simp only[bnd,decide_true,Bool.not_true,Bool.false_eq_true,if_false];split
 .rfl
 .split <;> rfl
theorem Ang{x y:Ah}(hx:Abu x)(hy:Abu y):Fg x y=some (cmp3 x y):=by
 obtain⟨x0,x1,x2⟩:=x;obtain⟨y0,y1,y2⟩:=y;unfold Fg Hq jn cmp3;simp only;have step:∀i:Int,Bs [x0,x1,x2] [y0,y1,y2] i=if i<3 then bnd (idx [x0,x1,x2] i) fun a=>bnd (idx [y0,y1,y2] i) fun b=>if cmpI a b=0 then some (.inl (w64 (i+1))) else some (.inr (.inr (cmpI a b))) else some (.inr (.inl ())):=by
  intro i;unfold Bs;simp only[Bck,List.length_cons,List.length_nil]
  by_cases h:i<3
  .rw[iP oo,iP h];congr 1;funext a;rw[iN oo];rfl
  .rw[iN oo,iN h]
 have w1:w64 (0+1)=1:=Aq oo oo;have w2:w64 (1+1)=2:=Aq oo oo;have w3:w64 (2+1)=3:=Aq oo oo;have i0:∀a b c:Int,idx [a,b,c] 0=some a:=fun _ _ _=>rfl
 have i1:∀a b c:Int,idx [a,b,c] 1=some b:=fun _ _ _=>rfl
 have i2:∀a b c:Int,idx [a,b,c] 2=some c:=fun _ _ _=>rfl
 have s0:Bs [x0,x1,x2] [y0,y1,y2] 0=if cmpI x0 y0=0 then some (.inl 1) else some (.inr (.inr (cmpI x0 y0))):=by rw[step,iP oo,w1];simp only[i0,bnd]
 have s1:Bs [x0,x1,x2] [y0,y1,y2] 1=if cmpI x1 y1=0 then some (.inl 2) else some (.inr (.inr (cmpI x1 y1))):=by rw[step,iP oo,w2];simp only[i1,bnd]
 have s2:Bs [x0,x1,x2] [y0,y1,y2] 2=if cmpI x2 y2=0 then some (.inl 3) else some (.inr (.inr (cmpI x2 y2))):=by rw[step,iP oo,w3];simp only[i2,bnd]
 have s3:Bs [x0,x1,x2] [y0,y1,y2] 3=some (.inr (.inl ())):=by rw[step,iN oo]
 rw[Ay,s0]
 by_cases h0:cmpI x0 y0=0
 .rw[iP h0,iP h0];simp only;rw[Ay,s1]
  by_cases h1:cmpI x1 y1=0
  .rw[iP h1,iP h1];simp only;rw[Ay,s2]
   by_cases h2:cmpI x2 y2=0
   .rw[iP h2,h2];simp only;rw[Ay,s3];simp[bnd]
   .rw[iN h2];simp[bnd]
  .rw[iN h1,iN h1];simp[bnd]
 .rw[iN h0,iN h0];simp[bnd]
theorem Arr(l:List Ah)(hb:l.length<=1000000000)(hp:∀x∈l,Abu x){A:OA}{m c:Nat}{t:TypeId}{gf:Nat}{cb:Array Value}(w:World)(hok:Ent.ok w (.r A m c t 3 (l.flatMap Az)))(hcmp:Ad2 prog Abu cmp3 (fun x=>.agg #[iq x.a0,iq x.a1,iq x.a2]) A m c t 3 gf cb w (l.flatMap Az))(eg:Xx prog gf):Ad1 prog 188 A m c t 3 gf cb w (l.flatMap Az) ((Bf cmp3 l).flatMap Az):=
 Aek (ρ:=Tryz.laysSort3_ren) Tryz.laysSort3 (k:=3) isAgg101 sizeOf101 (enc:=Az) (fun _=>rfl) dD (fun x v hv=>by simp[Az] at hv;rcases hv with rfl|rfl|rfl <;> rfl) tot3 (Adg eg) l hb hp w hok hcmp
def befV(a b:Ae):Prop:=a.X<b.X\/a.X=b.X/\a.Y<b.Y
instance(a b:Ae):Decidable (befV a b):=by unfold befV;infer_instance
def Aa7(a b:Ae):Prop:=a.X=b.X/\a.Y=b.Y
instance(a b:Ae):Decidable (Aa7 a b):=by unfold Aa7;infer_instance
def Eu(v:List Ae):Prop:=v.Pairwise fun a b=>¬Aa7 a b
instance(v:List Ae):Decidable (Eu v):=by unfold Eu;infer_instance
def okIx(v:List Ae)(i:Int):Prop:=0<=i/\i<(v.length:Int)
instance(v:List Ae)(i:Int):Decidable (okIx v i):=by unfold okIx;infer_instance
def cmpR(v:List Ae)(i j:Int):Int:=match idx v i,idx v j with
 |some a,some b=>if befV a b then -1 else if befV b a then 1 else 0
 |_,_=>0
theorem Mn{v:List Ae}{i:Int}(h:okIx v i):∃(k:Nat) (hk:k<v.length),i=(k:Int)/\idx v i=some v[k]:=by
 obtain⟨h0,h1⟩:=h;obtain⟨k,rfl⟩:=Int.eq_ofNat_of_zero_le h0;have hk:k<v.length:=oo;exact⟨k,hk,rfl,Aj hk⟩
theorem Yk{v:List Ae}{i j:Nat}(hi:i<v.length)(hj:j<v.length):cmpR v (i:Int) (j:Int)<0↔befV v[i] v[j]:=by
 unfold cmpR;rw[Aj hi,Aj hj];simp only;split
 .simp_all
 .split <;> simp_all
theorem totR{v:List Ae}(hd:Eu v):Aa0 (okIx v) (cmpR v) where
 irr x hx:=by
  obtain⟨i,hi,rfl,_⟩:=Mn hx;rw[Yk hi hi];unfold befV;omega
 trans x y z hx hy hz h1 h2:=by
  obtain⟨i,hi,rfl,_⟩:=Mn hx;obtain⟨j,hj,rfl,_⟩:=Mn hy;obtain⟨k,hk,rfl,_⟩:=Mn hz;rw[Yk hi hj] at h1;rw[Yk hj hk] at h2;rw[Yk hi hk];unfold befV at *;omega
 tot x y hx hy h1 h2:=by
  obtain⟨i,hi,rfl,_⟩:=Mn hx;obtain⟨j,hj,rfl,_⟩:=Mn hy;rw[Yk hi hj] at h1;rw[Yk hj hi] at h2;have hs:Aa7 v[i] v[j]:=by unfold befV at h1 h2;unfold Aa7;omega
  unfold Eu at hd;rw[List.pairwise_iff_getElem] at hd;rcases Nat.lt_trichotomy i j with h|h|h
  .exact absurd hs (hd i j hi hj h)
  .rw[h]
  .exact absurd ⟨hs.1.symm,hs.2.symm⟩ (hd j i hj hi h)
theorem Avy(a b:Ae):La ⟨a.X,a.Y⟩ ⟨b.X,b.Y⟩=some (decide (befV a b)):=by
 unfold La jn befV;simp only
 by_cases h1:a.X<b.X
 .simp[h1]
 .by_cases h2:a.X=b.X
  .simp[h2]
  .simp[h1,h2]
theorem Avz(v:List Ae){x y:Int}(hx:okIx v x)(hy:okIx v y):Yi x y v=some (cmpR v x y):=by
 obtain⟨i,hi,rfl,ei⟩:=Mn hx;obtain⟨j,hj,rfl,ej⟩:=Mn hy;unfold Yi cmpR;simp only[ei,ej,bnd,Pm,Avy,dQ];split
 .rfl
 .split <;> rfl
theorem Aph(v:List Ae)(hd:Eu v)(l:LI)(hb:l.length<=1000000000)(hp:∀x∈l,okIx v x){A:OA}{m c:Nat}{t:TypeId}{gf:Nat}{cb:Array Value}(w:World)(hok:Ent.ok w (.r A m c t 1 (l.flatMap Ak)))(hcmp:Ad2 prog (okIx v) (cmpR v) (fun x=>iq x) A m c t 1 gf cb w (l.flatMap Ak))(eg:Xx prog gf):Ad1 prog 182 A m c t 1 gf cb w (l.flatMap Ak) ((Bf (cmpR v) l).flatMap Ak):=
 Aq7 (ρ:=Tryz.laysSort1_ren) Tryz.laysSort1 (enc:=Value.int .i64) (fun _=>rfl) (totR hd) (Adg eg) l hb hp w hok hcmp
end
end
end Go.Proofs.YthlkpgdfifnagaaGreat
