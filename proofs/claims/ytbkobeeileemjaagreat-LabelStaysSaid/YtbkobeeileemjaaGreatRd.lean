/- LabelCorrects, LabelSplits in plain Lean. -/
import Derived.Test.YtbkobeeileemjaaGreatL2
import Derived.Test.YtbkobeeileemjaaGreatY9
import Derived.Test.YtbkobeeileemjaaGreatH10
import Derived.Test.YtbkobeeileemjaaGreatFlow8
import Derived.Test.YtbkobeeileemjaaGreatRows
import Derived.ProofKit
import Derived.OpenShut
import Derived.ShutString
import Derived.ChangeOld
import Derived.Below
import Derived.Carry
import Derived.ChangeArms
import Derived.Deep.Slices
namespace Go.Proofs.YtbkobeeileemjaaGreat.X
open Go Go.RowKit
def isCl (n:Int):Bool:=decide (n=0∨n=1∨n=2∨n=5∨n=6∨n=7)
theorem Anh (n:Int):Gp n=some (isCl n):=by
 simp only [Gp,jn_d,isCl];grind
def okEdit (e:Bb):Bool:=isCl e.To && (decide (e.Ring.length=0) || Yf e.Ring && (decide (e.From = -1) || isCl e.From))
theorem validEdits_eq (l:List Bb):If l=some (if 64 < l.length then 2 else if l.all okEdit=true then 0 else 73):=by
 unfold If
 by_cases h:64 < l.length
 ·rw [if_pos (by omega),if_pos h]
 ·rw [if_neg (by omega),if_neg h,jn_d]
  rw [Xa (β:=Unit) (γ:=Int) l okEdit (Hg l) () 73 ?_ ?_,Ah]
  ·by_cases hk:l.all okEdit=true <;> simp [hk]
  ·intro j hj
   simp only [Hg,if_pos (show (j:Int) < ((l.length:Nat):Int) by omega),Bf hj,Ah,jn_d,Adg,Anh,Bs (show j < 9223372036854775807 by omega)]
   generalize l[j]=e
   unfold okEdit
   by_cases h0:e.Ring.length=0
   ·rw [if_neg (by omega)]
    cases isCl e.To <;> simp [h0]
   ·rw [if_pos (by omega)]
    have hp:(0:Int) < ((e.Ring.length:Nat):Int):=by omega
    by_cases h1:e.From = -1 <;> cases Yf e.Ring <;> cases isCl e.To <;> cases isCl e.From <;> simp [h0,h1,hp]
    all_goals (try omega)
  ·simp only [Hg,Int.lt_irrefl,if_false]
/-- Whether an edit changes a point. -/
def appB (p:Aa) (c:Int) (e:Bb):Bool:=if e.Ring.length=0 then decide (e.Id=p.Id) else decide (e.From = -1∨e.From=c) && insB ⟨p.X,p.Y⟩ (Su e.Ring)
def editF (p:Aa) (c:Int) (e:Bb):Int:=if appB p c e=true then e.To else c
def outC (l:List Aa) (cl:List Int) (es:List Bb):List Int:=(l.zip cl).map fun x=>es.foldl (editF x.1) x.2
theorem Av4 {p:Aa} (h:okPt p=true):okXY ⟨p.X,p.Y⟩=true:=by
 have:=okPt_rng h
 simp only [okXY,decide_eq_true_eq];omega
theorem Ani {e:Bb} (he:okEdit e=true) {p:Aa} (hp:okPt p=true) (c:Int):Mn e p c=some (appB p c e):=by
 simp only [Mn,jn_d,Ck,Ah,appB]
 by_cases h0:e.Ring.length=0
 ·rw [if_pos (by omega),if_pos h0]
 ·rw [if_neg (by omega),if_neg h0]
  have hr:Yf e.Ring=true:=by
   simp only [okEdit,h0,decide_false,Bool.false_or,Bool.and_eq_true] at he
   exact he.2.1
  obtain ⟨h1,h2,h3⟩:=Afe hr
  rw [Ajf h3 (by omega) (by omega) (Av4 hp),Ah]
  by_cases c1:e.From = -1 <;> by_cases c2:e.From=c <;> simp [c1,c2]
  all_goals (try (intro h;omega))
  all_goals (try omega)
theorem Adk (p:Aa) (i:Nat):∀ (es:List Bb) (out:List Int) (hi:i < out.length),
  es.foldl (fun o e=>if appB p (o.getD i 0) e=true then o.set i e.To else o) out=out.set i (es.foldl (editF p) (out[i]))
 | [],out,hi=>by simp
 | e::r,out,hi=>by
  rw [List.foldl_cons,List.foldl_cons]
  have hg:out.getD i 0=out[i]:=by rw [List.getD_eq_getElem?_getD,List.getElem?_eq_getElem hi];rfl
  rw [hg]
  unfold editF
  by_cases h:appB p out[i] e=true
  ·rw [if_pos h,if_pos h]
   have:=Adk p i r (out.set i e.To) (by simpa using hi)
   rw [this];simp [editF]
   rfl
  ·rw [if_neg h,if_neg h]
   exact Adk p i r out hi
theorem corrected_eq {l:List Aa} (hf:Fit l) {cl:List Int} (hc:cl.length=l.length) {es:List Bb} (hes:es.length≤100) (hok:∀ e∈es,okEdit e=true):Jn l cl es=some (outC l cl es):=by
 have hn:=hf.n
 unfold Jn Wp
 rw [gd_t (by omega),Ah,jn_d]
 have inner:∀ (i:Nat) (hi:i < l.length) (out:List Int) (ho:out.length=l.length),lfix (Gm es (out,(i:Int)) l[i]) (out,0)=some (out.set i (es.foldl (editF l[i]) (out[i]'(by omega)))):=by
  intro i hi out ho
  have hp:=hf.ok _ (List.getElem_mem hi)
  have key:=Nw es (fun (s:List Int) (j:Int)=>(s,j)) (fun o e=>.inl (if appB l[i] (o.getD i 0) e=true then o.set i e.To else o)) (id:List Int→List Int) (Gm es (out,(i:Int)) l[i]) (fun _ o=>o.length=l.length) ?_ ?_ out ho
  ·rw [key,Sr,Adk l[i] i es out (by omega)];rfl
  ·intro j hj o hC
   left
   have hio:i < o.length:=by omega
   have hg:o.getD i 0=o[i]:=by rw [List.getD_eq_getElem?_getD,List.getElem?_eq_getElem hio];rfl
   refine ⟨_,rfl,?_,by split <;> simp [hC]⟩
   simp only [Gm,if_pos (show (j:Int) < ((es.length:Nat):Int) by omega),jn_d,Bf hj,Bf hio,Ah,Ani (hok _ (List.getElem_mem hj)) hp,Xf,hg,Bs (show j < 9223372036854775807 by omega)]
   split <;> rfl
  ·intro o _
   simp only [Gm,Int.lt_irrefl,if_false,id]
 refine Exists.elim (Du (B:=Ja l es) (fun z=>l.length-z.2.toNat) (fun z=>∃ j:Nat,z.2=(j:Int)∧j≤l.length∧z.1=(outC l cl es).take j++cl.drop j) (fun t=>t=outC l cl es) ?_ (cl,0) ⟨0,rfl,Nat.zero_le _,by simp⟩) (fun t ht=>?_)
 ·rintro ⟨o,z⟩ ⟨j,rfl,hj,ho⟩
  dsimp only at ho
  have hol:(outC l cl es).length=l.length:=by simp [outC,hc]
  rcases Nat.lt_or_ge j l.length with hlt | hge
  ·left
   have hlen:o.length=l.length:=by rw [ho];simp [hol,hc];omega
   have hcl:j < cl.length:=by omega
   have hget:o[j]'(by omega)=cl[j]:=by
    subst ho
    rw [List.getElem_append_right (by simp [hol];omega)]
    simp [hol,Nat.min_eq_left (Nat.le_of_lt hlt)]
   refine ⟨(o.set j (es.foldl (editF l[j]) cl[j]),((j+1:Nat):Int)),?_,⟨j+1,rfl,hlt,?_⟩,by simp;omega⟩
   ·have:=inner j hlt o hlen
    rw [hget] at this
    simp only [Ja,if_pos (show (j:Int) < ((l.length:Nat):Int) by omega),jn_d,Bf hlt,Ah,this,Bs (show j < 9223372036854775807 by omega)]
   ·dsimp only
    have h1:((outC l cl es).take j).length=j:=by simp [hol];omega
    rw [ho,List.set_append_right _ _ (by omega),h1,Nat.sub_self,List.drop_eq_getElem_cons hcl,List.set_cons_zero]
    have h2:(outC l cl es).take (j+1)=(outC l cl es).take j++[es.foldl (editF l[j]) cl[j]]:=by
     rw [List.take_add_one,List.getElem?_eq_getElem (by omega)]
     simp [outC]
    rw [h2,List.append_assoc];rfl
  ·right
   obtain rfl:j=l.length:=by omega
   refine ⟨o,by simp only [Ja,Int.lt_irrefl,if_false],?_⟩
   rw [ho,← hol,List.take_length,hol,← hc,List.drop_length,List.append_nil]
 ·rw [ht.1,Ah,ht.2]
theorem large_eq (l:List Bb):Hz l=some (!decide (l.length≤100∧∀ e∈l,e.Ring.length≤200)):=by
 unfold Hz
 by_cases h:100 < l.length
 ·have h':¬ l.length≤100:=by omega
  rw [if_pos (by omega)];simp [h']
 ·have h':l.length≤100:=by omega
  rw [if_neg (by omega),jn_d]
  rw [Xa (β:=Unit) (γ:=Bool) l (fun e=>decide (e.Ring.length≤200)) (Hc l) () true ?_ ?_,Ah]
  ·by_cases hk:∀ e∈l,e.Ring.length≤200
   ·rw [if_pos (List.all_eq_true.2 fun e he=>decide_eq_true (hk e he)),decide_eq_true ⟨h',hk⟩];rfl
   ·rw [if_neg (fun h'=>hk fun e he=>of_decide_eq_true (List.all_eq_true.1 h' e he)),decide_eq_false (fun h'=>hk h'.2)];rfl
  ·intro j hj
   simp only [Hc,if_pos (show (j:Int) < ((l.length:Nat):Int) by omega),Bf hj,Ah,Bs (show j < 9223372036854775807 by omega)]
   by_cases h2:l[j].Ring.length≤200
   ·rw [if_neg (by omega)];simp [h2]
   ·rw [if_pos (by omega)];simp [h2]
  ·simp only [Hc,Int.lt_irrefl,if_false]
end Go.Proofs.YtbkobeeileemjaaGreat.X
/- LabelStays. -/
namespace Go.Proofs.YtbkobeeileemjaaGreat
open Go Go.RowKit Go.Sort
/-- A point with another class. -/
def setC (p:Aa) (c:Int):Aa:=⟨p.Id,p.X,p.Y,p.Z,p.Wide,p.Num,p.Of,c⟩
def lblL (s:List Aa) (cl:List Int):List Aa:=(s.zip cl).map fun x=>setC x.1 x.2
theorem Aal {s:List Aa} {cl:List Int} (h:cl.length=s.length):(lblL s cl).length=s.length:=by
 unfold lblL
 rw [List.length_map,List.length_zip]
 omega
theorem Afv {s:List Aa} {cl:List Int} {j:Nat} (hj:j < (lblL s cl).length) (h1:j < s.length) (h2:j < cl.length):(lblL s cl)[j]=setC s[j] cl[j]:=by
 simp only [lblL,List.getElem_map,List.getElem_zip]
theorem Asy {s:List Aa} {cl:List Int} (h:cl.length=s.length) (hn:s.length≤1000000):lfix (Mb cl) (s,0)=some (lblL s cl):=by
 have:=Du (B:=Mb cl) (fun x=>cl.length-x.2.toNat) (fun x=>∃ k:Nat,k≤cl.length∧x.2=(k:Int)∧x.1.length=s.length∧∀ (j:Nat) (h1:j < x.1.length) (h2:j < s.length) (h3:j < cl.length),x.1[j]=if j < k then setC s[j] cl[j] else s[j])
  (fun t=>t=lblL s cl) (fun x hx=>by
  obtain ⟨t,i⟩:=x
  obtain ⟨k,hk,hi,hl,hg⟩:=hx
  dsimp only at hi hl hg
  subst hi
  unfold Mb
  dsimp only
  by_cases hk2:k < cl.length
  ·left
   have hk3:k < t.length:=by omega
   have hk4:k < s.length:=by omega
   rw [if_pos (by omega),Bf hk2,Ah,Bf hk3,Ah,Bs (by omega),Xf]
   refine ⟨_,rfl,⟨k+1,hk2,rfl,by rw [List.length_set];exact hl,fun j h1 h2 h3=>?_⟩,by dsimp only;omega⟩
   dsimp only at h1 ⊢
   rw [List.length_set] at h1
   rw [List.getElem_set]
   by_cases e:k=j
   ·subst e
    have:=hg k hk3 hk4 hk2
    rw [if_neg (by omega)] at this
    rw [if_pos rfl,if_pos (by omega),this]
    rfl
   ·rw [if_neg e,hg j h1 h2 h3]
    by_cases c:j < k
    ·rw [if_pos c,if_pos (by omega)]
    ·rw [if_neg c,if_neg (by omega)]
  ·right
   rw [if_neg (by omega)]
   refine ⟨_,rfl,?_⟩
   have hke:k=cl.length:=by omega
   refine List.ext_getElem (by rw [Aal h];exact hl) fun j h1 h2=>?_
   have h3:j < s.length:=by omega
   rw [hg j h1 h3 (by omega),if_pos (by omega),Afv h2 h3 (by omega)]) (s,0) ⟨0,by omega,rfl,rfl,fun j h1 h2 h3=>by rw [if_neg (by omega)]⟩
 obtain ⟨t,e,rfl⟩:=this
 exact e
theorem Asz {l:List Aa} (h:X.Fit l):X.validL l=true:=by
 unfold X.validL
 rw [Bool.and_eq_true,Bool.and_eq_true,decide_eq_true_eq,decide_eq_true_eq,List.all_eq_true]
 exact ⟨⟨h.n,h.ok⟩,h.id⟩
/-- The points in the order of their Ids, and the classes that the program gives them. -/
theorem Agj {l:List Aa} {r:Ag} (hl:X.validL l=true) (hr:X.okRules r=true) (hn:l.length≤300):∃ cl,Gq (Ar Bn l) r=some cl∧cl.length=l.length:=by
 have hp:=Ei Bn l
 have hf:X.Fit (Ar Bn l):=(X.Fit.of hl).perm hp.symm
 obtain ⟨C,hC,hc⟩:=Azj (Asz hf) hr (by rw [hp.length_eq];exact hn)
 obtain ⟨g,e,hG⟩:=Ams hc hC
 obtain ⟨_,_,_,_,_,a4⟩:=Ami hc hG.ok e
 exact ⟨_,a4,by rw [List.length_map,hp.length_eq]⟩
theorem Alp {l:List Aa} {r:Ag} (hl:X.validL l=true) (hr:X.okRules r=true) {cl:List Int} (e:Gq (Ar Bn l) r=some cl) (hcl:cl.length=l.length) {es:List Bb} (hes:es.length≤64) :
  Ny l r es=some (if es.all X.okEdit=true then (lblL (Ar Bn l) (X.outC (Ar Bn l) cl es),0) else ([],73)):=by
 have hF:=X.Fit.of hl
 have hn:=hF.n
 have hp:=Ei Bn l
 have hf:X.Fit (Ar Bn l):=hF.perm hp.symm
 unfold Ny
 rw [X.checked_eq,if_pos hr,if_pos hl,Ah,if_pos rfl,X.validEdits_eq,if_neg (by omega),Ah]
 by_cases c:es.all X.okEdit=true
 ·rw [if_pos c,if_pos c,if_pos rfl]
  unfold Td
  rw [gd_t (by omega),Ah,gd_t ⟨by omega,fun x hx=>⟨hx,Zy hF⟩⟩,jn_d,e,Ah,X.corrected_eq hf (by rw [hp.length_eq];exact hcl) (by omega) (List.all_eq_true.1 c),Ah,Asy ?_ (by rw [hp.length_eq];omega),Ah]
  unfold X.outC
  rw [List.length_map,List.length_zip,hp.length_eq]
  omega
 ·rw [if_neg c,if_neg c,if_neg (by omega)]
theorem Za {l:List Aa} {cl:List Int} (h:cl.length=l.length) (es:List Bb):(X.outC l cl es).length=l.length:=by
 unfold X.outC
 rw [List.length_map,List.length_zip]
 omega
theorem As0 {l:List Aa} {cl:List Int} {es:List Bb} {j:Nat} (hj:j < (X.outC l cl es).length) (h1:j < l.length) (h2:j < cl.length):(X.outC l cl es)[j]=es.foldl (X.editF l[j]) cl[j]:=by
 simp only [X.outC,List.getElem_map,List.getElem_zip]
theorem Aq8 {t:Int} (h0:0≤t) (h1:t≤255):∃ c,Fj t=some c∧X.isCl c=true:=by
 obtain ⟨n,rfl⟩:=Int.eq_ofNat_of_zero_le h0
 unfold Fj
 rw [show Int.tmod (n:Int) 6=((n % 6:Nat):Int) by rw [show (6:Int)=((6:Nat):Int) from rfl,← Int.ofNat_tmod]]
 have:n % 6 < 6:=Nat.mod_lt _ (by omega)
 generalize n % 6=k at *
 rcases (by omega:k=0∨k=1∨k=2∨k=3∨k=4∨k=5) with rfl | rfl | rfl | rfl | rfl | rfl
 ·exact ⟨0,rfl,rfl⟩
 ·exact ⟨1,rfl,rfl⟩
 ·exact ⟨2,rfl,rfl⟩
 ·exact ⟨5,rfl,rfl⟩
 ·exact ⟨6,rfl,rfl⟩
 ·exact ⟨7,rfl,rfl⟩
theorem Aq9 {l:List Aa} (hl:X.Fit l) {i j:Nat} (hi:i < (Ar Bn l).length) (hj:j < (Ar Bn l).length) (h:i < j):(Ar Bn l)[i].Id < (Ar Bn l)[j].Id:=by
 have h1:=List.pairwise_iff_getElem.1 (Pb (totP l) (fun x hx=>⟨hx,Zy hl⟩)) i j hi hj h
 have hf:X.Fit (Ar Bn l):=hl.perm (Ei Bn l).symm
 have h2:=List.pairwise_iff_getElem.1 (List.pairwise_map.1 hf.id) i j hi hj h
 have h3:¬ ((Ar Bn l)[j].Id-(Ar Bn l)[i].Id < 0):=h1
 omega
section
variable {v:Dl} (hl:X.validL v.L=true) {cl:List Int} (hcl:cl.length=v.L.length) {q:Aa} {c:Int} (hc:Fj v.To=some c)
include hl hcl hc
theorem Anj (hn:v.L.length≤300) (e1 e2:Int) (b:Bool) {j:Nat} (hj:j < (Ar Bn v.L).length) :
  Dj (lblL (Ar Bn v.L) (X.outC (Ar Bn v.L) cl (v.Edits++[⟨q.Id,[],0,c⟩])),e1) q v (lblL (Ar Bn v.L) (X.outC (Ar Bn v.L) cl v.Edits),e2) (b,(j:Int)) =
   some (.inl (b || decide ((Ar Bn v.L)[j].Id=q.Id),((j+1:Nat):Int))):=by
 have hp:=Ei Bn v.L
 have hF:=X.Fit.of hl
 have hcl2:cl.length=(Ar Bn v.L).length:=by rw [hp.length_eq];exact hcl
 have hj2:j < cl.length:=by omega
 have o1:=Za hcl2 v.Edits
 have o2:=Za hcl2 (v.Edits++[⟨q.Id,[],0,c⟩])
 have l1:=Aal o1
 have l2:=Aal o2
 have g1:=Afv (s:=Ar Bn v.L) (cl:=X.outC (Ar Bn v.L) cl v.Edits) (j:=j) (by omega) hj (by omega)
 have g2:=Afv (s:=Ar Bn v.L) (cl:=X.outC (Ar Bn v.L) cl (v.Edits++[⟨q.Id,[],0,c⟩])) (j:=j) (by omega) hj (by omega)
 have ed:∀ (p:Aa) (k:Int),X.editF p k ⟨q.Id,[],0,c⟩=if p.Id=q.Id then c else k:=fun p k=>by
  unfold X.editF X.appB
  by_cases h:p.Id=q.Id
  ·simp [h]
  ·have h':¬ q.Id=p.Id:=fun e=>h e.symm
   simp [h,h']
 rw [As0 (by omega) hj hj2] at g1 g2
 rw [List.foldl_append,List.foldl_cons,List.foldl_nil,ed] at g2
 have hprev:0 < j→∃ y,idx (lblL (Ar Bn v.L) (X.outC (Ar Bn v.L) cl (v.Edits++[⟨q.Id,[],0,c⟩]))) (w64 ((j:Int)-1))=some y∧y.Id < (Ar Bn v.L)[j].Id:=fun h0=>by
  have e:w64 ((j:Int)-1)=((j-1:Nat):Int):=by rw [Bp (by omega) (by omega)];omega
  have h1:j-1 < (Ar Bn v.L).length:=by omega
  rw [e,Bf (by omega)]
  refine ⟨_,rfl,?_⟩
  rw [Afv (by omega) h1 (by omega)]
  exact Aq9 hF h1 hj (by omega)
 unfold Dj
 dsimp only
 rw [if_pos (by omega),jn_d,Bf (by omega),Ah,Bf (by omega),Ah,g1,g2,Bs (by omega)]
 generalize (v.Edits.foldl (X.editF (Ar Bn v.L)[j]) cl[j])=k at *
 generalize (Ar Bn v.L)[j]=p at *
 unfold setC
 simp only [jn_d,hc,Ah]
 by_cases h:p.Id=q.Id
 ·simp only [h,if_true,beq_self_eq_true,Bool.and_self,Bool.and_true]
  by_cases h0:0 < j
  ·obtain ⟨y,y1,y2⟩:=hprev h0
   rw [h] at y2
   rw [if_pos (by omega),y1,Ah,decide_eq_false (by omega)]
   simp
  ·rw [if_neg (by omega)]
   simp
 ·simp only [h,if_false,beq_self_eq_true,Bool.and_self,Bool.and_true,if_true]
  by_cases h0:0 < j
  ·obtain ⟨y,y1,y2⟩:=hprev h0
   rw [if_pos (by omega),y1,Ah,decide_eq_false (by omega)]
   simp
  ·rw [if_neg (by omega)]
   simp
theorem Ank (hn:v.L.length≤300) (hq:q∈v.L) (e1 e2:Int) :
  lfix (Dj (lblL (Ar Bn v.L) (X.outC (Ar Bn v.L) cl (v.Edits++[⟨q.Id,[],0,c⟩])),e1) q v (lblL (Ar Bn v.L) (X.outC (Ar Bn v.L) cl v.Edits),e2)) (false,0)=some (.inl true):=by
 have hp:=Ei Bn v.L
 have hcl2:cl.length=(Ar Bn v.L).length:=by rw [hp.length_eq];exact hcl
 have l2:=Aal (Za hcl2 (v.Edits++[⟨q.Id,[],0,c⟩]))
 have:=Du (B:=Dj (lblL (Ar Bn v.L) (X.outC (Ar Bn v.L) cl (v.Edits++[⟨q.Id,[],0,c⟩])),e1) q v (lblL (Ar Bn v.L) (X.outC (Ar Bn v.L) cl v.Edits),e2))
  (fun x=>(Ar Bn v.L).length-x.2.toNat) (fun x=>∃ k:Nat,k≤(Ar Bn v.L).length∧x=(((Ar Bn v.L).take k).any (fun p=>decide (p.Id=q.Id)),(k:Int))) (fun t=>t = .inl true) (fun x hx=>by
  obtain ⟨k,hk,rfl⟩:=hx
  by_cases hk2:k < (Ar Bn v.L).length
  ·left
   rw [Anj hl hcl hc hn e1 e2 _ hk2]
   refine ⟨_,rfl,⟨k+1,hk2,?_⟩,by dsimp only;omega⟩
   rw [List.take_succ_eq_append_getElem hk2,List.any_append]
   simp
  ·right
   have:k=(Ar Bn v.L).length:=by omega
   subst this
   unfold Dj
   dsimp only
   rw [if_neg (by omega),List.take_length]
   have:(Ar Bn v.L).any (fun p=>decide (p.Id=q.Id))=true:=List.any_eq_true.2 ⟨q,Iq.2 hq,by simp⟩
   rw [this]
   exact ⟨_,rfl,rfl⟩) (false,0) ⟨0,by omega,by simp⟩
 obtain ⟨t,e,rfl⟩:=this
 exact e
end
theorem Ah5 (v:Dl) (ha:0≤v.At∧v.At≤255) (ht:0≤v.To∧v.To≤255):Ge v=some true:=by
 have fin:(bnd Er fun r22=>some r22)=some true:=by rw [X.first_eq,Ah]
 unfold Ge
 rw [jn_d,show (10:Int)=((10:Nat):Int) from rfl,Aw8,Ah]
 by_cases c:Ad4 v.L v.R 10
 ·rw [decide_eq_true c,if_pos rfl]
  obtain ⟨c1,c2,c3⟩:=c
  by_cases c4:v.L.length=0
  ·rw [if_pos (by omega)]
   exact fin
  ·rw [if_neg (by omega),X.large_eq,Ah]
   by_cases c5:v.Edits.length≤100∧∀ e∈v.Edits,e.Ring.length≤200
   ·rw [decide_eq_true c5,if_neg (by simp)]
    by_cases c6:(64:Int)≤((v.Edits.length:Nat):Int)
    ·rw [decide_eq_true c6]
     exact fin
    ·rw [decide_eq_false c6]
     dsimp only
     obtain ⟨a,ea⟩:=Int.eq_ofNat_of_zero_le ha.1
     have hm:a % v.L.length < v.L.length:=Nat.mod_lt _ (by omega)
     have hidx:Int.tmod (w64 v.At) ((v.L.length:Nat):Int)=((a % v.L.length:Nat):Int):=by rw [ea,Akh (by omega),Int.ofNat_tmod]
     obtain ⟨k,hk,hcl⟩:=Aq8 ht.1 ht.2
     obtain ⟨cl,e,hcl2⟩:=Agj c2 c3 (by omega)
     rw [if_neg (by simp),gd_t (by omega),hidx,Bf hm,Ah,Alp c2 c3 e hcl2 (es:=v.Edits) (by omega),Ah,gd_t (by simp only [List.length_nil];omega),hk,Ah,gd_t (by simp only [List.nil_append];omega)]
     have hq:v.L[a % v.L.length]∈v.L:=List.getElem_mem hm
     generalize v.L[a % v.L.length]=q at *
     rw [List.nil_append,Alp c2 c3 e hcl2 (es:=v.Edits++[(⟨q.Id,[],0,k⟩:Bb)]) (by rw [List.length_append];simp only [List.length_cons,List.length_nil];omega),Ah]
     have hnew:X.okEdit (⟨q.Id,[],0,k⟩:Bb)=true:=by unfold X.okEdit;simp [hcl]
     by_cases c7:v.Edits.all X.okEdit=true
     ·have c8:(v.Edits++[(⟨q.Id,[],0,k⟩:Bb)]).all X.okEdit=true:=by rw [List.all_append,c7];simp [hnew]
      have hp:=Ei Bn v.L
      have hcl3:cl.length=(Ar Bn v.L).length:=by rw [hp.length_eq];exact hcl2
      have l1:=Aal (Za hcl3 v.Edits)
      have l2:=Aal (Za hcl3 (v.Edits++[(⟨q.Id,[],0,k⟩:Bb)]))
      rw [hp.length_eq] at l1 l2
      rw [if_pos c7,if_pos c8]
      dsimp only
      rw [if_pos rfl,jn_d,if_pos rfl,l1,l2,if_pos rfl]
      simp only [decide_true,Bool.not_true,Bool.false_eq_true,if_false]
      rw [jn_d,Ank c2 hcl2 hk (by omega) hq 0 0,Ah]
      dsimp only
      rw [jn_d,if_pos rfl,X.first_eq,Ah]
     ·have c8:¬ (v.Edits++[(⟨q.Id,[],0,k⟩:Bb)]).all X.okEdit=true:=by
       rw [List.all_append,Bool.and_eq_true]
       exact fun h=>c7 h.1
      rw [if_neg c7,if_neg c8]
      dsimp only
      rw [if_neg (by omega),jn_d,if_pos rfl,if_pos rfl,X.first_eq,Ah]
   ·rw [decide_eq_false c5]
    exact fin
 ·rw [decide_eq_false c]
  exact fin
end Go.Proofs.YtbkobeeileemjaaGreat
/- What the arguments of a law are, read off the way a law's claim is told of them: lists, structs. -/
namespace Go.Proofs.YtbkobeeileemjaaGreat
open Go.ChangeShapes Go.WideShapes Go.ChangeAt Go.RowKit

theorem own2:ownKnob Tryz.prog.godebug=none:=by kernel_rfl
theorem As1:laidOutB Tryz.prog=true:=by kernel_rfl
def rI64 (z:Int):Prop:=-9223372036854775808≤z∧z≤9223372036854775807
def rU8 (z:Int):Prop:=0≤z∧z≤255
theorem Adl {cs:List Value} {o:Nat} (h:cs.length=o):cs.drop o=[]:=by rw [← h,List.drop_length]
theorem Dx {cs X R:List Value} {o k o':Nat} (h1:(cs.drop o).take k=X) (h2:cs.drop o'=R) (ho:o'=o+k):cs.drop o=X++R:=by
 subst ho;rw [← h1,← h2,← List.drop_drop,List.take_append_drop]
section
variable {H:Type} {enc:TypeId × Value→H} {w:World} {base:Nat} {spare:Nat→Bool} {held:Bool} {P:Program}
theorem Ayk {t:TypeId} (ht:P.underlying t=some (.int .i64)) {fuel:Nat} {cs:List Value} {x:DataW H × List MemPlace} (h:DataW.trod enc P w base spare held fuel t cs=some x):∃ z:Int,cs=[.int .i64 z]∧rI64 z:=by
 obtain ⟨n,hc,_,hw⟩:=DataW.trod_int ht h
 refine ⟨n,hc,?_⟩
 have h1:IntKind.i64.min = -9223372036854775808:=rfl
 have h2:IntKind.i64.max=9223372036854775807:=rfl
 simp only [Lit.wf,Bool.and_eq_true,decide_eq_true_eq] at hw
 unfold rI64;omega
theorem Az1 {t:TypeId} (ht:P.underlying t=some (.int .u8)) {fuel:Nat} {cs:List Value} {x:DataW H × List MemPlace} (h:DataW.trod enc P w base spare held fuel t cs=some x):∃ z:Int,cs=[.int .u8 z]∧rU8 z:=by
 obtain ⟨n,hc,_,hw⟩:=DataW.trod_int ht h
 refine ⟨n,hc,?_⟩
 have h1:IntKind.u8.min=0:=rfl
 have h2:IntKind.u8.max=255:=rfl
 simp only [Lit.wf,Bool.and_eq_true,decide_eq_true_eq] at hw
 unfold rU8;omega
theorem Agk {α:Type} {en:α→List Value} {okα:α→Prop} {t e:TypeId} {sz:Nat} (ht:P.underlying t=some (.slice e)) (hsz:P.cellsOf e=sz) (hp:0 < sz)
  (hel:∀ {fuel:Nat} {cs:List Value} {x:DataW H × List MemPlace},DataW.trod enc P w base spare held fuel e cs=some x→∃ v,cs=en v∧okα v)
  {fuel:Nat} {cs:List Value} {x:DataW H × List MemPlace} (h:DataW.trod enc P w base spare held fuel t cs=some x) :
  ∃ (v:List α) (A:Option Addr) (c:Nat),cs=[.slice A v.length c]∧Has [.old w] A v.length c sz en v∧∀ z∈v,okα z:=by
 rcases Go.Deep.open_slice ht h with ⟨rfl,_⟩ | ⟨a,len,cap,m,n,D,Pl,rfl,hb,hl,hm,hmm,_,hx⟩
 ·exact ⟨[],none,0,rfl,Has.nil,fun z hz=>by simp at hz⟩
 ·have hle:len≤m:=by rw [hmm];split <;> omega
  have key:∀ k,k≤len→∃ v:List α,v.length=k∧(∀ z∈v,okα z)∧∀ i (hi:i < v.length),w.cells? base (a.add (i*sz)) sz=some (en v[i]):=by
   intro k
   induction k with
   | zero=>intro _;exact ⟨[],rfl,fun z hz=>by simp at hz,fun i hi=>by simp at hi⟩
   | succ k ih =>
    intro hk
    obtain ⟨v,h1,h2,h3⟩:=ih (by omega)
    obtain ⟨cs',h4,h5⟩:=hx k (by omega)
    obtain ⟨z,rfl,hz⟩:=hel h5
    rw [hsz] at h4
    refine ⟨v++[z],by simp [h1],fun y hy=>?_,fun i hi=>?_⟩
    ·rcases List.mem_append.1 hy with hy | hy
     ·exact h2 y hy
     ·simp at hy;subst hy;exact hz
    ·simp at hi
     rcases Nat.lt_or_ge i v.length with hlt | hge
     ·rw [List.getElem_append_left hlt];exact h3 i hlt
     ·have:i=k:=by omega
      subst this
      rw [List.getElem_append_right hge]
      simp [h1];exact h4
  obtain ⟨v,h1,h2,h3⟩:=key len (Nat.le_refl _)
  subst h1
  have hesz:∀ z∈v,(en z).length=sz:=by
   intro z hz
   obtain ⟨i,hi,rfl⟩:=List.getElem_of_mem hz
   exact (World.cells?_some (h3 i hi)).2.1
  have hsl:Sl w (some a) v.length cap sz en v:=by
   refine ⟨rfl,hl,hm,hesz,fun hn=>?_⟩
   have hsp:a.spot=none:=by
    have h4:=(World.cells?_some (h3 0 hn)).2.2 0 hp
    have h5:(en v[0])[0]? = some ((en v[0])[0]'(by rw [hesz _ (List.getElem_mem hn)];exact hp)):=List.getElem?_eq_getElem _
    rw [h5] at h4
    simp only [Nat.zero_mul,Addr.add,if_true] at h4
    unfold World.cell? at h4
    split at h4
    ·split at h4
     ·cases h4
     ·rename_i hs;simpa using hs
    ·cases h4
   obtain ⟨b,o,sp⟩:=a
   have hsp:sp=none:=hsp
   subst hsp
   refine ⟨b,o,rfl,fun i hi j u hu=>?_⟩
   have hj:j < sz:=by rw [← hesz _ (List.getElem_mem hi)];exact (List.getElem?_eq_some_iff.1 hu).1
   have h4:=(World.cells?_some (h3 i hi)).2.2 j hj
   rw [hu,Addr.add_lit,Addr.add_lit] at h4
   exact h4
  exact ⟨v,some a,cap,rfl,hsl.has,h2⟩
theorem Ara {α:Type} {R:List Ent→α→List Value→Prop} {okα:α→Prop} {t e:TypeId} {sz:Nat} (ht:P.underlying t=some (.slice e)) (hsz:P.cellsOf e=sz) (hp:0 < sz)
  (hel:∀ {fuel:Nat} {cs:List Value} {x:DataW H × List MemPlace},DataW.trod enc P w base spare held fuel e cs=some x→∃ v,R [.old w] v cs∧okα v)
  {fuel:Nat} {cs:List Value} {x:DataW H × List MemPlace} (h:DataW.trod enc P w base spare held fuel t cs=some x) :
  ∃ (v:List α) (A:Option Addr) (c:Nat),cs=[.slice A v.length c]∧HasN [.old w] A v.length c sz R v∧∀ z∈v,okα z:=by
 obtain ⟨v,A,c,h1,h2,h3⟩:=Agk (en:=raw) (okα:=fun ys=>∃ v,R [.old w] v ys∧okα v) ht hsz hp (fun {_ cs _} h=>⟨cs,rfl,hel h⟩) h
 have key:∀ l:List (List Value),(∀ z∈l,∃ v,R [.old w] v z∧okα v)→∃ m:List α,l.length=m.length∧(∀ (i:Nat) (h:i < m.length) (h':i < l.length),R [.old w] m[i] l[i])∧∀ z∈m,okα z:=by
  intro l
  induction l with
  | nil=>intro _;exact ⟨[],rfl,fun i h=>absurd h (by simp),fun z hz=>by simp at hz⟩
  | cons y r ih =>
   intro hy
   obtain ⟨u,hu,ho⟩:=hy y List.mem_cons_self
   obtain ⟨m,e1,e2,e3⟩:=ih (fun z hz=>hy z (List.mem_cons_of_mem _ hz))
   refine ⟨u::m,by simp [e1],fun i h h'=>?_,fun z hz=>?_⟩
   ·cases i with
    | zero=>exact hu
    | succ i=>exact e2 i (by simpa using h) (by simpa using h')
   ·rcases List.mem_cons.1 hz with rfl | hz
    ·exact ho
    ·exact e3 z hz
 obtain ⟨m,e1,e2,e3⟩:=key v h3
 rw [e1] at h1 h2
 exact ⟨m,A,c,h1,⟨v,h2,e1,e2⟩,e3⟩
end
theorem Az2 (w:World):∀ e∈[Ent.old w],Ent.ok w e:=fun e he=>by simp at he;subst he;exact ⟨Below.refl _ _,Nat.le_refl _⟩
end Go.Proofs.YtbkobeeileemjaaGreat
