/- Slices with a bound on their capacity, slices held against nil. -/
import Derived.Test.YtbkobeeileemjaaGreatFlow9
import Derived.Lib.LazyBuf
import Derived.ChangeKeysEq
import Derived.DeepKeys
namespace Go.Proofs.YtbkobeeileemjaaGreat
open Go Go.RowKit
section
variable {P:Program} {n:Nat} {N:Act→World→Prop} {Q:Exit→Act→World→Prop} {fr:List (Nat × Value)} {L:List Ent}
variable {dst:Option Tmp} {ty:TypeId} {pos:String} {after:Array Edge} {guard:Option (Nat × Bool)}
theorem Am2 {t e t':TypeId} {x y:Operand} {A:Option Addr} {m c:Nat} (ht:P.underlying t=some (.slice e)) (hx:evo fr x=some (.slice A m c)) (hy:evo fr y=some (.slice none 0 0)) :
  Ev P n ⟨dst,.binOp .eql t x y t',ty,pos,after,guard⟩ fr L (.bool A.isNone):=fun a w ha _=>by
 simp [execOp,ha.eval hx,ha.eval hy,eqGuard_at_slice,run_eql_slice_nil w t e A m c ht,Result.andThen]
theorem Apj {t x hi mx A m c e sz k1 k2} {j:Int} (hx:evo fr x=some (.slice A m c)) (hh:evo fr hi=some (.int k1 j)) (hm:evo fr mx=some (.int k2 j)) (ht:Ka P t e sz) (h0:0≤j) (h1:j≤(c:Int)) :
  Ev P n ⟨dst,.slice t x none (some hi) (some mx),ty,pos,after,guard⟩ fr L (.slice A j.toNat j.toNat):=fun a w ha _=>by
 obtain ⟨q,rfl⟩:∃ q:Nat,j=(q:Int):=⟨j.toNat,by omega⟩
 have h2:q≤c:=by omega
 have:(if q=0 then A else A.map (·.add (0*sz)))=A:=by
  split
  ·rfl
  ·cases A <;> simp [Addr.add]
 simp [execOp,ha.eval hx,ha.eval hh,ha.eval hm,Instr.sliceAt,Instr.slice,run_underlying ht.1,Instr.sliceBounds,Instr.sliceBound,asIntOf,h2,ht.2 w,Addr.add]
theorem Has.subHM {α:Type} {K:List Ent} {A m c sz} {enc:α→List Value} {l:List α} (h:Has K A m c sz enc l) {j:Int} (h1:0≤j) (h2:j≤(m:Int)) :
  Has K A j.toNat j.toNat sz enc (subl l 0 j):=by
 have h3:=h.subH h1 h2
 exact ⟨h3.len,Nat.le_refl _,by have:=h.cap;have:=h.nc;omega,h3.esz,h3.at_⟩
theorem HasN.nc {α:Type} {K:List Ent} {A:Option Addr} {n c sz:Nat} {R:List Ent→α→List Value→Prop} {l:List α} (h:HasN K A n c sz R l):n≤c:=by
 obtain ⟨hl,h1,_⟩:=h;exact h1.nc
theorem HasN.sub {α:Type} {K:List Ent} {A:Option Addr} {m c sz:Nat} {R:List Ent→α→List Value→Prop} {l:List α} (h:HasN K A m c sz R l) {i j:Int} (h1:0≤i) (h2:i≤j) (h3:j≤(m:Int)) :
  HasN K (slA A c i.toNat sz) (j.toNat-i.toNat) (c-i.toNat) sz R (subl l i j):=by
 have hlen:=h.len
 obtain ⟨hl,g1,g2,g3⟩:=h
 refine ⟨subl hl i j,g1.sub h1 h2 h3,by simp [subl];omega,fun q hq hq'=>?_⟩
 have e1:(subl l i j)[q]=l[i.toNat+q]'(by simp [subl] at hq;omega):=by simp [subl]
 have e2:(subl hl i j)[q]=hl[i.toNat+q]'(by simp [subl] at hq';omega):=by simp [subl]
 rw [e1,e2];exact g3 _ _ _
theorem HasN.subL {α:Type} {K:List Ent} {A:Option Addr} {m c sz:Nat} {R:List Ent→α→List Value→Prop} {l:List α} (h:HasN K A m c sz R l) {i:Int} (h1:0≤i) (h2:i≤(m:Int)) :
  HasN K (slA A c i.toNat sz) (m-i.toNat) (c-i.toNat) sz R (subl l i (m:Int)):=h.sub h1 h2 (Int.le_refl _)
theorem HasN.subH {α:Type} {K:List Ent} {A:Option Addr} {m c sz:Nat} {R:List Ent→α→List Value→Prop} {l:List α} (h:HasN K A m c sz R l) {j:Int} (h1:0≤j) (h2:j≤(m:Int)) :
  HasN K A j.toNat c sz R (subl l 0 j):=by
 have hlen:=h.len
 obtain ⟨hl,g1,g2,g3⟩:=h
 refine ⟨subl hl 0 j,g1.subH h1 h2,by simp [subl];omega,fun q hq hq'=>?_⟩
 have e1:(subl l 0 j)[q]=l[q]'(by simp [subl] at hq;omega):=by simp [subl]
 have e2:(subl hl 0 j)[q]=hl[q]'(by simp [subl] at hq';omega):=by simp [subl]
 rw [e1,e2];exact g3 _ _ _
/-- append to a slice that has no room. -/
theorem Akf {α : Type} (enc : α → List Value) (l ys : List α) {d : Nat} {s x t e sz bytes A m B q q' ty'} {K : List Ent}
    (hs : evo fr s = some (.slice A m m)) (hx : evo fr x = some (.slice B q q')) (ht : Ui P t e sz bytes) (he : ∀ x, (enc x).length = sz)
    (hl : Has K A m m sz enc l) (hy : Has K B q q' sz enc ys) (hK : SubE K L) (hne : ys ≠ []) (hb : (l.length + ys.length) * bytes ≤ 140737488355328) (hd : Nat.blt d n = true) (h0 : 0 < bytes)
    (k : ∀ A' c', T n N ((d, .slice A' (l ++ ys).length c') :: fr) (.r A' (l ++ ys).length c' e sz ((l ++ ys).flatMap enc) :: L)) :
    Wh P Q n ⟨some d, .call ⟨.builtin .append, #[s, x], #[t, t]⟩, ty', pos, after, guard⟩ fr L N := by
  intro a w ha hw
  have hm := hl.len
  subst hm
  have hq := hy.len
  subst hq
  have hll := Kp he l
  have hly := Kp he ys
  have hn : 0 < ys.length := List.length_pos_iff.2 hne
  have h63 : l.length + ys.length ≤ 9223372036854775807 := by
    have h3 := Nat.mul_le_mul_left (l.length + ys.length) h0
    rw [Nat.mul_succ, Nat.mul_zero, Nat.zero_add] at h3
    omega
  obtain ⟨i0, z, e1, e2, e3, e4, e5⟩ := ht.ex
  subst e3; subst e4
  have cellsOf : ∀ {C : Option Addr} {c0 : Nat} {zs : List α}, Has K C zs.length c0 i0.size enc zs → ∀ b o, C = some ⟨b, o, none⟩ → (∀ i (hi : i < zs.length) j u, (enc zs[i])[j]? = some u → w.cell? ⟨b, o + i * i0.size + j, none⟩ = some u) →
      ∀ (j : Nat) (u : Value), (zs.flatMap enc)[j]? = some u → w.cell? ((⟨b, o, none⟩ : Addr).add j) = some u := by
    intro C c0 zs _ b o _ hcell j u hj
    have hlz := Kp he zs
    have hjl : j < (zs.flatMap enc).length := (List.getElem?_eq_some_iff.1 hj).1
    rw [hlz] at hjl
    have hdm : j = j / i0.size * i0.size + j % i0.size := by have := Nat.div_add_mod j i0.size; rw [Nat.mul_comm] at this; omega
    have hq : j / i0.size < zs.length := (Nat.div_lt_iff_lt_mul ht.pos).2 hjl
    have hmod := Nat.mod_lt j ht.pos
    obtain ⟨u', hu'⟩ : ∃ u', (enc zs[j / i0.size])[j % i0.size]? = some u' := ⟨_, List.getElem?_eq_getElem (by rw [he zs[j / i0.size]]; exact hmod)⟩
    have hf := Vt zs (j / i0.size) hq (fun x _ => he x) (j % i0.size) u' hu'
    rw [← hdm, hj] at hf
    injection hf with hf
    subst hf
    have := hcell (j / i0.size) hq (j % i0.size) u hu'
    rw [Addr.add_lit, hdm, ← Nat.add_assoc]; exact this
  have hsl := hy.at hK hw
  obtain ⟨b, o, hB, hcell⟩ := hsl.at_ hn
  subst hB
  have hnew := cellsOf hy b o rfl hcell
  have hlen : (l.flatMap enc ++ ys.flatMap enc).length = (l.length + ys.length) * i0.size := by rw [List.length_append, hll, hly, Nat.add_mul]
  have main : ∃ old, (Builtin.append_ #[t, t] ty' #[.slice A l.length l.length, .slice (some ⟨b, o, none⟩) ys.length q']).run P w = .ok (.slice (some ⟨w.heap.size, 0, none⟩) (l.length + ys.length) (grownCap w (l.length + ys.length) old e))
        (w.drew.alloc (.cells ((l.flatMap enc).toArray ++ (ys.flatMap enc).toArray ++ Builtin.zeroCells z.cells (grownCap w (l.length + ys.length) old e - (l.length + ys.length))) e)) := by
    by_cases hl0 : 0 < l.length
    · obtain ⟨b1, o1, hA, hc1⟩ := (hl.at hK hw).at_ hl0
      subst hA
      have hold := cellsOf hl b1 o1 rfl hc1
      exact ⟨l.length, run_append_grow (P := P) w t ty' e i0 z ht.sl e1 e2 ⟨b1, o1, none⟩ l.length l.length (l.flatMap enc) hll hold ⟨b, o, none⟩ ys.length q' (ys.flatMap enc) hly hnew (by omega) (by omega) (growslice_fits (by omega) hb)⟩
    · have hl1 : l = [] := List.eq_nil_of_length_eq_zero (by omega)
      subst hl1
      cases A with
      | none =>
        refine ⟨0, ?_⟩
        have := run_append_nil (P := P) w t ty' e i0 z ht.sl e1 e2 ⟨b, o, none⟩ ys.length q' (ys.flatMap enc) hly hnew hn (by simp at h63; omega) (by simp only [List.length_nil, Nat.zero_add] at hb; omega)
        simpa using this
      | some a1 =>
        refine ⟨0, ?_⟩
        have := run_append_grow (P := P) w t ty' e i0 z ht.sl e1 e2 a1 0 0 [] (by simp) (fun j u hj => by simp at hj) ⟨b, o, none⟩ ys.length q' (ys.flatMap enc) hly hnew (by omega) (by simp at h63; omega) (growslice_fits (by omega) (by simpa using hb))
        simpa using this
  obtain ⟨old, hr⟩ := main
  have hrun : (execOp a.eval ⟨some d, .call ⟨.builtin .append, #[s, x], #[t, t]⟩, ty', pos, after, guard⟩).run P w = .ok (.value (.slice (some ⟨w.heap.size, 0, none⟩) (l.length + ys.length) (grownCap w (l.length + ys.length) old e)))
      (w.drew.alloc (.cells ((l.flatMap enc).toArray ++ (ys.flatMap enc).toArray ++ Builtin.zeroCells z.cells (grownCap w (l.length + ys.length) old e - (l.length + ys.length))) e)) := by
    simp [execOp, resolve, invoke, builtin, ha.eval hs, ha.eval hx, hr]
  simp only [Oper.wp, hrun, Oper.upon_value]
  have hlq : l.length + ys.length = (l ++ ys).length := by rw [List.length_append]
  have hge := grownCap_ge w (l.length + ys.length) old e
  have hcm : grownCap w (l.length + ys.length) old e ≤ maxLen := grownCap_le_maxLen w (l.length + ys.length) old e (by unfold maxLen; omega)
  have hwd : Heap L w.drew := hw.ext ⟨⟨rfl, rfl, rfl, Nat.le_refl _, fun _ _ => rfl⟩, Nat.le_succ _⟩
  have hh := hwd.allocF (.cells ((l.flatMap enc).toArray ++ (ys.flatMap enc).toArray ++ Builtin.zeroCells z.cells (grownCap w (l.length + ys.length) old e - (l.length + ys.length))) e)
  have hk := k (some ⟨w.heap.size, 0, none⟩) (grownCap w (l.length + ys.length) old e)
  rw [← hlq] at hk
  refine hk _ _ (ha.put hd) ⟨fun x hx => ?_, ?_⟩
  · rcases List.mem_cons.1 hx with rfl | hx
    · refine ⟨by rw [List.flatMap_append]; exact hlen, .inr ⟨w.heap.size, _, _, rfl, Nat.zero_le _, heap_alloc_new w.drew _, hge, hcm, ?_, ?_⟩⟩
      · simp only [Array.size_append, List.size_toArray, size_zeroCells, e5, hll, hly, ← Nat.add_mul]
        congr 1
        omega
      · rw [List.flatMap_append]
        simp only [Array.toList_append, List.append_assoc]
        rw [← List.append_assoc, ← hlen]
        exact List.take_left
    · exact hh.ok x (List.mem_cons_of_mem _ hx)
  · have hp := hh.sep
    rw [List.pairwise_cons] at hp ⊢
    refine ⟨fun x hx => ⟨fun g hg => (hp.1 x hx).1 g (by have hg : w.heap.size = g := hg; subst hg; exact List.mem_singleton.2 rfl), fun g hg => ⟨Nat.zero_le _, fun hb => ((hp.1 x hx).2 g hg).2 (by have hb : w.heap.size = g := hb; subst hb; exact List.mem_singleton.2 rfl)⟩⟩, hp.2⟩
end
end Go.Proofs.YtbkobeeileemjaaGreat
/- Arrays: places of their elements, their equality, arrays as keys of maps. -/
namespace Go.Proofs.YtbkobeeileemjaaGreat
open Go Go.RowKit
section
variable {P:Program} {n:Nat} {N:Act→World→Prop} {Q:Exit→Act→World→Prop} {fr:List (Nat × Value)} {L:List Ent}
variable {dst:Option Tmp} {ty:TypeId} {pos:String} {after:Array Edge} {guard:Option (Nat × Bool)}
theorem Pp.arr {t k m e i} (hu:P.underlying t=some (.array m e)) (hi:P.info? t=some i) (hk:i.size=k):Pp P t k:=by
 refine ⟨fun w=>?_,fun w=>by simp [sizeOf,typeInfo,hi,hk]⟩
 simp [isAgg,run_underlying hu]
/-- The type is an array of m elements of sz cells. -/
def Agl (P:Program) (t:TypeId) (m sz:Nat):Prop:=∃ e,P.underlying t=some (.array m e)∧∀ w,(sizeOf e).run P w = .ok sz w
theorem Agl.mk {t m e sz i} (hu:P.underlying t=some (.array m e)) (hi:P.info? e=some i) (hk:i.size=sz):Agl P t m sz :=
 ⟨e,hu,fun w=>by simp [sizeOf,typeInfo,hi,hk]⟩
theorem Bm {t x ix g o k m sz} {z:Int} (hx:evo fr x=some (.pointer (some ⟨g,o,none⟩))) (hi:evo fr ix=some (.int k z)) (ht:Agl P t m sz) (h0:0≤z) (h1:z < (m:Int)) {off:Nat} (ho:z.toNat*sz=off) :
  Ev P n ⟨dst,.indexAddr t x ix,ty,pos,after,guard⟩ fr L (.pointer (some ⟨g,o+off,none⟩)):=fun a w ha _=>by
 obtain ⟨e,hu,hs⟩:=ht
 subst ho
 simp [execOp,ha.eval hx,ha.eval hi,Instr.indexAt,asIntOf,run_underlying hu,Instr.sureAddr,h0,h1,hs,Addr.add_lit]
/-- The value of an array of arrays of cells at an index. -/
def Alq (P:Program) (t:TypeId) (xs ys:List Value):Prop:=∀ (j:Nat) (h:j < ys.length) (k:IntKind) (w:World),(Instr.index t (.agg xs.toArray) (.int k (j:Int))).run P w = .ok ys[j] w
theorem Akg {α:Type} {f:α→Value} {t:TypeId} {x i:Operand} {k:IntKind} {xs zs:List Value} {ys:List α} {z:Int} {v:α}
  (hx:evo fr x=some (.agg xs.toArray)) (hzs:zs=ys.map f) (hi:evo fr i=some (.int k z)) (hV:Alq P t xs zs) (hz:idx ys z=some v) {v':Value} (hv:f v=v'):Ev P n ⟨dst,.index t x i,ty,pos,after,guard⟩ fr L v':=fun a w ha _=>by
 subst hzs;subst hv
 unfold idx at hz
 split at hz
 ·rename_i h0
  obtain ⟨hlt,he⟩:=List.getElem?_eq_some_iff.1 hz
  have:=hV z.toNat (by simpa using hlt) k w
  rw [Int.toNat_of_nonneg h0] at this
  simp only [execOp,ha.eval hx,ha.eval hi,this,Sem.run_bind,Result.andThen,List.getElem_map,he]
  rfl
 ·cases hz
/-! ### loads at an index that is computed -/
theorem Ot {α:Type} {l:List α} {i:Int} {x:α} (h:idx l i=some x):0≤i∧i < (l.length:Int):=by
 obtain ⟨j,hj,rfl,_⟩:=Ab2 h
 omega
theorem Ara {α:Type} {enc:α→List Value} {ys:List α} {w:World} {g t o sz:Nat} {cs post:List Value} {z:Int} {v:α} (hw:Ent.ok w (.m g t cs)) (hz:idx ys z=some v) (hc:cs.drop o=ys.flatMap enc++post)
  (he:∀ x,(enc x).length=sz) (j:Nat) (u:Value) (hu:(enc v)[j]? = some u):w.cell? ⟨g,o+z.toNat*sz+j,none⟩=some u:=by
 obtain ⟨q,hq,rfl,rfl⟩:=Ab2 hz
 rw [Uc hw]
 have h1:=Vt ys q hq (fun x _=>he x) j u hu
 have h2:(cs.drop o)[q*sz+j]? = some u:=by
  rw [hc,List.getElem?_append_left]
  ·exact h1
  ·exact (List.getElem?_eq_some_iff.1 h1).1
 rw [List.getElem?_drop] at h2
 rw [show o+(q:Int).toNat*sz+j=o+(q*sz+j) by simp [Nat.add_assoc]]
 exact h2
theorem Vk {α:Type} (enc:α→List Value) {ys:List α} {x g o i t cs post ty'} {z:Int} {v:α} {u:Value} (hx:evo fr x=some (.pointer (some ⟨g,o+z.toNat*1,none⟩))) (hi:nthE L i=some (.m g t cs)) (hz:idx ys z=some v)
  (hc:cs.drop o=ys.flatMap enc++post) (he:∀ x,(enc x).length=1) (hu:enc v=[u]) (ht:Pq P ty'):Ev P n ⟨dst,.load ty' x,ty,pos,after,guard⟩ fr L u:=fun a w ha hw=>by
 have h:=Ara (g:=g) (t:=t) (hw _ (Kd hi)) hz hc he 0 u (by rw [hu];rfl)
 simp only [Nat.add_zero] at h
 rw [Nat.mul_one] at h hx
 simp [execOp,ha.eval hx,Instr.loadAt,Instr.sureAddr,Ud ht _ u h]
end
section
variable {P:Program}
/-! ### equality of arrays -/
inductive EqI (P:Program) (d:Nat) (e:TypeId) (c:Nat) (xs ys:Array Value):List Nat→Bool→Prop
 | nil:EqI P d e c xs ys [] true
 | cons {i is a b r r'} (hx:∀ w,(part e xs (i*c)).run P w = .ok a w) (hy:∀ w,(part e ys (i*c)).run P w = .ok b w)
   (he:∀ w,(Op.equalIn d e a b).run P w = .ok r w) (h:EqI P d e c xs ys is r'):EqI P d e c xs ys (i::is) (r && r')
theorem EqI.run {d e c xs ys is r} (h:EqI P d e c xs ys is r):∀ w,(Op.eqItems d e c xs ys is).run P w = .ok r w:=by
 induction h with
 | nil=>intro w;simp [Op.eqItems]
 | cons hx hy he _ ih =>
  intro w
  rename_i i is a b r r' _
  simp only [Op.eqItems,Sem.run_bind,hx,hy,he,Result.andThen_ok]
  cases r with
  | true=>simp [ih w]
  | false=>simp
theorem EqI.array {d t e m c xs ys r i} (hu:P.underlying t=some (.array m e)) (hi:P.info? e=some i) (hc:P.cellsOf e=c) (h:EqI P d e c xs ys (List.range m) r):∀ w,(Op.equalIn (d+1) t (.agg xs) (.agg ys)).run P w = .ok r w:=by
 intro w
 subst hc
 rw [run_equalIn_array w d xs ys hu hi]
 exact h.run w
/-! ### an array of integers is a key -/
theorem Am3 {k:TypeId} {m e d:Nat} {q:IntKind} {zs:List Int} (hd:P.types.size=d+1) (hu:P.underlying k=some (.array m e)) (hk:P.keyType k=true) (hc:zs.length=m) (he:P.underlying e=some (.int q)) (h1:P.cellsOf e=1) (hm:P.cellsOf k=m)
  (hf:∀ z∈zs,(Lit.int q z).wf=true):(keyOf P k (.agg (zs.map (Value.int q)).toArray)).isSome=true:=by
 unfold keyOf
 rw [hu]
 have hfm:(Value.agg (zs.map (Value.int q)).toArray).formed P k=true:=by simp [Value.formed,hu,hm,hc]
 simp only [hk,hfm,Bool.and_self,if_true,Option.isSome_map]
 have hcl:(Value.agg (zs.map (Value.int q)).toArray).cells.toList=zs.map (Value.int q):=by simp [Value.cells]
 rw [hcl,hd]
 unfold Program.keyLits
 simp only [hu]
 rw [if_pos (by simp [hm,hc]),Option.isSome_map]
 refine Xk _ fun i hi=>?_
 rw [List.mem_range] at hi
 rw [h1,Nat.mul_one]
 have hlt:i < zs.length:=by omega
 have:((zs.map (Value.int q)).drop i).take 1=[.int q zs[i]]:=by
  rw [List.drop_eq_getElem_cons (by simpa using hlt)]
  simp
 rw [this]
 unfold Program.keyLits
 simp [he,hf zs[i] (List.getElem_mem hlt)]
end
end Go.Proofs.YtbkobeeileemjaaGreat
