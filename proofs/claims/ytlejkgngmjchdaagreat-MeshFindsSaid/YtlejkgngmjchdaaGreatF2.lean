import Derived.Test.YtlejkgngmjchdaaGreatF1
set_option maxRecDepth 100000
set_option maxHeartbeats 1000000
namespace Go.Proofs.YtlejkgngmjchdaaGreat
open Go Go.RowKit Tryz List
noncomputable section
theorem Ani:Yq prog 217 245 1 4:=⟨underlying217,⟨t245,.int .u32 0,kr,kr,kr,kr,rfl⟩,dD⟩
instance:Zm prog 217 245 1 4:=⟨Ani⟩
def Py(p0:LI)(p1:Int):(LI×Int×Int)->Option (Sum (LI×Int×Int) (LI×Int)):=fun s0=>
 if 0<=s0.2.2 then (bnd (idx p0 s0.2.2) fun x0=>
 gd ((wu64 p1)≠0)<|
 bnd (idx s0.1 s0.2.2) fun x1=>
 gd ((wu64 p1)≠0)<|
 some (.inl (setI s0.1 s0.2.2 (wu32 (wu64 (Int.tdiv (Fb .u64 (shl_ .u64 s0.2.1 32) (wu64 x0)) (wu64 p1)))),Int.tmod (Fb .u64 (shl_ .u64 s0.2.1 32) (wu64 x0)) (wu64 p1),w64 (s0.2.2-1))))
 else (some (.inr (s0.1,s0.2.1)))
def Lk(p0:LI)(p1:Int):Option (LI×Int):=
 gd ((0:Int)<=(p0.length:Int)/\4*Int.toNat (p0.length:Int)<=140737488355328)<|
 jn (fun (s4:LI×Int)=>
 bnd (Bh s4.1) fun r0=>
 some (r0,wu32 s4.2))
 (fun j4=>bnd (lfix (Py p0 p1) (List.replicate (Int.toNat (p0.length:Int)) (0:Int),0,w64 ((p0.length:Int)-1))) fun t0=>
 j4 t0)
def Ih(p0:LI)(p1:Int):(LI×Int)->Option (Sum (LI×Int) LI):=fun s0=>
 if s0.2<(p0.length:Int) then (bnd (idx p0 s0.2) fun x0=>
 jn (fun (s1:Int)=>
 gd (0<=(wu64 p1))<|
 bnd (idx s0.1 s0.2) fun x1=>
 some (.inl (setI s0.1 s0.2 (wu32 (shr_ .u64 s1 (wu64 p1))),w64 (s0.2+1))))
 (fun j0=>if (w64 (s0.2+1))<(p0.length:Int) then (bnd (idx p0 (w64 (s0.2+1))) fun x2=>
 j0 (Fb .u64 (wu64 x0) (shl_ .u64 (wu64 x2) 32)))
 else (j0 (wu64 x0))))
 else (some (.inr s0.1))
def Pn(p0:LI)(p1:Int):Option LI:=
 gd ((0:Int)<=(p0.length:Int)/\4*Int.toNat (p0.length:Int)<=140737488355328)<|
 jn (fun (s3:LI)=>
 bnd (Bh s3) fun r0=>
 some r0)
 (fun j3=>bnd (lfix (Ih p0 p1) (List.replicate (Int.toNat (p0.length:Int)) (0:Int),0)) fun t0=>
 j3 t0)
def Mk(p0:Int):Option Int :=
 jn (fun (s2:Int×Int)=>
 jn (fun (s5:Int×Int)=>
 bnd (idx Pp (wu8 s5.1)) fun x0=>
 some (w64 (s5.2+(w64 x0))))
 (fun j5=>if 256<=s2.1 then (j5 (shr_ .u32 s2.1 8,w64 (s2.2+8)))
 else (j5 (s2.1,s2.2))))
 (fun j2=>if 65536<=p0 then (j2 (shr_ .u32 p0 16,16))
 else (j2 (p0,0)))
def Dw(p0:Int):Option Int :=
 bnd (Mk p0) fun r1=>
 some (w64 (32-r1))
theorem Anj{l r:LI}(h:Bh l=some r):∃k,r=l.take k:=by
 unfold Bh at h;simp only[jn] at h;obtain⟨n,h1,h⟩:=Aq h;obtain rfl:=oI h;refine Atv (C:=fun s=>∃k,s=l.take k) (R:=fun t=>∃k,t=l.take k) ⟨l.length,take_length.symm⟩ ?_ ?_ h1
 .rintro s s' ⟨k,rfl⟩ h;simp only[Hh,jn] at h;split at h
  .obtain⟨x,_,h⟩:=Aq h;split at h
   .obtain⟨_,h⟩:=Dv h;injection h with h
    injection h with h
    exact⟨_,by rw[<-h,Ak5,take_take]⟩
   .simp at h
  .simp at h
 .rintro s t ⟨k,rfl⟩ h;simp only[Hh,jn] at h;split at h
  .obtain⟨x,_,h⟩:=Aq h;split at h
   .obtain⟨_,h⟩:=Dv h;simp at h
   .injection h with h
    injection h with h
    exact⟨k,h.symm⟩
  .injection h with h
   injection h with h
   exact⟨k,h.symm⟩
theorem Uj(p0:LI){K:LE}{E0:OA}{G0:Nat}(ha0:Has K E0 p0.length G0 1 Ak p0){r:LI}(hx:Bh p0=some r)(w:World)(hK:∀e∈K,Ent.ok w e):CtL prog 238 [.slice E0 p0.length G0] w fun v Ln=>v=.slice E0 r.length G0/\Ln=[]/\Has K E0 r.length G0 1 Ak r/\True:=by
 have ha0':=Has.up0 ha0;refine CtL.mk 21 func238 rfl ntmps238 kr rfl ?_;show T 21 _ [(0,.slice E0 p0.length G0)] _;unfold Bh at hx;refine Y5 ?_;obtain⟨j2,hj2,hx⟩:=Aal hx;refine Xw (τ:=LI) (γ:=Unit) (J:=j2) (out:=r) (fun s2 y2=>[(0,.slice E0 s2.length G0)]) (fun s2 y2=>[]++[.old w]) (fun s2 y2=>Has (K++[]) E0 s2.length G0 1 Ak s2/\True) ?_ ?_
 .intro s2 y2 hx0 hG0;obtain⟨hs0,-⟩:=hG0;subst hj2;refine Y7 ?_;obtain rfl:=oI hx0;exact Kf (rs:=[.tmp 2]) results238 (.tmp rfl (.nil)) (Ln:=[]) ⟨rfl,rfl,Has.len' (Has.dn0 hs0),trivial⟩ Iz (by exact .refl)
 .skip;refine Y ?_;obtain⟨t0,hl0,ho0⟩:=Aq hx;refine Lp (σ:=LI) (γ:=Unit) hl0 (fun s0 y0=>[(0,.slice E0 s0.length G0)]) (fun s0 y0=>[]++[.old w]) (fun s0 y0=>Has (K++[]) E0 s0.length G0 1 Ak s0/\True) () ((by exact⟨Has.len' ha0',trivial⟩)) (by exact .refl) ?_;intro s0 y0 hG1 x0 hx1 ht0;unfold Hh at hx1;obtain⟨hs1,-⟩:=hG1;refine Y ?_;refine Tj (γ:=Unit) hx1 (fun s6 y6=>[(0,.slice E0 s0.length G0),(14,.bool s6)]) (fun s6 y6=>[]++[.old w]) (fun s6 y6=>True) (fun s6 y6 hx2 hG2=>?_) (fun j6 hx1=>?_)
  .refine Nm (s:=14) rfl (fun h0=>?_) (fun h0=>?_)
   .have hx3:=Qc h0 hx2;refine Y7 ?_;refine Ay (Gf rfl 245 underlying217) rfl ?_;refine Y ?_;obtain⟨h1,hx4⟩:=Dv hx3;have hs2:=Has.subH hs1 h1.1 h1.2;refine Ay (Ai7 rfl rfl Gu h1.1 (by have:=Has.nc hs1;omega)) rfl ?_;refine Y3 ?_;refine Ze (s:=0) (v':=.slice E0 ((subl s0 0 (w64 ((s0.length:Int)-1))).length) G0) rfl (by have hn0:(Int.toNat (w64 ((s0.length:Int)-1)))=(subl s0 0 (w64 ((s0.length:Int)-1))).length:=(Has.len hs2).symm;first|(rw[<-hn0];done)|rfl) ?_;exact Rp (subl s0 0 (w64 ((s0.length:Int)-1))) () hx4 ((by exact⟨Has.len' hs2,trivial⟩)) (by exact .refl)
   .have hx5:=Sq h0 hx2;refine Y3 ?_;obtain rfl:=Mg ht0 hx5;refine Y2 ?_;exact Mt s0 () ho0 ((by exact⟨Has.len' hs1,trivial⟩)) (by exact .refl)
  .refine Y2 ?_;refine Ay (Gf rfl 245 underlying217) rfl ?_;refine Y2 ?_;refine Ti hx1 (s:=6) rfl (fun h2 hx6=>?_) (fun h2 hx7=>?_)
   .refine Y2 ?_;refine Pv rfl rfl rfl (Gf rfl 245 underlying217) rfl ?_;refine Y ?_;obtain⟨x1,h3,hx8⟩:=Aq hx6;have hw0:=Has.low (E:=[]) hs1 hK;obtain⟨b0,o0,j0,hA0,hj0,hl1,hp0⟩:=Has.at_idx hw0 h3;refine Pv rfl rfl rfl (By rfl rfl hA0 (j:=j0) hj0 hl1 Gu) rfl ?_;refine Pv rfl rfl rfl (Cd rfl hp0 (sb 0) rfl Gg) rfl ?_;refine Y3 ?_;exact Mt (decide (x1=0)) () hx8 trivial (by exact .refl)
   .refine Y9 ?_;exact Mt false () hx7 trivial (by exact .refl)
theorem Wc(p0:LI){K:LE}{E0:OA}{G0:Nat}(ha0:Has K E0 p0.length G0 1 Ak p0){r:LI}(hx:Bh p0=some r)(w:World)(hK:∀e∈K,Ent.ok w e):CtL prog 238 [.slice E0 p0.length G0] w fun v Ln=>∃(A0:OA) (c0:Nat),v=.slice A0 r.length c0/\Ln=[]/\Has (K++[]) A0 r.length c0 1 Ak r/\True :=
 CtL.pad 0 (Uj p0 ha0 hx w hK) (by
  rintro _ _ ⟨rfl,rfl,h,-⟩;exact⟨_,_,rfl,rfl,by rw[append_nil];exact h,trivial⟩)
def Ii(p0:LI)(p1:Int):(LI×Int)->Option (Sum (LI×Int) LI):=fun s0=>
 if s0.2<(p0.length:Int) then (bnd (idx p0 s0.2) fun x0=>
 gd (0<=(wu64 p1))<|
 bnd (idx s0.1 s0.2) fun x1=>
 bnd (idx s0.1 s0.2) fun x2=>
 bnd (idx (setI s0.1 s0.2 (Fb .u32 x1 (wu32 (shl_ .u64 (wu64 x0) (wu64 p1))))) (w64 (s0.2+1))) fun x3=>
 some (.inl (setI (setI s0.1 s0.2 (Fb .u32 x1 (wu32 (shl_ .u64 (wu64 x0) (wu64 p1))))) (w64 (s0.2+1)) (wu32 (shr_ .u64 (shl_ .u64 (wu64 x0) (wu64 p1)) 32)),w64 (s0.2+1))))
 else (some (.inr s0.1))
def Ko(p0:LI)(p1:Int):Option LI:=
 gd ((0:Int)<=(w64 ((p0.length:Int)+1))/\4*Int.toNat (w64 ((p0.length:Int)+1))<=140737488355328)<|
 jn (fun (s3:LI)=>
 bnd (Bh s3) fun r0=>
 some r0)
 (fun j3=>bnd (lfix (Ii p0 p1) (List.replicate (Int.toNat (w64 ((p0.length:Int)+1))) (0:Int),0)) fun t0=>
 j3 t0)
def Jm(p1:LI)(p0:LI):(Int×Int)->Option (Sum (Int×Int) Int):=fun s0=>
 jn (fun (s1:Bool)=>
 if s1=true then (bnd (idx p1 (w64 ((p1.length:Int)-1))) fun x0=>
 if 4294967296<=(wu64 (s0.2+(wu64 x0))) then (some (.inr (wu64 (s0.1-1))))
 else (some (.inl (wu64 (s0.1-1),wu64 (s0.2+(wu64 x0))))))
 else (some (.inr s0.1)))
 (fun j0=>if 4294967296<=s0.1 then (j0 true)
 else (bnd (idx p1 (w64 ((p1.length:Int)-2))) fun x1=>
 bnd (idx p0 (w64 ((p1.length:Int)-2))) fun x2=>
 j0 (decide ((Fb .u64 (shl_ .u64 s0.2 32) (wu64 x2))<(wu64 (s0.1*(wu64 x1)))))))
def Ij(p1:LI)(s6:Int):(LI×Int×Int×Int)->Option (Sum (LI×Int×Int×Int) (LI×Int×Int)):=fun s0=>
 if s0.2.2.2<(p1.length:Int) then (bnd (idx p1 s0.2.2.2) fun x0=>
 bnd (idx s0.1 s0.2.2.2) fun x1=>
 bnd (idx s0.1 s0.2.2.2) fun x2=>
 some (.inl (setI s0.1 s0.2.2.2 (wu32 (wu64 ((wu64 ((wu64 x1)-(wu64 (wu32 (wu64 ((wu64 (s6*(wu64 x0)))+s0.2.2.1))))))-s0.2.1))),shr_ .u64 (wu64 ((wu64 ((wu64 x1)-(wu64 (wu32 (wu64 ((wu64 (s6*(wu64 x0)))+s0.2.2.1))))))-s0.2.1)) 63,shr_ .u64 (wu64 ((wu64 (s6*(wu64 x0)))+s0.2.2.1)) 32,w64 (s0.2.2.2+1))))
 else (some (.inr (s0.1,s0.2.1,s0.2.2.1)))
def Gc(p1:LI):(LI×Int×Int)->Option (Sum (LI×Int×Int) (LI×Int)):=fun s0=>
 if s0.2.2<(p1.length:Int) then (bnd (idx s0.1 s0.2.2) fun x0=>
 bnd (idx p1 s0.2.2) fun x1=>
 bnd (Ht x0 x1 s0.2.1) fun r0=>
 bnd (idx s0.1 s0.2.2) fun x2=>
 some (.inl (setI s0.1 s0.2.2 r0.1,r0.2,w64 (s0.2.2+1))))
 else (some (.inr (s0.1,s0.2.1)))
def Ll(p0:LI)(p1:LI):Option (LI×Int):=
 bnd (idx p0 (p1.length:Int)) fun x1=>
 bnd (idx p0 (w64 ((p1.length:Int)-1))) fun x0=>
 bnd (idx p1 (w64 ((p1.length:Int)-1))) fun x2=>
 gd ((wu64 x2)≠0)<|
 bnd (idx p1 (w64 ((p1.length:Int)-1))) fun x3=>
 gd ((wu64 x3)≠0)<|
 jn (fun (s6:Int)=>
 jn (fun (s0:LI×Int×Int)=>
 bnd (idx s0.1 (p1.length:Int)) fun x4=>
 bnd (idx s0.1 (p1.length:Int)) fun x5=>
 if (shr_ .u64 (wu64 ((wu64 ((wu64 x4)-s0.2.2))-s0.2.1)) 63)=0 then (some (setI s0.1 (p1.length:Int) (wu32 (wu64 ((wu64 ((wu64 x4)-s0.2.2))-s0.2.1))),wu32 s6))
 else (jn (fun (s1:LI×Int)=>
 bnd (idx s1.1 (p1.length:Int)) fun x6=>
 bnd (idx s1.1 (p1.length:Int)) fun x7=>
 some (setI s1.1 (p1.length:Int) (wu32 (x6+s1.2)),wu32 (wu64 (s6-1))))
 (fun j0=>bnd (lfix (Gc p1) (setI s0.1 (p1.length:Int) (wu32 (wu64 ((wu64 ((wu64 x4)-s0.2.2))-s0.2.1))),0,0)) fun t0=>
 j0 t0)))
 (fun j1=>bnd (lfix (Ij p1 s6) (p0,0,0,0)) fun t1=>
 j1 t1))
 (fun j6=>bnd (lfix (Jm p1 p0) (wu64 (Int.tdiv (Fb .u64 (shl_ .u64 (wu64 x1) 32) (wu64 x0)) (wu64 x2)),Int.tmod (Fb .u64 (shl_ .u64 (wu64 x1) 32) (wu64 x0)) (wu64 x3))) fun t2=>
 j6 t2)
def Hb(r0:LI):(LI×LI×Int)->Option (Sum (LI×LI×Int) (LI×LI)):=fun s0=>
 if 0<=s0.2.2 then (gd (0<=s0.2.2/\s0.2.2<=(w64 ((w64 (s0.2.2+(r0.length:Int)))+1))/\(w64 ((w64 (s0.2.2+(r0.length:Int)))+1))<=(s0.1.length:Int))<|
 gd (s0.2.2<(w64 ((w64 (s0.2.2+(r0.length:Int)))+1)))<|
 bnd (Ll (subl s0.1 s0.2.2 (w64 ((w64 (s0.2.2+(r0.length:Int)))+1))) r0) fun r1=>
 bnd (idx s0.2.1 s0.2.2) fun x0=>
 some (.inl (putl s0.1 s0.2.2 (w64 ((w64 (s0.2.2+(r0.length:Int)))+1)) r1.1,setI s0.2.1 s0.2.2 r1.2,w64 (s0.2.2-1))))
 else (some (.inr (s0.1,s0.2.1)))
def Fq(p0:LI)(p1:LI):Option (LI×LI):=
 bnd (Jd p0 p1) fun r1=>
 if r1<0 then (some (([]:LI),p0))
 else (if (p1.length:Int)=1 then (bnd (idx p1 0) fun x9=>
 bnd (Lk p0 x9) fun r0=>
 bnd (Ku (wu64 r0.2)) fun r2=>
 some (r0.1,r2))
 else (bnd (idx p1 (w64 ((p1.length:Int)-1))) fun x0=>
 bnd (Dw x0) fun r3=>
 bnd (Ko p1 r3) fun r4=>
 bnd (Ko p0 r3) fun r5=>
 gd ((r5.length+1)*4<=140737488355328)<|
 jn (fun (s0:LI)=>
 gd ((0:Int)<=(w64 ((s0.length:Int)-(r4.length:Int)))/\4*Int.toNat (w64 ((s0.length:Int)-(r4.length:Int)))<=140737488355328)<|
 jn (fun (s1:LI×LI)=>
 bnd (Bh s1.2) fun r6=>
 bnd (Bh s1.1) fun r7=>
 bnd (Pn r7 r3) fun r8=>
 some (r6,r8))
 (fun j0=>bnd (lfix (Hb r4) (s0,List.replicate (Int.toNat (w64 ((s0.length:Int)-(r4.length:Int)))) (0:Int),w64 (((((List.replicate (Int.toNat (w64 ((s0.length:Int)-(r4.length:Int)))) (0:Int)).length:Nat):Int))-1))) fun t0=>
 j0 t0))
 (fun j1=>if ((((r5++[0]).length:Nat):Int))=(p0.length:Int) then (gd (((r5++[0]).length+1)*4<=140737488355328)<|
 j1 ((r5++[0])++[0]))
 else (j1 (r5++[0])))))
instance Ado(p0:LI)(p1:Int):ConB (Lk p0 p1) prog 342 (fun K vs=>∃E0 G0,vs=[.slice E0 p0.length G0,.int .u32 p1]/\Has K E0 p0.length G0 1 Ak p0/\True) (fun K r v Ln=>∃A0 c0 e,v=.tuple #[.slice A0 r.1.length c0,.int .u32 r.2]/\Ln=[e]/\Has (K++[e]) A0 r.1.length c0 1 Ak r.1/\True):=⟨by
 rintro K _ r ⟨E0,G0,rfl,ha0,-⟩ hx w hK;unfold Lk at hx;refine CtS ntmps342 results342 ?_;refine pq ?_;intros;rename_i hx
 refine pA ?_;intros;rename_i hx
 apply Jr (γ:=OA×Nat) hx [] (fun s4 y4 f=>(6,.slice y4.1 s4.1.length y4.2)::(7,.int .u64 s4.2)::f) [999] (fun s4 y4 l=>.r y4.1 s4.1.length y4.2 245 1 (s4.1.flatMap Ak)::l);exact kk
 .exact aI
 .refine pI ?_;intros;rename_i hx
  apply Lr (γ:=OA×Nat) hx [0,1] (fun s0 y0 f=>(6,.slice y0.1 s0.1.length y0.2)::(7,.int .u64 s0.2.1)::(8,.int .i64 s0.2.2)::f) [999] (fun s0 y0 l=>.r y0.1 s0.1.length y0.2 245 1 (s0.1.flatMap Ak)::l) (_,_);exact kk;exact sk;intro s0 y0 x0 hx _;unfold Py at hx;exact au⟩
theorem Acl(p0:LI)(p1:Int){K:LE}{E0:OA}{G0:Nat}(ha0:Has K E0 p0.length G0 1 Ak p0){r:LI×Int}(hx:Lk p0 p1=some r)(w:World)(hK:∀e∈K,Ent.ok w e):CtL prog 342 [.slice E0 p0.length G0,.int .u32 p1] w fun v Ln=>∃(A0:OA) (c0:Nat) (e0:Ent),v=.tuple #[.slice A0 r.1.length c0,.int .u32 r.2]/\Ln=[e0]/\Has (K++[e0]) A0 r.1.length c0 1 Ak r.1/\True:=CtL.pad 0 ((Ado p0 p1).h K _ _ ⟨E0,G0,rfl,ha0,trivial⟩ hx w hK) (by rintro _ _ ⟨_,_,_,rfl,rfl,h0,-⟩;exact⟨_,_,_,rfl,rfl,h0.padN 0,trivial⟩)
instance Aez(p0:LI)(p1:Int):ConB (Pn p0 p1) prog 346 (fun K vs=>∃E0 G0,vs=[.slice E0 p0.length G0,.int .i64 p1]/\Has K E0 p0.length G0 1 Ak p0/\True) (fun K r v Ln=>∃A0 c0 e,v=.slice A0 r.length c0/\Ln=[e]/\Has (K++[e]) A0 r.length c0 1 Ak r/\True):=⟨by
 rintro K _ r ⟨E0,G0,rfl,ha0,-⟩ hx w hK;unfold Pn at hx;refine CtS ntmps346 results346 ?_;refine pq ?_;intros;rename_i hx
 apply Jr (γ:=OA×Nat) hx [] (fun s3 y3 f=>(5,.slice y3.1 s3.length y3.2)::f) [999] (fun s3 y3 l=>.r y3.1 s3.length y3.2 245 1 (s3.flatMap Ak)::l);exact kk
 .exact aI
 .refine pI ?_;intros;rename_i hx
  apply Lr (γ:=OA×Nat) hx [0,1,12] (fun s48 y48 f=>(5,.slice y48.1 s48.1.length y48.2)::(13,.int .i64 s48.2)::f) [999] (fun s48 y48 l=>.r y48.1 s48.1.length y48.2 245 1 (s48.1.flatMap Ak)::l) (_,_);exact kk;exact sk;intro s48 y48 x48 hx _;unfold Ih at hx;exact au⟩
theorem Adp(p0:LI)(p1:Int){K:LE}{E0:OA}{G0:Nat}(ha0:Has K E0 p0.length G0 1 Ak p0){r:LI}(hx:Pn p0 p1=some r)(w:World)(hK:∀e∈K,Ent.ok w e):CtL prog 346 [.slice E0 p0.length G0,.int .i64 p1] w fun v Ln=>∃(A0:OA) (c0:Nat) (e0:Ent),v=.slice A0 r.length c0/\Ln=[e0]/\Has (K++[e0]) A0 r.length c0 1 Ak r/\True:=CtL.pad 0 ((Aez p0 p1).h K _ _ ⟨E0,G0,rfl,ha0,trivial⟩ hx w hK) (by rintro _ _ ⟨_,_,_,rfl,rfl,h0,-⟩;exact⟨_,_,_,rfl,rfl,h0.padN 0,trivial⟩)
theorem Abv(p0:Int){r:Int}(hx:Mk p0=some r)(w:World):CtL prog 259 [.int .u32 p0] w fun v Ln=>v=.int .i64 r/\Ln=[]/\True:=by
 refine CtL.mk 19 func259 rfl ntmps259 kr rfl ?_;show T 19 _ [(0,.int .u32 p0)] _;unfold Mk at hx;refine Y5 ?_;refine Tj (γ:=Unit) hx (fun s2 y2=>[(0,.int .u32 s2.1),(2,.int .i64 s2.2)]) (fun s2 y2=>[]++[.old w]) (fun s2 y2=>True) (fun s2 y2 hx4 hG5=>?_) (fun j2 hx=>?_)
 .refine Tj (γ:=Unit) hx4 (fun s5 y5=>[(0,.int .u32 s5.1),(2,.int .i64 s5.2)]) (fun s5 y5=>[]++[.old w]) (fun s5 y5=>True) (fun s5 y5 hx9 hG0=>?_) (fun j5 hx4=>?_)
  .refine Y4 ?_;refine Ay (Amw rfl kr underlying5) rfl ?_;obtain⟨x0,h0,hx0⟩:=Aq hx9;refine Ay (Amf (ys:=Pp) rfl rfl underlying9 kr h0) rfl ?_;refine Ay (Ue rfl kr underlying3) rfl ?_;refine Y5 ?_;obtain rfl:=oI hx0;exact Kf (rs:=[.tmp 2]) results259 (.tmp rfl (.nil)) (Ln:=[]) ⟨rfl,rfl,trivial⟩ Iz (by exact .refl)
  .refine Y6 ?_;refine Ti hx4 (s:=8) rfl (fun h6 hx7=>?_) (fun h6 hx8=>?_)
   .refine Y4 ?_;refine Ay (Xx rfl rfl dD) rfl ?_;refine Y8 ?_;exact Mt (shr_ .u32 s2.1 8,w64 (s2.2+8)) () hx7 trivial (by exact .refl)
   .refine Y2 ?_;exact Mt (s2.1,s2.2) () hx8 trivial (by exact .refl)
 .refine Y6 ?_;refine Ti hx (s:=4) rfl (fun h1 hx2=>?_) (fun h1 hx3=>?_)
  .refine Y4 ?_;refine Ay (Xx rfl rfl dD) rfl ?_;refine Y6 ?_;exact Mt (shr_ .u32 p0 16,16) () hx2 trivial (by exact .refl)
  .refine Y2 ?_;exact Mt (p0,0) () hx3 trivial (by exact .refl)
instance(p0:Int):Con (Mk p0) prog 259 (fun _ vs=>vs=[.int .u32 p0]) (fun _ r v Ln=>v=.int .i64 r/\Ln=[]/\True):=⟨by
 rintro _ _ r rfl hx w hK;exact Abv p0 hx w⟩
instance Vd(p0:Int):Con (Dw p0) prog 343 (fun _ vs=>vs=[.int .u32 p0]) (fun _ r v Ln=>v=.int .i64 r/\Ln=[]/\True):=⟨by
 rintro _ _ r rfl hx w hK;unfold Dw at hx;refine CtS ntmps343 results343 ?_;exact au⟩
theorem Um(p0:Int){r:Int}(hx:Dw p0=some r)(w:World):CtL prog 343 [.int .u32 p0] w fun v Ln=>v=.int .i64 r/\Ln=[]/\True:=(Vd p0).h [] _ _ rfl hx w (fun _ h=>absurd h not_mem_nil)
theorem Wy(p0:LI)(p1:Int){K:LE}{E0:OA}{G0:Nat}(ha0:Has K E0 p0.length G0 1 Ak p0){r:LI}(hx:Ko p0 p1=some r)(w:World)(hK:∀e∈K,Ent.ok w e):CtL prog 344 [.slice E0 p0.length G0,.int .i64 p1] w fun v Ln=>∃(A0:OA) (c0:Nat),v=.slice A0 r.length c0/\Ln=[.r A0 r.length c0 245 1 (r.flatMap Ak)]/\True:=by
 have ha0':=Has.up0 ha0;refine CtL.mk 43 func344 rfl ntmps344 kr rfl ?_;show T 43 _ [(0,.slice E0 p0.length G0),(1,.int .i64 p1)] _;unfold Ko at hx;refine Y8 ?_;refine Ay (Gf rfl 245 underlying217) rfl ?_;refine Y ?_;obtain⟨h2,hx3⟩:=Dv hx;refine T_x (Zj Ak 0 (z:=.int .u32 0) rfl rfl rfl h2.1 underlying217 (kr:prog.info? 245=some t245) kr rfl rfl kr (show 4*_<=_ from h2.2) dD rfl (fun A1=>?_));refine Y3 ?_;refine Tj (γ:=OA×Nat) hx3 (fun s3 y3=>[(5,.slice y3.1 s3.length y3.2)]) (fun s3 y3=>[.r y3.1 s3.length y3.2 245 1 (s3.flatMap Ak)]++[.old w]) (fun s3 y3=>True) (fun s3 y3 hx0 hG0=>?_) (fun j3 hx3=>?_)
 .refine Y3 ?_;refine Abt (k:=0) rfl dD (fun _=>rfl) (fun hn0 hs0=>?_);obtain⟨r0,h0,hx1⟩:=Aq hx0;refine T_x (Gl rfl (fun w1 hw1=>Uj s3 (Has.len' hs0) h0 w1 (Ad9 (K:=([.r y3.1 s3.length y3.2 245 1 (s3.flatMap Ak)]:LE)) (by exact (sb 0)) hw1)) rfl ?_);rintro _ _ hlo ⟨rfl,rfl,hs1,-⟩;refine Adk ?_;refine Akr (r:=r0) (Anj h0) (.here) dD (fun _=>rfl) ?_;refine Y4 ?_;obtain rfl:=oI hx1;exact Kf (rs:=[.tmp 4]) results344 (.tmp rfl (.nil)) (Ln:=[.r y3.1 r0.length y3.2 245 1 (r0.flatMap Ak)]) ⟨y3.1,y3.2,rfl,rfl,trivial⟩ (Cj rfl Iz) (by exact .pick 0 rfl (.refl))
 .refine Y3 ?_;refine Ay (Gf rfl 245 underlying217) rfl ?_;refine Y4 ?_;obtain⟨t0,hl0,ho0⟩:=Aq hx3;refine Lp (σ:=LI×Int) (γ:=OA×Nat) hl0 (fun s0 y0=>[(1,.int .i64 p1),(5,.slice y0.1 s0.1.length y0.2),(13,.slice E0 p0.length G0),(14,.int .i64 (p0.length:Int)),(15,.int .i64 s0.2)]) (fun s0 y0=>[.r y0.1 s0.1.length y0.2 245 1 (s0.1.flatMap Ak)]++[.old w]) (fun s0 y0=>True) (A1,(List.replicate (Int.toNat (w64 ((p0.length:Int)+1))) (0:Int)).length) trivial (by exact .pick 0 rfl (.refl)) ?_;intro s0 y0 hG1 x0 hx2 ht0;unfold Ii at hx2;refine Y6 ?_;refine Ti hx2 (s:=16) rfl (fun h1 hx4=>?_) (fun h1 hx5=>?_)
  .refine Y8 ?_;obtain⟨x1,h3,hx6⟩:=Aq hx4;have hw0:=Has.low (E:=[]) ha0' hK;obtain⟨b0,o0,j0,hA0,hj0,hl1,hp0⟩:=Has.at_idx hw0 h3;refine Ay (By rfl rfl hA0 (j:=j0) hj0 hl1 Gu) rfl ?_;refine Ay (Cd rfl hp0 (sb 1) rfl Gg) rfl ?_;refine Y7 ?_;refine Ay (Dq rfl kr underlying242) rfl ?_;refine Y ?_;refine Ay (Dq rfl kr underlying254) rfl ?_;obtain⟨h4,hx7⟩:=Dv hx6;refine Ay (Acg rfl rfl h4) rfl ?_;refine Y7 ?_;obtain⟨x2,h5,hx8⟩:=Aq hx7;refine Aft (k:=0) rfl dD (fun _=>rfl) h5 (fun b1 j1 hA1 hj1 hl2 hm0 hp1=>?_);refine Ay (By rfl rfl hA1 (j:=j1) hj1 hl2 Gu) rfl ?_;refine Ay (Cd rfl hp1 (sb 0) rfl Gg) rfl ?_;refine Y ?_;refine Ay (Nb rfl kr underlying245) rfl ?_;refine Y ?_;obtain⟨x3,h6,hx9⟩:=Aq hx8;refine Aft (k:=0) rfl dD (fun _=>rfl) h6 (fun b2 j2 hA2 hj2 hl3 hm1 hp2=>?_);refine Ay (By rfl rfl hA2 (j:=j2) hj2 hl3 Gu) rfl ?_;refine T_h (Aan Ak s0.1 s0.2 (Fb .u32 x2 (wu32 (shl_ .u64 (wu64 x1) (wu64 p1)))) rfl rfl rfl (.here) hA2 rfl hj2 hl3 (fun _=>rfl) dD rfl Gg.2 ?_);refine Y7 ?_;refine Ay (Xx rfl rfl dD) rfl ?_;refine Ay (Nb rfl kr underlying245) rfl ?_;obtain⟨x4,h7,hx95⟩:=Aq hx9;refine Aft (k:=0) rfl dD (fun _=>rfl) h7 (fun b3 j4 hA3 hj3 hl4 hm2 hp3=>?_);refine Ay (By rfl rfl hA3 (j:=j4) hj3 hl4 Gu) rfl ?_;refine T_h (Aan Ak (setI s0.1 s0.2 (Fb .u32 x2 (wu32 (shl_ .u64 (wu64 x1) (wu64 p1))))) (w64 (s0.2+1)) (wu32 (shr_ .u64 (shl_ .u64 (wu64 x1) (wu64 p1)) 32)) rfl rfl rfl (.here) hA3 rfl hj3 hl4 (fun _=>rfl) dD rfl Gg.2 ?_);refine Y7 ?_;have hn1:s0.1.length=(setI (setI s0.1 s0.2 (Fb .u32 x2 (wu32 (shl_ .u64 (wu64 x1) (wu64 p1))))) (w64 (s0.2+1)) (wu32 (shr_ .u64 (shl_ .u64 (wu64 x1) (wu64 p1)) 32))).length:=by simp[Je,Qx,length_append] <;> omega
   refine Wt (.here) (e':=.r y0.1 ((setI (setI s0.1 s0.2 (Fb .u32 x2 (wu32 (shl_ .u64 (wu64 x1) (wu64 p1))))) (w64 (s0.2+1)) (wu32 (shr_ .u64 (shl_ .u64 (wu64 x1) (wu64 p1)) 32))).length) y0.2 245 1 ((setI (setI s0.1 s0.2 (Fb .u32 x2 (wu32 (shl_ .u64 (wu64 x1) (wu64 p1))))) (w64 (s0.2+1)) (wu32 (shr_ .u64 (shl_ .u64 (wu64 x1) (wu64 p1)) 32))).flatMap Ak)) (by first|(rw[<-hn1];done)|rfl) ?_;refine Ze (s:=5) (v':=.slice y0.1 ((setI (setI s0.1 s0.2 (Fb .u32 x2 (wu32 (shl_ .u64 (wu64 x1) (wu64 p1))))) (w64 (s0.2+1)) (wu32 (shr_ .u64 (shl_ .u64 (wu64 x1) (wu64 p1)) 32))).length) y0.2) rfl (by have hn2:s0.1.length=(setI (setI s0.1 s0.2 (Fb .u32 x2 (wu32 (shl_ .u64 (wu64 x1) (wu64 p1))))) (w64 (s0.2+1)) (wu32 (shr_ .u64 (shl_ .u64 (wu64 x1) (wu64 p1)) 32))).length:=(by simp[Je,Qx,length_append] <;> omega);first|(rw[<-hn2];done)|rfl) ?_;exact Rp (setI (setI s0.1 s0.2 (Fb .u32 x2 (wu32 (shl_ .u64 (wu64 x1) (wu64 p1))))) (w64 (s0.2+1)) (wu32 (shr_ .u64 (shl_ .u64 (wu64 x1) (wu64 p1)) 32)),w64 (s0.2+1)) (y0.1,y0.2) hx95 trivial (by exact .pick 0 rfl (.refl))
  .refine Y3 ?_;obtain rfl:=Mg ht0 hx5;refine Y2 ?_;exact Mt s0.1 (y0.1,y0.2) ho0 trivial (by exact .pick 0 rfl (.refl))
theorem Acm(p0:LI)(p1:LI){B0_0:OA}{d0_0:Nat}{cur0:Array Value}{K:LE}{E0:OA}{G0:Nat}(ha0:Has K E0 p1.length G0 1 Ak p1){r:LI×Int}(hx:Ll p0 p1=some r):CtK prog 345 [.slice B0_0 p0.length d0_0,.slice E0 p1.length G0] K [wr B0_0 p0.length d0_0 245 1 (p0.flatMap Ak) cur0] fun v Ln=>v=.int .u32 r.2/\Ln=[wr B0_0 p0.length d0_0 245 1 (r.1.flatMap Ak) cur0]/\True:=by
 have ha0':=Has.up0 ha0;refine CtK.mk 168 func345 rfl ntmps345 kr rfl ?_;intro Lf hKf;show T 168 _ [(0,.slice B0_0 p0.length d0_0),(1,.slice E0 p1.length G0)] ([wr B0_0 p0.length d0_0 245 1 (p0.flatMap Ak) cur0]++Lf);unfold Ll at hx;refine Y8 ?_;refine Ay (Gf rfl 245 underlying217) rfl ?_;refine Y4 ?_;refine T_dr [0,0,0,1,0,0,0,0,0,0,1,0,0,2] (.q 0 (.q 1 (.q 2 (.q 3 (.q 4 (.q 5 (.q 6 (.q 7 (.q 8 (.q 9 (.q 10 (.q 11 (.q 12 (.e 13 (.done) (.stop))))))))))))))) mixed kr kr ?_;refine Y2 ?_;obtain⟨x1,h2,hx3⟩:=Aq hx;refine Vk (k:=0) rfl dD (fun _=>rfl) h2 (fun b4 o0 j6 hA7 hj8 hl9 hm0 hp0=>?_);refine P_p rfl rfl (By rfl rfl hA7 (j:=j6) hj8 hl9 Gu) rfl ?_;refine P_q rfl rfl (Cd rfl hp0 (sb 0) rfl Gg) rfl ?_;refine P_p rfl rfl (Dq rfl kr underlying242) rfl ?_;refine P_p rfl rfl (Acg rfl rfl dD) rfl ?_;refine Y3 ?_;obtain⟨x0,h0,hx0⟩:=Aq hx3;refine Vk (k:=0) rfl dD (fun _=>rfl) h0 (fun b0 o1 j0 hA0 hj0 hl0 hm1 hp1=>?_);refine P_p rfl rfl (By rfl rfl hA0 (j:=j0) hj0 hl0 Gu) rfl ?_;refine P_q rfl rfl (Cd rfl hp1 (sb 0) rfl Gg) rfl ?_;refine P_p rfl rfl (Dq rfl kr underlying242) rfl ?_;refine Y ?_;refine P_x rfl (Zd (Sk rfl) rfl ?_) ?_;rotate_left;exact Oh;refine Y8 ?_;obtain⟨x2,h1,hx1⟩:=Aq hx0;obtain⟨b1,o2,j1,hA1,hj1,hl1,hp2⟩:=Has.at_idx ha0' h1;refine Ay (By rfl rfl hA1 (j:=j1) hj1 hl1 Gu) rfl ?_;refine Ay (Cd rfl hp2 (SubE.appC (SubE.tail hKf) SubE.nil) rfl Gg) rfl ?_;refine Ay (Dq rfl kr underlying242) rfl ?_;obtain⟨h3,hx2⟩:=Dv hx1;refine Ay (Aer rfl rfl h3) rfl ?_;refine Y9 ?_;obtain⟨x3,h4,hx4⟩:=Aq hx2;obtain⟨b2,o3,j2,hA2,hj2,hl2,hp3⟩:=Has.at_idx ha0' h4;refine Ay (By rfl rfl hA2 (j:=j2) hj2 hl2 Gu) rfl ?_;refine Ay (Cd rfl hp3 (SubE.appC (SubE.tail hKf) SubE.nil) rfl Gg) rfl ?_;refine Ay (Dq rfl kr underlying242) rfl ?_;obtain⟨h5,hx5⟩:=Dv hx4;refine Ay (Akg rfl rfl h5) rfl ?_;refine Y3 ?_;refine Tj (γ:=Unit) hx5 (fun s6 y6=>[(0,.slice B0_0 p0.length d0_0),(1,.slice E0 p1.length G0),(5,.int .i64 (p1.length:Int)),(7,.int .u64 s6)]) (fun s6 y6=>[wr B0_0 p0.length d0_0 245 1 (p0.flatMap Ak) cur0]++Lf) (fun s6 y6=>True) (fun s6 y6 hx6 hG0=>?_) (fun j6 hx5=>?_)
 .refine Y6 ?_;refine Tj (γ:=Unit) hx6 (fun s0 y0=>[(0,.slice B0_0 p0.length d0_0),(1,.slice E0 p1.length G0),(5,.int .i64 (p1.length:Int)),(7,.int .u64 s6),(9,.int .u64 s0.2.1),(10,.int .u64 s0.2.2)]) (fun s0 y0=>[wr B0_0 p0.length d0_0 245 1 (s0.1.flatMap Ak) cur0]++Lf) (fun s0 y0=>True) (fun s0 y0 hx7 hG1=>?_) (fun j0 hx6=>?_)
  .refine Y4 ?_;obtain⟨x4,h6,hx8⟩:=Aq hx7;refine Vk (k:=0) rfl dD (fun _=>rfl) h6 (fun b3 o4 j3 hA3 hj3 hl3 hm2 hp4=>?_);refine Ay (By rfl rfl hA3 (j:=j3) hj3 hl3 Gu) rfl ?_;refine Ay (Cd rfl hp4 (sb 0) rfl Gg) rfl ?_;refine Ay (Dq rfl kr underlying242) rfl ?_;refine Y12 ?_;refine Ay (Nb rfl kr underlying245) rfl ?_;obtain⟨x5,h7,hx9⟩:=Aq hx8;refine Vk (k:=0) rfl dD (fun _=>rfl) h7 (fun b5 o5 j4 hA4 hj4 hl4 hm3 hp5=>?_);refine Ay (By rfl rfl hA4 (j:=j4) hj4 hl4 Gu) rfl ?_;refine T_h (Aat Ak s0.1 (p1.length:Int) (wu32 (wu64 ((wu64 ((wu64 x4)-s0.2.2))-s0.2.1))) rfl rfl rfl (.here) hA4 rfl hj4 hl4 (fun _=>rfl) dD rfl Gg.2 ?_);refine Y6 ?_;refine Ay (Xx rfl rfl dD) rfl ?_;refine Y3 ?_;refine Ti hx9 (s:=133) rfl (fun h8 hx10=>?_) (fun h8 hx11=>?_)
   .refine Y4 ?_;refine Ay (Nb rfl kr underlying245) rfl ?_;refine Y5 ?_;obtain rfl:=oI hx10;exact Aor (rs:=[.tmp 4]) results345 (.tmp rfl (.nil)) (Ln:=[wr B0_0 p0.length d0_0 245 1 ((setI s0.1 (p1.length:Int) (wu32 (wu64 ((wu64 ((wu64 x4)-s0.2.2))-s0.2.1)))).flatMap Ak) cur0]) ⟨rfl,rfl,trivial⟩ (by exact .pick 0 rfl (.refl))
   .refine Y8 ?_;refine Tj (γ:=Unit) hx11 (fun s1 y1=>[(0,.slice B0_0 p0.length d0_0),(5,.int .i64 (p1.length:Int)),(7,.int .u64 s6),(15,.int .u32 s1.2)]) (fun s1 y1=>[wr B0_0 p0.length d0_0 245 1 (s1.1.flatMap Ak) cur0]++Lf) (fun s1 y1=>True) (fun s1 y1 hx12 hG2=>?_) (fun j2 hx11=>?_)
    .refine Y4 ?_;obtain⟨x6,h9,hx13⟩:=Aq hx12;refine Vk (k:=0) rfl dD (fun _=>rfl) h9 (fun b6 o6 j5 hA5 hj5 hl5 hm4 hp6=>?_);refine Ay (By rfl rfl hA5 (j:=j5) hj5 hl5 Gu) rfl ?_;refine Ay (Cd rfl hp6 (sb 0) rfl Gg) rfl ?_;refine Y2 ?_;obtain⟨x7,h10,hx14⟩:=Aq hx13;refine Vk (k:=0) rfl dD (fun _=>rfl) h10 (fun b7 o7 j7 hA6 hj6 hl6 hm5 hp7=>?_);refine Ay (By rfl rfl hA6 (j:=j7) hj6 hl6 Gu) rfl ?_;refine T_h (Aat Ak s1.1 (p1.length:Int) (wu32 (x6+s1.2)) rfl rfl rfl (.here) hA6 rfl hj6 hl6 (fun _=>rfl) dD rfl Gg.2 ?_);refine Y6 ?_;refine Ay (Nb rfl kr underlying245) rfl ?_;refine Y4 ?_;obtain rfl:=oI hx14;exact Aor (rs:=[.tmp 4]) results345 (.tmp rfl (.nil)) (Ln:=[wr B0_0 p0.length d0_0 245 1 ((setI s1.1 (p1.length:Int) (wu32 (x6+s1.2))).flatMap Ak) cur0]) ⟨rfl,rfl,trivial⟩ (by exact .pick 0 rfl (.refl))
    .refine Y3 ?_;refine Ay (Gf rfl 245 underlying217) rfl ?_;refine Y4 ?_;obtain⟨t0,hl7,ho0⟩:=Aq hx11;refine Lp (σ:=LI×Int×Int) (γ:=Unit) hl7 (fun s2 y2=>[(0,.slice B0_0 p0.length d0_0),(1,.slice E0 p1.length G0),(5,.int .i64 (p1.length:Int)),(7,.int .u64 s6),(15,.int .u32 s2.2.1),(137,.int .i64 (p1.length:Int)),(138,.int .i64 s2.2.2)]) (fun s2 y2=>[wr B0_0 p0.length d0_0 245 1 (s2.1.flatMap Ak) cur0]++Lf) (fun s2 y2=>True) () trivial (by exact .pick 0 rfl (.refl)) ?_;intro s2 y2 hG3 x8 hx16 ht0;unfold Gc at hx16;refine Y6 ?_;refine Ti hx16 (s:=139) rfl (fun h11 hx17=>?_) (fun h11 hx18=>?_)
     .refine Y11 ?_;refine T_dr [0,0,0,0,0,1,0,0,0,1,0,2,0,0,0,0,3,2] (.q 0 (.q 1 (.q 2 (.q 3 (.q 4 (.q 5 (.q 6 (.q 7 (.q 8 (.q 9 (.q 10 (.e 11 (.q 12 (.q 13 (.q 14 (.q 15 (.e 16 (.e 17 (.done) (.stop)) (.stop)))))) (.stop))))))))))))) mixed kr kr ?_;refine Y4 ?_;obtain⟨x9,h12,hx19⟩:=Aq hx17;refine Vk (k:=0) rfl dD (fun _=>rfl) h12 (fun b8 o8 j8 hA8 hj7 hl8 hm6 hp8=>?_);refine P_p rfl rfl (By rfl rfl hA8 (j:=j8) hj7 hl8 Gu) rfl ?_;refine P_q rfl rfl (Cd rfl hp8 (sb 0) rfl Gg) rfl ?_;refine Y2 ?_;obtain⟨x10,h13,hx20⟩:=Aq hx19;obtain⟨b9,o9,j9,hA9,hj9,hl10,hp9⟩:=Has.at_idx ha0' h13;refine P_p rfl rfl (By rfl rfl hA9 (j:=j9) hj9 hl10 Gu) rfl ?_;refine P_q rfl rfl (Cd rfl hp9 (SubE.appC (SubE.tail hKf) SubE.nil) rfl Gg) rfl ?_;refine Y ?_;obtain⟨r0,h15,hx21⟩:=Aq hx20;refine Pc (fun w1 hw1=>Ab9 x9 x10 s2.2.1  h15 w1) ?_;refine Y3 ?_;obtain⟨x11,h16,hx22⟩:=Aq hx21;refine Vk (k:=0) rfl dD (fun _=>rfl) h16 (fun b10 o10 j10 hA10 hj10 hl11 hm7 hp11=>?_);refine P_p rfl rfl (By rfl rfl hA10 (j:=j10) hj10 hl11 Gu) rfl ?_;refine P_h rfl rfl (Aat Ak s2.1 s2.2.2 r0.1 rfl rfl rfl (.here) hA10 rfl hj10 hl11 (fun _=>rfl) dD rfl Gg.2 ?_) ?_;rotate_left;exact Oh;refine P_x rfl (Zd (Sk rfl) rfl ?_) ?_;rotate_left;exact Oh;refine Y7 ?_;exact Rp (setI s2.1 s2.2.2 r0.1,r0.2,w64 (s2.2.2+1)) () hx22 trivial (by exact .pick 0 rfl (.refl))
     .refine Y3 ?_;obtain rfl:=Mg ht0 hx18;refine Y2 ?_;exact Mt (s2.1,s2.2.1) () ho0 trivial (by exact .pick 0 rfl (.refl))
  .refine Y3 ?_;refine Ay (Gf rfl 245 underlying217) rfl ?_;refine Y4 ?_;obtain⟨t1,hl12,ho1⟩:=Aq hx6;refine Lp (σ:=LI×Int×Int×Int) (γ:=Unit) hl12 (fun s3 y3=>[(0,.slice B0_0 p0.length d0_0),(1,.slice E0 p1.length G0),(5,.int .i64 (p1.length:Int)),(7,.int .u64 s6),(9,.int .u64 s3.2.1),(10,.int .u64 s3.2.2.1),(83,.int .i64 (p1.length:Int)),(84,.int .i64 s3.2.2.2)]) (fun s3 y3=>[wr B0_0 p0.length d0_0 245 1 (s3.1.flatMap Ak) cur0]++Lf) (fun s3 y3=>True) () trivial (by exact .pick 0 rfl (.refl)) ?_;intro s3 y3 hG4 x12 hx23 ht1;unfold Ij at hx23;refine Y6 ?_;refine Ti hx23 (s:=85) rfl (fun h17 hx24=>?_) (fun h17 hx25=>?_)
   ·(iterate 16 refine Y ?_);obtain⟨x14,h18,hx26⟩:=Aq hx24;obtain⟨b11,o12,j11,hA11,hj11,hl13,hp12⟩:=Has.at_idx ha0' h18;refine Ay (By rfl rfl hA11 (j:=j11) hj11 hl13 Gu) rfl ?_;refine Ay (Cd rfl hp12 (SubE.appC (SubE.tail hKf) SubE.nil) rfl Gg) rfl ?_;refine Ay (Dq rfl kr underlying242) rfl ?_;refine Y9 ?_;refine Ay (Xx rfl rfl dD) rfl ?_;refine Y7 ?_;obtain⟨x15,h19,hx28⟩:=Aq hx26;refine Vk (k:=0) rfl dD (fun _=>rfl) h19 (fun b12 o13 j12 hA12 hj12 hl14 hm8 hp13=>?_);refine Ay (By rfl rfl hA12 (j:=j12) hj12 hl14 Gu) rfl ?_;refine Ay (Cd rfl hp13 (sb 0) rfl Gg) rfl ?_;refine Ay (Dq rfl kr underlying242) rfl ?_;refine Y ?_;refine Ay (Nb rfl kr underlying245) rfl ?_;refine Ay (Dq rfl kr underlying242) rfl ?_;refine Y11 ?_;refine Ay (Nb rfl kr underlying245) rfl ?_;obtain⟨x16,h20,hx29⟩:=Aq hx28;refine Vk (k:=0) rfl dD (fun _=>rfl) h20 (fun b13 o14 j14 hA13 hj13 hl15 hm9 hp14=>?_);refine Ay (By rfl rfl hA13 (j:=j14) hj13 hl15 Gu) rfl ?_;refine T_h (Aat Ak s3.1 s3.2.2.2 (wu32 (wu64 ((wu64 ((wu64 x15)-(wu64 (wu32 (wu64 ((wu64 (s6*(wu64 x14)))+s3.2.2.1))))))-s3.2.1))) rfl rfl rfl (.here) hA13 rfl hj13 hl15 (fun _=>rfl) dD rfl Gg.2 ?_)
    refine Y4 ?_;refine Ay (Xx rfl rfl dD) rfl ?_;refine Y8 ?_;exact Rp (setI s3.1 s3.2.2.2 (wu32 (wu64 ((wu64 ((wu64 x15)-(wu64 (wu32 (wu64 ((wu64 (s6*(wu64 x14)))+s3.2.2.1))))))-s3.2.1))),shr_ .u64 (wu64 ((wu64 ((wu64 x15)-(wu64 (wu32 (wu64 ((wu64 (s6*(wu64 x14)))+s3.2.2.1))))))-s3.2.1)) 63,shr_ .u64 (wu64 ((wu64 (s6*(wu64 x14)))+s3.2.2.1)) 32,w64 (s3.2.2.2+1)) () hx29 trivial (by exact .pick 0 rfl (.refl))
   .refine Y3 ?_;obtain rfl:=Mg ht1 hx25;refine Y2 ?_;exact Mt (s3.1,s3.2.1,s3.2.2.1) () ho1 trivial (by exact .pick 0 rfl (.refl))
 .refine Y ?_;obtain⟨t2,hl93,ho2⟩:=Aq hx5;refine Lp (σ:=Int×Int) (γ:=Unit) hl93 (fun s4 y4=>[(0,.slice B0_0 p0.length d0_0),(1,.slice E0 p1.length G0),(5,.int .i64 (p1.length:Int)),(7,.int .u64 s4.1),(8,.int .u64 s4.2)]) (fun s4 y4=>[wr B0_0 p0.length d0_0 245 1 (p0.flatMap Ak) cur0]++Lf) (fun s4 y4=>True) () trivial (by exact .pick 0 rfl (.refl)) ?_;intro s4 y4 hG5 x93 hx93 ht2;unfold Jm at hx93;refine Y ?_;refine Tj (γ:=Unit) hx93 (fun s5 y5=>[(0,.slice B0_0 p0.length d0_0),(1,.slice E0 p1.length G0),(5,.int .i64 (p1.length:Int)),(7,.int .u64 s4.1),(8,.int .u64 s4.2),(69,.bool s5)]) (fun s5 y5=>[wr B0_0 p0.length d0_0 245 1 (p0.flatMap Ak) cur0]++Lf) (fun s5 y5=>True) (fun s5 y5 hx30 hG6=>?_) (fun j13 hx93=>?_)
  .refine Nm (s:=69) rfl (fun h21=>?_) (fun h21=>?_)
   .have hx31:=Qc h21 hx30;(iterate 17 refine Y ?_);obtain⟨x17,h22,hx32⟩:=Aq hx31;obtain⟨b14,o15,j15,hA14,hj14,hl16,hp15⟩:=Has.at_idx ha0' h22;refine Ay (By rfl rfl hA14 (j:=j15) hj14 hl16 Gu) rfl ?_;refine Ay (Cd rfl hp15 (SubE.appC (SubE.tail hKf) SubE.nil) rfl Gg) rfl ?_;refine Ay (Dq rfl kr underlying242) rfl ?_;refine Y10 ?_;refine Ti hx32 (s:=81) rfl (fun h23 hx33=>?_) (fun h23 hx34=>?_)
    .refine Y2 ?_;refine Aw2 rfl ?_;obtain rfl:=Mg ht2 hx33;refine Y2 ?_;exact Mt (wu64 (s4.1-1)) () ho2 trivial (by exact .pick 0 rfl (.refl))
    .refine Y3 ?_;exact Rp (wu64 (s4.1-1),wu64 (s4.2+(wu64 x17))) () hx34 trivial (by exact .pick 0 rfl (.refl))
   .have hx35:=Sq h21 hx30;refine Y3 ?_;obtain rfl:=Mg ht2 hx35;refine Y2 ?_;exact Mt s4.1 () ho2 trivial (by exact .pick 0 rfl (.refl))
  .refine T_dr [0,0,0,0,0,0,0,0,1,0,0,0,0,0,0,0,0,1,0,0,0,0] (.q 0 (.q 1 (.q 2 (.q 3 (.q 4 (.q 5 (.q 6 (.q 7 (.q 8 (.q 9 (.q 10 (.q 11 (.q 12 (.q 13 (.q 14 (.q 15 (.q 16 (.q 17 (.q 18 (.q 19 (.q 20 (.q 21 (.done))))))))))))))))))))))) mixed kr kr ?_;refine Y3 ?_;refine Ti hx93 (s:=50) rfl (fun h94 hx95=>?_) (fun h94 hx96=>?_)
   ·(iterate 20 refine Y ?_);exact Mt true () hx95 trivial (by exact .pick 0 rfl (.refl))
   .refine Y4 ?_;obtain⟨x97,h98,hx99⟩:=Aq hx96;obtain⟨b15,o16,j16,hA15,hj15,hl17,hp16⟩:=Has.at_idx ha0' h98;refine P_pG rfl rfl rfl rfl rfl (By rfl rfl hA15 (j:=j16) hj15 hl17 Gu) rfl ?_;refine P_qG rfl rfl rfl rfl rfl (Cd rfl hp16 (SubE.appC (SubE.tail hKf) SubE.nil) rfl Gg) rfl ?_;refine P_pG rfl rfl rfl rfl rfl (Dq rfl kr underlying242) rfl ?_;refine Y2 ?_;refine P_pG rfl rfl rfl rfl rfl (Acg rfl rfl dD) rfl ?_;refine Y3 ?_;obtain⟨x18,h24,hx37⟩:=Aq hx99;refine Vk (k:=0) rfl dD (fun _=>rfl) h24 (fun b17 o17 j17 hA16 hj16 hl18 hm10 hp17=>?_);refine P_pG rfl rfl rfl rfl rfl (By rfl rfl hA16 (j:=j17) hj16 hl18 Gu) rfl ?_;refine P_qG rfl rfl rfl rfl rfl (Cd rfl hp17 (sb 0) rfl Gg) rfl ?_;refine P_pG rfl rfl rfl rfl rfl (Dq rfl kr underlying242) rfl ?_;refine Y4 ?_;exact Mt (decide ((Fb .u64 (shl_ .u64 s4.2 32) (wu64 x18))<(wu64 (s4.1*(wu64 x97))))) () hx37 trivial (by exact .pick 0 rfl (.refl))
theorem Tn(p0:LI)(p1:LI){K:LE}{E0:OA}{G0:Nat}{E1:OA}{G1:Nat}(ha0:Has K E0 p0.length G0 1 Ak p0)(ha1:Has K E1 p1.length G1 1 Ak p1){r:LI×LI}(hx:Fq p0 p1=some r)(w:World)(hK:∀e∈K,Ent.ok w e):CtL prog 289 [.slice E0 p0.length G0,.slice E1 p1.length G1] w fun v Ln=>∃(A0:OA) (c0:Nat) (A2:OA) (c2:Nat) (e0:Ent) (e1:Ent) (e2:Ent),v=.tuple #[.slice A0 r.1.length c0,.slice A2 r.2.length c2]/\Ln=[e0,e1,e2]/\Has (K++[e0,e1,e2]) A0 r.1.length c0 1 Ak r.1/\Has (K++[e0,e1,e2]) A2 r.2.length c2 1 Ak r.2/\True:=by
 have ha0':=Has.up0 ha0;have ha1':=Has.up0 ha1;refine CtL.mk 88 func289 rfl ntmps289 kr rfl ?_;show T 88 _ [(0,.slice E0 p0.length G0),(1,.slice E1 p1.length G1)] _;unfold Fq at hx;refine Y11 ?_;obtain⟨r1,h2,hx3⟩:=Aq hx;refine Tc (fun w1 hw1=>Xq p0 p1 (Has.len' ha0') (Has.len' ha1') h2 w1 (Zf (K:=K) (K2:=[]) hK (by exact (sb 0)) (by exact SubE.nil) hw1)) ?_;refine Y3 ?_;refine Ti hx3 (s:=16) rfl (fun h4 hx5=>?_) (fun h4 hx6=>?_)
 .refine Y10 ?_;refine Bf 0 1 ?_;refine Bf 0 1 ?_;refine Bf 0 1 ?_;obtain rfl:=oI hx5;exact Kf (rs:=[.tmp 4,.tmp 5]) results289 (.tmp rfl (.tmp rfl (.nil))) (Ln:=[.r none 0 0 0 1 [],.r none 0 0 0 1 [],.r none 0 0 0 1 []]) ⟨none,0,E0,G0,(.r none 0 0 0 1 []),(.r none 0 0 0 1 []),(.r none 0 0 0 1 []),rfl,rfl,Has.nil,Has.len' (Has.up (L:=(K++[.r none 0 0 0 1 [],.r none 0 0 0 1 [],.r none 0 0 0 1 []])) ha0' (SubE.app2 SubE.nil)),trivial⟩ (Cj rfl (Cj rfl (Cj rfl Iz))) (by exact .pick 2 rfl (.pick 1 rfl (.pick 0 rfl (.refl))))
 .refine Y7 ?_;refine Ay (Gf rfl 245 underlying217) rfl ?_;refine Y3 ?_;refine Ti hx6 (s:=20) rfl (fun h7 hx8=>?_) (fun h7 hx0=>?_)
  .refine Y5 ?_;obtain⟨x9,h0,hx1⟩:=Aq hx8;have hw0:=Has.low (E:=[]) ha1' hK;obtain⟨b0,o0,j0,hA0,hj0,hl0,hp0⟩:=Has.at_idx hw0 h0;refine Ay (By rfl rfl hA0 (j:=j0) hj0 hl0 Gu) rfl ?_;refine Ay (Cd rfl hp0 (sb 0) rfl Gg) rfl ?_;obtain⟨r0,h1,hx2⟩:=Aq hx1;refine T_x (Gl rfl (fun w1 hw1=>Acl p0 x9 (Has.len' ha0') h1 w1 (Zf (K:=K) (K2:=[]) hK (by exact (sb 0)) (by exact SubE.nil) hw1)) rfl ?_);rintro _ _ hlo ⟨A1,c1,e3,rfl,rfl,hs0,-⟩;have lo27:=hlo e3 s_;refine Qd ?_;have hs1:Has (K++[e3]) _ _ _ _ _ _:=Has.assoc hs0;refine Y11 ?_;refine Ay (Dq rfl kr underlying242) rfl ?_;obtain⟨r2,h3,hx4⟩:=Aq hx2;refine T_x (Gl rfl (fun w1 hw1=>Aaf (wu64 r0.2)  h3 w1) rfl ?_);rintro _ _ hlo ⟨A3,c3,e4,rfl,rfl,hs2,-⟩;have lo36:=hlo e4 s_;refine Qd ?_;refine Y6 ?_;refine Bf 0 1 ?_;obtain rfl:=oI hx4;exact Kf (rs:=[.tmp 4,.tmp 5]) results289 (.tmp rfl (.tmp rfl (.nil))) (Ln:=[e3,e4,.r none 0 0 0 1 []]) ⟨A1,c1,A3,c3,e3,e4,(.r none 0 0 0 1 []),rfl,rfl,Has.len' (Has.up (L:=(K++[e3,e4,.r none 0 0 0 1 []])) hs1 (SubE.app2 (sb 0))),Has.len' (Has.up (L:=(K++[e3,e4,.r none 0 0 0 1 []])) hs2 (SubE.appR2 (sb 1))),trivial⟩ (Cj lo27 (Cj lo36 (Cj rfl Iz))) (by exact .pick 2 rfl (.pick 1 rfl (.pick 0 rfl (.refl))))
  .refine Y7 ?_;refine Ay (Gf rfl 245 underlying217) rfl ?_;refine Y ?_;obtain⟨x0,h5,hx7⟩:=Aq hx0;have hw2:=Has.low (E:=[]) ha1' hK;obtain⟨b1,o1,j1,hA1,hj1,hl1,hp1⟩:=Has.at_idx hw2 h5;refine Ay (By rfl rfl hA1 (j:=j1) hj1 hl1 Gu) rfl ?_;refine Ay (Cd rfl hp1 (sb 0) rfl Gg) rfl ?_;obtain⟨r3,h6,hx9⟩:=Aq hx7;refine Tc (fun w1 hw1=>Um x0  h6 w1) ?_;refine Y7 ?_;obtain⟨r4,h8,hx54⟩:=Aq hx9;refine T_x (Gl rfl (fun w1 hw1=>Wy p1 r3 (Has.len' ha1') h8 w1 (Zf (K:=K) (K2:=[]) hK (by exact (sb 0)) (by exact SubE.nil) hw1)) rfl ?_);rintro _ _ hlo ⟨A4,c4,rfl,rfl,-⟩;refine Qd ?_;refine Y7 ?_;obtain⟨r5,h9,hx59⟩:=Aq hx54;refine T_x (Gl rfl (fun w1 hw1=>Wy p0 r3 (Has.len' ha0') h9 w1 (Zf (K:=K) (K2:=[]) hK (by exact (sb 1)) (by exact SubE.nil) hw1)) rfl ?_);rintro _ _ hlo ⟨A5,c5,rfl,rfl,-⟩;refine Qd ?_;refine T_x (Gx rfl (Tx _) rfl (fun g0=>?_));obtain⟨h63,hx64⟩:=Dv hx59;refine T_h (Rw Ak r5 [0] rfl rfl rfl Ani (fun _=>rfl) (i':=0) rfl rfl rfl rfl h63 rfl (fun _ _=>.there (.here)) (fun _ _=>.drop .refl) dD (fun A6 c6=>?_));refine Y3 ?_;refine Tj (γ:=OA×Nat) hx64 (fun s0 y0=>[(8,.int .i64 r3),(9,.slice A4 r4.length c4),(10,.slice y0.1 s0.length y0.2)]) (fun s0 y0=>[.r y0.1 s0.length y0.2 245 1 (s0.flatMap Ak),.r A4 r4.length c4 245 1 (r4.flatMap Ak)]++[.old w]) (fun s0 y0=>True) (fun s0 y0 hx75 hG0=>?_) (fun j2 hx64=>?_)
   .refine Y3 ?_;refine Ay (Gf rfl 245 underlying217) rfl ?_;refine Y ?_;refine Ay (Gf rfl 245 underlying217) rfl ?_;refine Y ?_;obtain⟨h78,hx79⟩:=Dv hx75;refine T_x (Zj Ak 0 (z:=.int .u32 0) rfl rfl rfl h78.1 underlying217 (kr:prog.info? 245=some t245) kr rfl rfl kr (show 4*_<=_ from h78.2) dD rfl (fun A7=>?_));refine Y3 ?_;refine Tj (γ:=OA×Nat×OA×Nat) hx79 (fun s1 y1=>[(8,.int .i64 r3),(10,.slice y1.1 s1.1.length y1.2.1),(11,.slice y1.2.2.1 s1.2.length y1.2.2.2)]) (fun s1 y1=>[.r y1.2.2.1 s1.2.length y1.2.2.2 245 1 (s1.2.flatMap Ak),.r y1.1 s1.1.length y1.2.1 245 1 (s1.1.flatMap Ak)]++[.old w]) (fun s1 y1=>True) (fun s1 y1 hx10 hG1=>?_) (fun j3 hx79=>?_)
    .refine Y3 ?_;refine Abt (k:=0) rfl dD (fun _=>rfl) (fun hn0 hs3=>?_);obtain⟨r6,h11,hx12⟩:=Aq hx10;refine T_x (Gl rfl (fun w1 hw1=>Wc s1.2 (Has.len' hs3) h11 w1 (Ad9 (K:=([.r y1.2.2.1 s1.2.length y1.2.2.2 245 1 (s1.2.flatMap Ak)]:LE)) (by exact (sb 0)) hw1)) rfl ?_);rintro _ _ hlo ⟨A8,c7,rfl,rfl,hs4,-⟩;refine Adk ?_;refine Y ?_;refine Abt (k:=1) rfl dD (fun _=>rfl) (fun hn1 hs5=>?_);obtain⟨r7,h12,hx13⟩:=Aq hx12;refine T_x (Gl rfl (fun w1 hw1=>Wc s1.1 (Has.len' hs5) h12 w1 (Ad9 (K:=([.r y1.1 s1.1.length y1.2.1 245 1 (s1.1.flatMap Ak)]:LE)) (by exact (sb 1)) hw1)) rfl ?_);rintro _ _ hlo ⟨A9,c8,rfl,rfl,hs6,-⟩;refine Adk ?_;refine Y ?_;obtain⟨r8,h13,hx14⟩:=Aq hx13;refine T_x (Gl rfl (fun w1 hw1=>Adp r7 r3 (Has.len' hs6) h13 w1 (Ad9 (K:=([.r y1.1 s1.1.length y1.2.1 245 1 (s1.1.flatMap Ak)]:LE)) (by exact (sb 1)) hw1)) rfl ?_);rintro _ _ hlo ⟨A10,c9,e5,rfl,rfl,hs7,-⟩;have lo171:=hlo e5 s_;refine Qd ?_;have hs8:Has ([.r y1.1 s1.1.length y1.2.1 245 1 (s1.1.flatMap Ak),e5]:LE) _ _ _ _ _ _:=id hs7;refine Y5 ?_;obtain rfl:=oI hx14;exact Kf (rs:=[.tmp 4,.tmp 5]) results289 (.tmp rfl (.tmp rfl (.nil))) (Ln:=[.r y1.2.2.1 s1.2.length y1.2.2.2 245 1 (s1.2.flatMap Ak),.r y1.1 s1.1.length y1.2.1 245 1 (s1.1.flatMap Ak),e5]) ⟨A8,c7,A10,c9,(.r y1.2.2.1 s1.2.length y1.2.2.2 245 1 (s1.2.flatMap Ak)),(.r y1.1 s1.1.length y1.2.1 245 1 (s1.1.flatMap Ak)),e5,rfl,rfl,Has.len' (Has.up (L:=(K++[.r y1.2.2.1 s1.2.length y1.2.2.2 245 1 (s1.2.flatMap Ak),.r y1.1 s1.1.length y1.2.1 245 1 (s1.1.flatMap Ak),e5])) hs4 (SubE.appR2 (sb 0))),Has.len' (Has.up (L:=(K++[.r y1.2.2.1 s1.2.length y1.2.2.2 245 1 (s1.2.flatMap Ak),.r y1.1 s1.1.length y1.2.1 245 1 (s1.1.flatMap Ak),e5])) hs8 (SubE.appR2 (SubE.cons2 (i:=1) rfl (sb 2)))),trivial⟩ (Cj rfl (Cj rfl (Cj lo171 Iz))) (by exact .pick 1 rfl (.pick 1 rfl (.pick 0 rfl (.refl))))
    .refine Y3 ?_;refine Ay (Gf rfl 245 underlying217) rfl ?_;refine Y5 ?_;obtain⟨t0,hl2,ho0⟩:=Aq hx79;refine Lp (σ:=LI×LI×Int) (γ:=OA×Nat×OA×Nat) hl2 (fun s2 y2=>[(8,.int .i64 r3),(9,.slice A4 r4.length c4),(10,.slice y2.1 s2.1.length y2.2.1),(11,.slice y2.2.2.1 s2.2.1.length y2.2.2.2),(12,.int .i64 s2.2.2)]) (fun s2 y2=>[.r y2.2.2.1 s2.2.1.length y2.2.2.2 245 1 (s2.2.1.flatMap Ak),.r y2.1 s2.1.length y2.2.1 245 1 (s2.1.flatMap Ak),.r A4 r4.length c4 245 1 (r4.flatMap Ak)]++[.old w]) (fun s2 y2=>True) (y0.1,y0.2,A7,(List.replicate (Int.toNat (w64 ((s0.length:Int)-(r4.length:Int)))) (0:Int)).length) trivial (by exact .pick 0 rfl (.pick 0 rfl (.pick 0 rfl (.refl)))) ?_;intro s2 y2 hG2 x1 hx15 ht0;unfold Hb at hx15;refine Y7 ?_;refine Ti hx15 (s:=66) rfl (fun h14 hx16=>?_) (fun h14 hx17=>?_)
     .refine Y12 ?_;refine Ay (Gf rfl 245 underlying217) rfl ?_;refine Y2 ?_;refine Abt (k:=1) rfl dD (fun _=>rfl) (fun hn2 hs9=>?_);obtain⟨h15,hx18⟩:=Dv hx16;have hs10:=Has.sub hs9 h15.1 h15.2.1 h15.2.2;refine Ay (Ax6 rfl rfl rfl Gu h15.1 h15.2.1 (by have:=Has.nc hs9;omega)) rfl ?_;refine Y ?_;refine Ze (s:=78) (v':=.slice (slA y2.1 y2.2.1 (Int.toNat s2.2.2) 1) ((subl s2.1 s2.2.2 (w64 ((w64 (s2.2.2+(r4.length:Int)))+1))).length) (y2.2.1-Int.toNat s2.2.2)) rfl (by have hn3:(Int.toNat (w64 ((w64 (s2.2.2+(r4.length:Int)))+1))-Int.toNat s2.2.2)=(subl s2.1 s2.2.2 (w64 ((w64 (s2.2.2+(r4.length:Int)))+1))).length:=(Has.len hs10).symm;first|(rw[<-hn3];done)|rfl) ?_;obtain⟨h16,hx19⟩:=Dv hx18;refine Bbr (i:=s2.2.2) (j:=w64 ((w64 (s2.2.2+(r4.length:Int)))+1)) (Has.len hs10) (fun _=>.there (.here)) h15.1 h16 h15.2.2 dD (fun _=>rfl) (fun cu123 hb124=>?_);refine Abt (k:=2) rfl dD (fun _=>rfl) (fun hn4 hs11=>?_);obtain⟨r9,h17,hx20⟩:=Aq hx19;refine T_h (Adb rfl (by exact .pick 1 rfl (.refl)) (by exact (sb 1)) (Acm (subl s2.1 s2.2.2 (w64 ((w64 (s2.2.2+(r4.length:Int)))+1))) r4 (Has.len' hs11) h17 (K:=([.r A4 r4.length c4 245 1 (r4.flatMap Ak)]:LE))) rfl ?_);rintro _ _ ⟨rfl,rfl,-⟩;refine Qd ?_;refine Avn (l':=r9.1) (Has.len hs10) hb124 (.here) dD (fun _=>rfl) (fun hn5=>?_);obtain⟨x2,h18,hx21⟩:=Aq hx20;refine Aft (k:=1) rfl dD (fun _=>rfl) h18 (fun b2 j4 hA2 hj2 hl3 hm0 hp2=>?_);refine Ay (By rfl rfl hA2 (j:=j4) hj2 hl3 Gu) rfl ?_;refine T_h (Aan Ak s2.2.1 s2.2.2 r9.2 rfl rfl rfl (.there (.here)) hA2 rfl hj2 hl3 (fun _=>rfl) dD rfl Gg.2 ?_);refine Y8 ?_;have hn6:s2.2.1.length=(setI s2.2.1 s2.2.2 r9.2).length:=by simp[Je,Qx,length_append] <;> omega
      refine Wt (.there (.here)) (e':=.r y2.2.2.1 ((setI s2.2.1 s2.2.2 r9.2).length) y2.2.2.2 245 1 ((setI s2.2.1 s2.2.2 r9.2).flatMap Ak)) (by first|(rw[<-hn6];done)|rfl) ?_;have hn7:s2.1.length=(putl s2.1 s2.2.2 (w64 ((w64 (s2.2.2+(r4.length:Int)))+1)) r9.1).length:=hn5;refine Wt (.here) (e':=.r y2.1 ((putl s2.1 s2.2.2 (w64 ((w64 (s2.2.2+(r4.length:Int)))+1)) r9.1).length) y2.2.1 245 1 ((putl s2.1 s2.2.2 (w64 ((w64 (s2.2.2+(r4.length:Int)))+1)) r9.1).flatMap Ak)) (by first|(rw[<-hn7];done)|rfl) ?_;refine Ze (s:=10) (v':=.slice y2.1 ((putl s2.1 s2.2.2 (w64 ((w64 (s2.2.2+(r4.length:Int)))+1)) r9.1).length) y2.2.1) rfl (by have hn8:s2.1.length=(putl s2.1 s2.2.2 (w64 ((w64 (s2.2.2+(r4.length:Int)))+1)) r9.1).length:=hn5;first|(rw[<-hn8];done)|rfl) ?_;refine Ze (s:=11) (v':=.slice y2.2.2.1 ((setI s2.2.1 s2.2.2 r9.2).length) y2.2.2.2) rfl (by have hn9:s2.2.1.length=(setI s2.2.1 s2.2.2 r9.2).length:=(by simp[Je,Qx,length_append] <;> omega);first|(rw[<-hn9];done)|rfl) ?_;exact Rp (putl s2.1 s2.2.2 (w64 ((w64 (s2.2.2+(r4.length:Int)))+1)) r9.1,setI s2.2.1 s2.2.2 r9.2,w64 (s2.2.2-1)) (y2.1,y2.2.1,y2.2.2.1,y2.2.2.2) hx21 trivial (by exact .pick 1 rfl (.pick 0 rfl (.pick 0 rfl (.refl))))
     .refine Y3 ?_;obtain rfl:=Mg ht0 hx17;refine Y2 ?_;exact Mt (s2.1,s2.2.1) (y2.1,y2.2.1,y2.2.2.1,y2.2.2.2) ho0 trivial (by exact .pick 0 rfl (.pick 0 rfl (.drop 0 rfl (.refl))))
   .refine Y3 ?_;refine Ay (Gf rfl 245 underlying217) rfl ?_;refine Y ?_;refine Ay (Gf rfl 245 underlying217) rfl ?_;refine Y3 ?_;refine Ti hx64 (s:=52) rfl (fun h67 hx68=>?_) (fun h67 hx74=>?_)
    .refine Y3 ?_;refine T_x (Gx rfl (Tx _) rfl (fun g1=>?_));obtain⟨h70,hx71⟩:=Dv hx68;refine T_h (Rw Ak (r5++[0]) [0] rfl rfl rfl Ani (fun _=>rfl) (i':=0) rfl rfl rfl rfl h70 rfl (fun _ _=>.there (.here)) (fun _ _=>.drop .refl) dD (fun A72 c73=>?_));refine Y2 ?_;exact Mt ((r5++[0])++[0]) (A72,c73) hx71 trivial (by exact .pick 0 rfl (.pick 0 rfl (.refl)))
    .refine Y2 ?_;exact Mt (r5++[0]) (A6,c6) hx74 trivial (by exact .pick 0 rfl (.pick 0 rfl (.refl)))
instance(p0:LI)(p1:LI):ConB (Fq p0 p1) prog 289 (fun K vs=>∃E0 G0 E1 G1,vs=[.slice E0 p0.length G0,.slice E1 p1.length G1]/\Has K E0 p0.length G0 1 Ak p0/\Has K E1 p1.length G1 1 Ak p1/\True) (fun K r v Ln=>∃A0 c0 A2 c2 e,v=.tuple #[.slice A0 r.1.length c0,.slice A2 r.2.length c2]/\Ln=[e]/\Has (K++[e]) A0 r.1.length c0 1 Ak r.1/\Has (K++[e]) A2 r.2.length c2 1 Ak r.2/\True):=⟨by
 rintro K _ r ⟨E0,G0,E1,G1,rfl,ha0,ha1,-⟩ hx w hK;exact CtL.bunB (Tn p0 p1 ha0 ha1 hx w hK) (by
  rintro _ _ w1 hw ⟨_,_,_,_,_,_,_,rfl,rfl,_,_,-⟩;exact⟨_,_,_,_,_,rfl,rfl,hZ hw,hZ hw,trivial⟩)⟩
end
end Go.Proofs.YtlejkgngmjchdaaGreat
