/- Texts Ab11, Ab12, Ab13, Ab14, Ab15, Ab16, Ab17, Ab18 in one. -/
import Derived.Test.YtjmnbpilnneonaaGreatDoorM1
set_option linter.unusedVariables false
set_option linter.unusedSimpArgs false
set_option maxRecDepth 10000
namespace Go.Proofs.YtjmnbpilnneonaaGreatDoor
open Go.RowKit
variable {E:Prg}{st st':St}{w:World}{T:ay}{P:Program}{G:Gh}{C:Ctx}{a:Act}{ops:Array Oper}{d:DV}{f n k t j i:Nat}{K K':DV->ay->Prop}{dr:Bool}{args:List DV}{o:Oper}{ps:List Opd}{listed:Array Bool}
def cellsOf (G:Gh)(T:ay)(x:Addr):Prop:=∃k ob p m,T[k]?=some (some ob)/\G.pl k=some p/\m<p.cap*p.sz/\x=p.cellAt m
def bP (E:Prg)(f:Nat)(args:List DV)(T:ay)(R:DV->ay->Prop):Prop:=
 ∀(G:Gh) (w:World) (vs:Array Value),GlobOk E G->sU G T w->vs.size=args.length->(∀(i:Nat) d,args[i]?=some d->Rel G d (vs.getD i undef))->
  Calls E.P f vs w fun e w'=>∃v r T' G',e=.returned v/\R r T'/\T.length<=T'.length/\Rel G' r v/\sU G' T' w'/\Frm ⟨w,G,cellsOf G T,0⟩ G' T' w'
theorem bP.mono {R R':DV->ay->Prop}(h:bP E f args T R)(hR:∀r T',R r T'->R' r T'):bP E f args T R':=
 fun G w vs h1 h2 h3 h4=>Calls.mono (h G w vs h1 h2 h3 h4) fun e w' ⟨v,r,T',G',a,b,c⟩=>⟨v,r,T',G',a,hR _ _ b,c⟩
def av (E:Prg)(f:Nat)(args:List DV)(R:Nat->DV->ay->Prop):Prop:=
 ∀n,bP E f args (List.replicate n none) fun r T'=>∃os,T'=List.replicate n none++os/\R n r os
structure mO (T T1 T1' T':ay):Prop where
 len:T'.length=T1'.length
 aeE:T1.length=T.length
 sub:∀(k:Nat) (ob:Ob),T1[k]?=some (some ob)->T[k]?=some (some ob)
 over:∀(k:Nat) (ob ob':Ob),T1[k]?=some (some ob)->T'[k]?=some (some ob')->T1'[k]?=some (some ob')
 kept:∀(k:Nat) (ob':Ob),k<T.length->(∀ob,T1[k]?≠some (some ob))->T'[k]?=some (some ob')->T[k]?=some (some ob')\/T1'[k]?=some (some ob')
 new:∀(k:Nat) (ob':Ob),T.length<=k->T'[k]?=some (some ob')->T1'[k]?=some (some ob')
theorem dz.called {G':Gh}{w':World}{T1 T1' T':ay}(h:dz E C G st a w)(hm:mO st.au T1 T1' T')(hh:sU G' T1' w')(hf:Frm ⟨w,G,cellsOf G T1,0⟩ G' T1' w')(hlen:st.au.length<=T1'.length) :
  dz E C G' { st with au:=T'} a w':=by
 have hle:G.le G':=hf.le
 have hsz:=h.frm.size
 have aef:=hf.size
 have hold:∀k ob p,st.au[k]?=some (some ob)->(∀ob,T1[k]?≠some (some ob))->G.pl k=some p->∀m,m<p.cap*p.sz->p.block<w.heap.size/\¬cellsOf G T1 (p.cellAt m):=by
  intro k ob p hk hn hp m hm'
  obtain ⟨q,hq,hl⟩:=h.heap.live k ob hk
  obtain rfl:q=p:=sj (hq.symm.trans hp)
  refine ⟨hl.mM hm',fun ⟨k2,ob2,p2,m2,h1,h2,h3,h4⟩=>?_⟩
  exact h.heap.sep k k2 ob ob2 q p2 m m2 hk (hm.sub k2 ob2 h1) (fun e=>by subst e;exact hn _ h1) hp h2 hm' h3 h4
 have dL:∀(k:Nat) (ob':Ob),T'[k]?=some (some ob')->(T1'[k]?=some (some ob')/\True)\/(k<st.au.length/\(∀ob,T1[k]?≠some (some ob))/\st.au[k]?=some (some ob')):=by
  intro k ob' hk
  by_cases hlt:k<st.au.length
  ·by_cases hal:∃ob,T1[k]?=some (some ob)
   ·obtain ⟨ob,hob⟩:=hal
    exact .inl ⟨hm.over k ob ob' hob hk,trivial⟩
   ·have adq:∀ob,T1[k]?≠some (some ob):=fun ob hob=>hal ⟨ob,hob⟩
    rcases hm.kept k ob' hlt adq hk with h5 | h5
    ·exact .inr ⟨hlt,adq,h5⟩
    ·exact .inl ⟨h5,trivial⟩
  ·exact .inl ⟨hm.new k ob' (by omega) hk,trivial⟩
 have Tu:∀k ob p m,T1'[k]?=some (some ob)->G'.pl k=some p->m<p.cap*p.sz->w.heap.size<=p.block\/cellsOf G T1 (p.cellAt m):=hf.mine
 have hpl:∀k ob p,st.au[k]?=some (some ob)->G'.pl k=some p->G.pl k=some p:=fun k ob p hk hp=>by
  obtain ⟨q,hq,_⟩:=h.heap.live k ob hk
  rw[hle.pl k q hq] at hp
  rw[hq,hp]
 refine ⟨fun t=>(h.env t).mono hle,h.num,h.defs,⟨?_, ?_, ?_,hh.rdv, ?_⟩,⟨hf.os.trans h.frm.os,hf.tape.trans h.frm.tape,hf.output.trans h.frm.output,Nat.le_trans hsz aef, ?_, ?_, ?_, ?_, ?_,h.frm.le.trans hle,fun b hb h1=>hf.mko b (by simp only;omega) (h.frm.mko b hb h1)⟩,fun g row hg=>(h.qf g row hg).mono hle⟩
 ·intro k p hp
  have:=hh.pls k p hp
  simp only
  rw[hm.len];exact this
 ·intro k ob' hk
  rcases dL k ob' hk with ⟨h1,_⟩ | ⟨hlt,hn,h1⟩
  ·exact hh.live k ob' h1
  ·obtain ⟨p,hp,hl⟩:=h.heap.live k ob' h1
   refine ⟨p,hle.pl _ _ hp,hl.mono hle (fun m hm'=>?_) (fun m hm'=>?_) (fun h0 h2=>hf.mko _ (hl.mM h0) h2)⟩
   ·obtain ⟨h2,h3⟩:=hold k ob' p h1 hn hp m hm'
    exact hf.cell _ h2 h3
   ·obtain ⟨h2,h3⟩:=hold k ob' p h1 hn hp m hm'
    obtain ⟨v,hv,_⟩:=hl.there m hm'
    exact hf.frz _ v hv h3
 ·intro k k' r r' p p' m m' hk hk' hne hp hp' hm1 hm2 e
  rcases dL k r hk with ⟨h1,_⟩ | ⟨hlt,hn,h1⟩ <;> rcases dL k' r' hk' with ⟨h1',_⟩ | ⟨hlt',hn',h1'⟩
  ·exact hh.sep k k' r r' p p' m m' h1 h1' hne hp hp' hm1 hm2 e
  ·obtain ⟨h2,h3⟩:=hold k' r' p' h1' hn' (hpl k' r' p' h1' hp') m' hm2
   rcases Tu k r p m h1 hp hm1 with h4 | h4
   ·have:p.block=p'.block:=congrArg Addr.block e
    omega
   ·rw[e] at h4;exact h3 h4
  ·obtain ⟨h2,h3⟩:=hold k r p h1 hn (hpl k r p h1 hp) m hm1
   rcases Tu k' r' p' m' h1' hp' hm2 with h4 | h4
   ·have:p.block=p'.block:=congrArg Addr.block e
    omega
   ·rw[<-e] at h4;exact h3 h4
  ·exact h.heap.sep k k' r r' p p' m m' h1 h1' hne (hpl k r p h1 hp) (hpl k' r' p' h1' hp') hm1 hm2 e
 ·intro k r p m hk hp hm1
  rcases dL k r hk with ⟨h1,_⟩ | ⟨hlt,hn,h1⟩
  ·exact hh.rds k r p m h1 hp hm1
  ·have hp0:=hpl k r p h1 hp
   obtain ⟨h2,h3⟩:=hold k r p h1 hn hp0 m hm1
   cases hrd:G'.rd (p.cellAt m) with
   | none=>rfl
   | some v=>
    rcases hf.rdn _ v hrd with h4 | h4 | h4
    ·rw[h.heap.rds k r p m h1 hp0 hm1] at h4;cases h4
    ·have:(p.cellAt m).block=p.block:=rfl
     simp only at h4
     omega
    ·exact absurd h4 h3
 ·intro b hb hn
  rw[<-h.frm.blk b hb hn]
  refine hf.blk b (by simp only;omega) (fun o ⟨k,ob,p,m,h1,h2,h3,h4⟩=>?_)
  rcases h.frm.mine k ob p m (hm.sub k ob h1) h2 h3 with h5 | h5
  ·have:b=p.block:=congrArg Addr.block h4
   omega
  ·exact hn o (h4 ▸ h5)
 ·intro x hx hn
  rw[<-h.frm.cell x hx hn]
  refine hf.cell x (by simp only;omega) (fun ⟨k,ob,p,m,h1,h2,h3,h4⟩=>?_)
  rcases h.frm.mine k ob p m (hm.sub k ob h1) h2 h3 with h5 | h5
  ·have:x.block=p.block:=congrArg Addr.block h4
   omega
  ·exact hn (h4 ▸ h5)
 ·intro x v hx hn
  have hxb:=World.block_lt_of_cell? _ _ hx
  rw[<-h.frm.frz x v hx hn]
  refine hf.frz x v ((h.frm.cell x hxb hn).trans hx) (fun ⟨k,ob,p,m,h1,h2,h3,h4⟩=>?_)
  rcases h.frm.mine k ob p m (hm.sub k ob h1) h2 h3 with h5 | h5
  ·have:x.block=p.block:=congrArg Addr.block h4
   omega
  ·exact hn (h4 ▸ h5)
 ·intro k r p m hk hp hm1
  rcases dL k r hk with ⟨h1,_⟩ | ⟨hlt,hn,h1⟩
  ·rcases Tu k r p m h1 hp hm1 with h4 | ⟨k2,ob2,p2,m2,h5,h6,h7,h8⟩
   ·left;omega
   ·rcases h.frm.mine k2 ob2 p2 m2 (hm.sub k2 ob2 h5) h6 h7 with h9 | h9
    ·left
     have:p.block=p2.block:=congrArg Addr.block h8
     omega
    ·right;rw[h8];exact h9
  ·exact h.frm.mine k r p m h1 (hpl k r p h1 hp) hm1
 ·intro x v hx
  rcases hf.rdn x v hx with h4 | h4 | ⟨k2,ob2,p2,m2,h5,h6,h7,h8⟩
  ·exact h.frm.rdn x v h4
  ·right;left;simp only at h4;omega
  ·rcases h.frm.mine k2 ob2 p2 m2 (hm.sub k2 ob2 h5) h6 h7 with h9 | h9
   ·right;left
    have:x.block=p2.block:=congrArg Addr.block h8
    omega
   ·right;right;rw[h8];exact h9
theorem sU.sub {T1:ay}(h:sU G T w)(hl:T1.length=T.length)(hs:∀(k:Nat) (ob:Ob),T1[k]?=some (some ob)->T[k]?=some (some ob)):sU G T1 w:=
 ⟨fun k p hp=>by rw[hl];exact h.pls k p hp,fun k ob hk=>h.live k ob (hs k ob hk),fun k k' r r' p p' m m' hk hk'=>h.sep k k' r r' p p' m m' (hs k r hk) (hs k' r' hk'),h.rdv,fun k r p m hk=>h.rds k r p m (hs k r hk)⟩
theorem dm {ob:Ob}(h:(List.replicate n (none:Option Ob))[k]?=some (some ob)):False:=by
 rw[List.getElem?_replicate] at h
 split at h <;> simp at h
theorem mO.pure (T os:ay):mO T (List.replicate T.length none) (List.replicate T.length none++os) (T++os):=by
 refine ⟨by simp,by simp,fun k ob h=>(dm h).elim,fun k ob ob' h=>(dm h).elim,fun k ob' hk _ h=>?_,fun k ob' hk h=>?_⟩
 ·rw[List.getElem?_append_left hk] at h;exact .inl h
 ·rw[List.getElem?_append_right hk] at h
  rw[List.getElem?_append_right (by simpa using hk)]
  simpa using h
theorem mO.one (T os:ay)(k:Nat)(ob:Ob)(x:Option Ob)(hk:T[k]?=some (some ob)) :
  mO T ((List.replicate T.length none).set k (some ob)) ((List.replicate T.length none).set k x++os) (T.set k x++os):=by
 have hlt:k<T.length:=(List.getElem?_eq_some_iff.1 hk).1
 have hT1:∀(j:Nat) (o:Ob),((List.replicate T.length (none:Option Ob)).set k (some ob))[j]?=some (some o)->j=k/\o=ob:=fun j o h=>by
  rw[getElem?_set] at h
  by_cases e:k=j
  ·subst e
   rw[if_pos rfl,if_pos (by simpa using hlt)] at h
   exact ⟨rfl,by simpa using h.symm⟩
  ·rw[if_neg e] at h;exact (dm h).elim
 refine ⟨by simp,by simp,fun j o h=>?_,fun j o o' h h'=>?_,fun j o' hj hn h=>?_,fun j o' hj h=>?_⟩
 ·obtain ⟨rfl,rfl⟩:=hT1 j o h;exact hk
 ·obtain ⟨rfl,rfl⟩:=hT1 j o h
  rw[List.getElem?_append_left (by simpa using hlt),getElem?_set,if_pos rfl,if_pos hlt] at h'
  rw[List.getElem?_append_left (by simpa using hlt),getElem?_set,if_pos rfl,if_pos (by simpa using hlt)]
  exact h'
 ·rw[List.getElem?_append_left (by simpa using hj),getElem?_set] at h
  by_cases e:k=j
  ·subst e
   exact absurd (by rw[getElem?_set,if_pos rfl,if_pos (by simpa using hlt)]) (hn ob)
  ·rw[if_neg e] at h;exact .inl h
 ·rw[List.getElem?_append_right (by simpa using hj)] at h
  rw[List.getElem?_append_right (by simpa using hj)]
  simpa using h
theorem mO.all {T1':ay}:mO T T T1' T1':=⟨rfl,rfl,fun _ _ h=>h,fun _ _ _ _ h=>h,fun _ _ _ _ h=> .inr h,fun _ _ _ h=>h⟩
inductive Res where
 | t (n:Nat)
 | c (n:Nat) (ag:Bool) (sz:Nat)
def Res.ev (st:St):Res->Option DV
 | .t n=>some (st.get n)
 | .c n ag sz=>match st.get n with
  | .ptr o i j=>match st.au[o]? with
   | some (some ob)=>match ob.rows[i]? with
    | some row=>rowAt ag sz row j
    | none=>none
   | _=>none
  | .rp row j=>rowAt ag sz row j
  | _=>none
def Gu (st:St):List Res->Option (List DV)
 | []=>some []
 | r::l=>match r.ev st,Gu st l with
  | some d,some ds=>some (d::ds)
  | _,_=>none
def e7 (st:St)(l:List Res):Option DV:=
 match Gu st l with
 | some [d]=>some d
 | some ds=>some (.tup ds)
 | none=>none
def C0 (P:Program):List ResultVar->List Res->Prop
 | [],[]=>True
 | .tmp t::l,.t n::l'=>t=n/\C0 P l l'
 | .cell t ty::l,.c n ag sz::l'=>t=n/\qj P ty=some ag/\cX P ty=some sz/\C0 P l l'
 | _,_=>False
theorem Gt {E : Prg} {C : Ctx} {G : Gh} {st : St} {a : Act} {w : World} (hr : dz E C G st a w) : ∀ (l : List ResultVar) (l' : List Res) (ds : List DV), C0 E.P l l' -> Gu st l' = some ds ->
    ∃ vs : List Value, ((l.mapM fun
    | .tmp t => pure (a.tmps.getD t undef)
    | .cell x t => do loadVar t (<- asAddr (a.tmps.getD x undef))) : Sem (List Value)).run E.P w = .ok vs w /\ vs.length = ds.length /\ ∀ (i : Nat) d v, ds[i]? = some d -> vs[i]? = some v -> Rel G d v
  | [], [], ds, _, h => by
    obtain rfl := sj h
    exact ⟨[], rfl, rfl, by simp⟩
  | r :: l, r' :: l', ds, hok, h => by
    simp only[Gu] at h
    split at h
    · rename_i d ds' hd hds
      obtain rfl := sj h
      have key : C0 E.P l l' /\ ∃ v, ((match r with
          | .tmp t => pure (a.tmps.getD t undef)
          | .cell x t => do loadVar t (<- asAddr (a.tmps.getD x undef))) : Sem Value).run E.P w = .ok v w /\ Rel G d v := by
        cases r with
        | tmp t =>
          cases r' with
          | t n =>
            obtain ⟨rfl, Ts⟩ := hok
            obtain rfl := sj hd
            exact ⟨Ts, _, rfl, hr.env t⟩
          | c n ag sz => exact hok.elim
        | cell x ty =>
          cases r' with
          | t n => exact hok.elim
          | c n ag sz =>
            obtain ⟨rfl, h1, h2, Ts⟩ := hok
            refine ⟨Ts, ?_⟩
            have r1 := hr.env x
            generalize hu : a.tmps.getD x undef = u at r1
            simp only[Res.ev] at hd
            split at hd
            · rename_i ob i j e1
              rw[e1] at r1
              split at hd
              · rename_i b hb
                split at hd
                · rename_i row hrow
                  obtain ⟨p, _, _, rfl, hA⟩ := sF hr.heap hb hrow r1
                  obtain ⟨v, hv1, hv2⟩ := oa h1 h2 hA hd
                  exact ⟨v, by simp only[hu, asAddr, Sem.run_bind, Sem.run_pure, Result.andThen_ok, hv1], hv2⟩
                · cases hd
              · cases hd
            · rename_i row j e1
              rw[e1] at r1
              obtain ⟨A, rfl, _, hA⟩ := zO hr.heap r1
              obtain ⟨v, hv1, hv2⟩ := oa h1 h2 hA hd
              exact ⟨v, by simp only[hu, asAddr, Sem.run_bind, Sem.run_pure, Result.andThen_ok, hv1], hv2⟩
            · cases hd
      obtain ⟨Ts, v, hv1, hv2⟩ := key
      obtain ⟨vs, hvs, hl, dh⟩ := Gt hr l l' ds' Ts hds
      refine ⟨v :: vs, ?_, by simp[hl], fun i d' v' hd' hv' => ?_⟩
      · simp only[List.mapM_cons, Sem.run_bind, hvs, Result.andThen_ok, Sem.run_pure]
        erw [hv1]
        simp only[Result.andThen_ok]
        erw [hvs]
        rfl
      · rcases i with _ | i
        · simp at hd' hv'; subst hd' hv'; exact hv2
        · exact dh i d' v' (by simpa using hd') (by simpa using hv')
    · cases h
  | [], _ :: _, _, hok, _ => hok.elim
  | r :: _, [], _, hok, _ => by cases r <;> exact hok.elim
theorem NL (hr:dz E C G st a w){fn:Func}{l':List Res}{d:DV}(hok:C0 E.P fn.results.toList l')(h:e7 st l'=some d) :
  ∃v,(results fn a.tmps).run E.P w=.ok v w/\Rel G d v:=by
 unfold e7 at h
 have main:∀ds,Gu st l'=some ds->∃vs:Array Value,(results fn a.tmps).run E.P w=.ok (if h:vs.size=1 then vs[0] else .tuple vs) w/\vs.size=ds.length/\∀(i:Nat) d,ds[i]?=some d->Rel G d (vs.getD i undef):=by
  intro ds hds
  obtain ⟨vs,hvs,hl,dh⟩:=Gt hr fn.results.toList l' ds hok hds
  refine ⟨vs.toArray, ?_,by simpa using hl,fun i d hd=>?_⟩
  ·unfold results
   rw[<-Array.toArray_toList (xs:=fn.results),List.mapM_toArray]
   simp only[Sem.run_bind,Sem.run_map,Result.andThen_ok,Sem.run_pure]
   erw [hvs]
   rfl
  ·have hi:i<vs.length:=by rw[hl];exact (List.getElem?_eq_some_iff.1 hd).1
   rw[fS _ i vs[i] (by simp[hi])]
   exact dh i d _ hd (List.getElem?_eq_getElem hi)
 split at h
 ·rename_i d0 hds
  obtain rfl:=sj h
  obtain ⟨vs,h1,h2,h3⟩:=main _ hds
  have hs:vs.size=1:=by simpa using h2
  refine ⟨vs[0],by rw[h1,dif_pos hs], ?_⟩
  have:=h3 0 d0 rfl
  rw[Array.getD_eq_getD_getElem?,Array.getElem?_eq_getElem (by omega)] at this
  exact this
 ·rename_i ds hne hds
  obtain rfl:=sj h
  obtain ⟨vs,h1,h2,h3⟩:=main _ hds
  have hs:vs.size≠1:=fun hs=>by
   rw[hs] at h2
   match ds,h2 with
   | [d],_=>exact hne d rfl
  exact ⟨.tuple vs,by rw[h1,dif_neg hs],.tup ds vs h2 h3⟩
 ·cases h
structure bH where
 dst:Option Nat
 op:ROp
 guard:Option (Nat × Bool)
 fz:Bool
inductive OT where
 | done
 | mid (o:bH) (k:OT)
 | op (o:bH) (k:OT)
 | take (o:bH) (ps:List Opd) (k:OT)
 | alt (a b:OT)
inductive RC where
 | skip
 | reg (ops:List bH) (lo:Nat) (keep:List Nat)
 | cJ (t:OT) (lo:Nat) (keep:List Nat)
 | seq (a b:RC)
 | cond (c:Opd) (t e:RC)
 | blk (id:Nat) (b:RC)
 | loop (b:RC)
 | ext (id:Nat)
 | ret
def Fb (P:Program)(fs:Array Field):List (Nat × Operand)->Option (List (Nat × Nat × Opd))
 | []=>some []
 | (i,x)::l=>match fs[i]?,bV x,Fb P fs l with
  | some f,some y,some l'=>some ((f.offset,P.cellsOf f.type,y)::l')
  | _,_,_=>none
def zn (sz:Nat):List (Nat × Operand)->Option (List (Nat × Nat × Opd))
 | []=>some []
 | (i,x)::l=>match bV x,zn sz l with
  | some y,some l'=>some ((i*sz,sz,y)::l')
  | _,_=>none
def zo:List (Nat × Operand)->Option (List (Nat × Opd))
 | []=>some []
 | (i,x)::l=>match bV x,zo l with
  | some y,some l'=>some ((i,y)::l')
  | _,_=>none
def nv:List Operand->Option (List Opd)
 | []=>some []
 | x::l=>match bV x,nv l with
  | some y,some l'=>some (y::l')
  | _,_=>none
theorem ou {E:Prg}{C:Ctx}{G:Gh}{st:St}{a:Act}{w:World}(hr:dz E C G st a w):∀{l:List Operand} {l':List Opd},nv l=some l'->l.length=l'.length/\∀(i:Nat) d,(l'.map (Opd.ev E st))[i]?=some d->Rel G d ((l.map a.eval).toArray.getD i undef)
 | [],l',h=>by
  obtain rfl:=sj h
  exact ⟨rfl,by simp⟩
 | x::l,l',h=>by
  simp only[nv] at h
  split at h
  ·rename_i y l2 h1 h2
   obtain rfl:=sj h
   obtain ⟨h3,h4⟩:=ou hr h2
   refine ⟨by simp[h3],fun i d hd=>?_⟩
   rcases i with _ | i
   ·simp at hd;subst hd
    rw[fS _ 0 (a.eval x) (by simp)]
    exact hr.ev h1
   ·have hd':(l2.map (Opd.ev E st))[i]?=some d:=by simpa using hd
    have:=h4 i d hd'
    have hi:i<l.length:=by rw[h3];simpa using (List.getElem?_eq_some_iff.1 hd').1
    rw[fS _ i (a.eval l[i]) (by simp[hi])] at this
    rw[fS _ (i+1) (a.eval l[i]) (by simp[hi])]
    exact this
  ·cases h
def oM (P:Program)(t:TypeId):Option TypeId:=match P.underlying t with | some (.slice e)=>some e | _=>none
def isSlice (P:Program)(t:TypeId):Bool:=(oM P t).isSome
def isStr (P:Program)(t:TypeId):Bool:=match P.underlying t with | some .string=>true | _=>false
def SY (P:Program)(t:TypeId):Bool:=match P.underlying t with | some (.int .u8)=>true | _=>false
def uy (P:Program)(t:TypeId):Option (Array Field):=match P.underlying t with | some (.struct fs)=>some fs | _=>none
def D6 (P:Program)(t:TypeId):Option (Nat × TypeId):=match P.underlying t with | some (.array n e)=>some (n,e) | _=>none
def Mr (P : Program) (op : BinOp) (t : TypeId) (y1 y2 : Opd) : Option ROp :=
  match P.underlying t with
  | some (.int _) | some .string => some (.bin op y1 y2)
  | some .bool => (match op with | .eql => some (.eqB false y1 y2) | .neq => some (.eqB true y1 y2) | _ => none)
  | some (.slice _) => (match op with | .eql => some (.jM false y1 y2) | .neq => some (.jM true y1 y2) | _ => none)
  | some (.pointer _) => (match op with | .eql => some (.eqP false y1 y2) | .neq => some (.eqP true y1 y2) | _ => none)
  | some (.struct _) => (match xw P t with
    | some ks => (match op with | .eql => some (.eqS false ks y1 y2) | .neq => some (.eqS true ks y1 y2) | _ => none)
    | none => none)
  | _ => none
def HY (P:Program)(s d:TypeId)(y:Opd):Option ROp:=
 match P.underlying s,P.underlying d with
 | some (.int _),some (.int k)=>some (.conv (.i2i k) y)
 | some (.slice e),some .string=>if SY P e then some (.conv .b2s y) else none
 | some .string,some (.slice e)=>if SY P e then some (.conv .s2b y) else none
 | some .string,some .string=>some (.conv .s2s y)
 | some (.slice _),some (.slice e)=>if s=d/\SY P e then some (.conv .lit y) else none
 | _,_=>none
def ES (P:Program)(t:TypeId):Bool:=match P.underlying t with
 | some (.interface _)=>false
 | some _=>true
 | none=>false
theorem Dn {t:TypeId}(h:ES P t=true):∃k,P.underlying t=some k/\∀ms,k≠ .interface ms:=by
 unfold ES at h
 split at h
 ·cases h
 ·rename_i k hn hk;exact ⟨k,hk,fun ms e=>hn ms e⟩
 ·cases h
def fR (P:Program)(f:FuncId):Bool:=match P.funcs[f]? with
 | some fn => fn.body.isSome && !(fn.name == "runtime.NumGoroutine")
 | none=>false
def ROp.tT:ROp->Bool
 | .call ..=>true
 | .iP ..=>true
 | .inv ..=>true
 | _=>false
def AP (P : Program) (c : Call) : Option ROp :=
  match c.callee with
  | .value (.func f) => if fR P f then (nv c.args.toList).map (.call f) else none
  | .value (.tmp t) => (nv c.args.toList).map (.iP (.t t))
  | .invoke x name => (match bV x with
    | some y => (nv c.args.toList).map (.inv y name)
    | none => none)
  | .builtin .len => (match c.args.toList, c.argTypes.toList with
    | [x], [t] => (match bV x with
      | some y => if isSlice P t then some (.len y) else if isStr P t then some (.BV y) else none
      | none => none)
    | _, _ => none)
  | .builtin .append => (match c.args.toList, c.argTypes.toList with
    | [x1, x2], [t, t2] => (match bV x1, bV x2, oM P t with
      | some y1, some y2, some e => (match cX P e, yS P e, lu P e with
        | some sz, some by_, some z => if z.length = sz /\ (isSlice P t2 = true \/ isStr P t2 = true) then some (.append sz by_ y1 y2) else none
        | _, _, _ => none)
      | _, _, _ => none)
    | _, _ => none)
  | .builtin .copy => (match c.args.toList, c.argTypes.toList with
    | [x1, x2], [t, t2] => (match bV x1, bV x2, oM P t with
      | some y1, some y2, some e => (cX P e).map fun sz => .copy sz y1 y2
      | _, _, _ => none)
    | _, _ => none)
  | .builtin .min => (match c.args.toList with
    | [x1, x2] => (match bV x1, bV x2 with
      | some y1, some y2 => some (.mm false y1 y2)
      | _, _ => none)
    | _ => none)
  | .builtin .max => (match c.args.toList with
    | [x1, x2] => (match bV x1, bV x2 with
      | some y1, some y2 => some (.mm true y1 y2)
      | _, _ => none)
    | _ => none)
  | _ => none
def AN (P : Program) (o : Op) : Option ROp :=
  match o with
  | .move x => (bV x).map .mov
  | .assign x => (bV x).map .mov
  | .pick c a b => (match bV c, bV a, bV b with
    | some c, some a, some b => some (.pick c a b)
    | _, _, _ => none)
  | .alloc t => (lu P t).map .alloc
  | .box t x => (match cX P t, bV x with
    | some sz, some y => some (.box sz y)
    | _, _ => none)
  | .build t parts => (match uy P t, lu P t with
    | some fs, some z => if fs.toList.all (fun f => (P.info? f.type).isSome) then (Fb P fs parts.toList).map (.build z) else none
    | none, some z => (match D6 P t with
      | some (_, e) => (match cX P e with
        | some sz => (zn sz parts.toList).map (.build z)
        | none => none)
      | none => none)
    | _, _ => none)
  | .buildSlice t len parts => (match oM P t with
    | some e => (match cX P e, lu P e, zo parts.toList with
      | some sz, some z, some ps => if z.length = sz /\ len * sz <= 16777216 then some (.bK sz z len ps) else none
      | _, _, _ => none)
    | none => none)
  | .load t x => (match qj P t, cX P t, bV x with
    | some ag, some sz, some y => some (.load ag sz y)
    | _, _, _ => none)
  | .store t p x => (match cX P t, bV p, bV x with
    | some sz, some y1, some y2 => some (.store sz y1 y2)
    | _, _, _ => none)
  | .nilCheck x => (bV x).map .aF
  | .binOp op t x y _ => (match bV x, bV y with
    | some y1, some y2 => Mr P op t y1 y2
    | _, _ => none)
  | .unOp op _ x => (bV x).map (.un op)
  | .convert s d x => (match bV x with
    | some y => HY P s d y
    | none => none)
  | .slice t x lo hi mx => (match bV x, v7 lo, v7 hi, v7 mx with
    | some y, some lo', some hi', some mx' => (match oM P t with
      | some e => (match cX P e with
        | some sz => if mx.isSome = true -> hi.isSome = true then some (.slice sz y lo' hi' mx') else none
        | none => none)
      | none => if isStr P t = true /\ mx.isNone = true then some (.lC y lo' hi') else none)
    | _, _, _, _ => none)
  | .fieldAddr t x f => (match uy P t, bV x with
    | some fs, some y => (match fs[f]? with
      | some fd => (match cX P fd.type with
        | some n => if n = 0 then none else some (.p9 fd.offset y)
        | none => none)
      | none => none)
    | _, _ => none)
  | .field t x f => (match uy P t, bV x with
    | some fs, some y => (match fs[f]? with
      | some fd => (match qj P fd.type, cX P fd.type with
        | some ag, some n => some (.fld ag fd.offset n y)
        | _, _ => none)
      | none => none)
    | _, _ => none)
  | .indexAddr t x i => (match bV x, bV i with
    | some y1, some y2 => (match oM P t with
      | some e => (cX P e).map fun sz => .aT sz y1 y2
      | none => (match D6 P t with
        | some (len, e) => (cX P e).map fun sz => .iz len sz y1 y2
        | none => none))
    | _, _ => none)
  | .index t x i => (match bV x, bV i with
    | some y1, some y2 => if isStr P t then some (.yK y1 y2) else none
    | _, _ => none)
  | .extract x i => (bV x).map fun y => .ext y i
  | .makeSlice t n c => (match bV n, bV c, oM P t with
    | some y1, some y2, some e => (match cX P e, yS P e, lu P e with
      | some sz, some b, some z => some (.fY sz b z y1 y2)
      | _, _, _ => none)
    | _, _, _ => none)
  | .call c => AP P c
  | .makeFunc (.func f) first captured => if first.size = 0 then (nv captured.toList).map (.xg f) else none
  | .makeInterface t x => if ES P t then (bV x).map (.tg t) else none
  | .typeAssert x _ t false => if ES P t then (bV x).map (.B9 t) else none
  | _ => none
def Mp (n:Nat):Option Nat->Bool
 | some t=>decide (t<n)
 | none=>true
def mJ (P : Program) (n : Nat) (fz : List Nat) (ops : Array Oper) (o : Oper) : Option bH :=
  match AN P o.op with
  | some r => if Mp n o.dst = true then
      (match o.guard with
      | none => some ⟨o.dst, r, none, (match o.dst with | some t => fz.contains t | none => false)⟩
      | some (j, want) => (match (ops[j]?).bind (·.dst) with
        | some t => some ⟨o.dst, r, some (t, want), (match o.dst with | some t => fz.contains t | none => false)⟩
        | none => none)) else none
  | none => none
def lZ (P:Program)(n:Nat)(fz:List Nat)(ops:Array Oper):List Oper->Option (List bH)
 | []=>some []
 | o::l=>match mJ P n fz ops o,lZ P n fz ops l with
  | some r,some l'=>some (r::l')
  | _,_=>none
def Opd.tm:Opd->List Nat
 | .t n=> [n]
 | _=> []
def qA:Option Opd->List Opd
 | some x=> [x]
 | none=> []
def ROp.cZ:ROp->List Opd
 | .mov x | .box _ x | .load _ _ x | .aF x | .un _ x | .conv _ x | .p9 _ x | .fld _ _ _ x | .ext x _ | .len x | .BV x=> [x]
 | .pick c a b=> [c,a,b]
 | .alloc _=> []
 | .build _ parts=>parts.map (·.2.2)
 | .bK _ _ _ parts=>parts.map (·.2)
 | .store _ p x=> [p,x]
 | .bin _ x y | .eqB _ x y | .jM _ x y | .eqP _ x y | .eqS _ _ x y | .aT _ x y | .iz _ _ x y | .yK x y | .append _ _ x y | .copy _ x y | .mm _ x y=> [x,y]
 | .slice _ x lo hi mx=>x::(qA lo++qA hi++qA mx)
 | .lC x lo hi=>x::(qA lo++qA hi)
 | .fY _ _ _ n c=> [n,c]
 | .call _ l=>l
 | .iP y l=>y::l
 | .xg _ l=>l
 | .tg _ x | .B9 _ x=> [x]
 | .inv x _ l=>x::l
def ROp.tms (op:ROp):List Nat:=op.cZ.flatMap Opd.tm
def ROp.quiet:ROp->Bool
 | .box .. | .alloc .. | .bK .. | .store .. | .append .. | .copy .. | .fY .. | .call .. | .iP .. | .inv .. | .conv .s2b _ | .conv .lit _=>false
 | _=>true
def ROp.blind:ROp->Bool
 | .mov _ | .pick .. | .aF _ | .bin .. | .eqB .. | .jM .. | .eqP .. | .eqS .. | .un .. | .build .. | .conv (.i2i _) _ | .conv .s2s _ | .lC .. | .p9 .. | .fld .. | .iz .. | .yK .. | .ext .. | .len _ | .BV _ | .mm .. | .xg .. | .tg .. | .B9 ..=>true
 | _=>false
def ROp.wr:ROp->List Opd
 | .store _ p _=> [p]
 | .append _ _ x _=> [x]
 | .copy _ x _=> [x]
 | _=> []
def bH.looks (o:bH):List Nat:=o.op.tms++(match o.guard with | some (t,_)=> [t] | none=> [])
def bH.sets (o:bH):List Nat:=match o.dst with | some d=> [d] | none=> []
def oc (a b:List Nat):Bool:=a.all fun x=>!b.contains x
def Lc (x y:bH):Bool:=oc x.sets (y.looks++y.sets) && oc y.sets x.looks
def xC (ops:Array Oper)(i:Nat):List Nat:=
 match ops[i]? with
 | some o=>(o.after.toList.filter fun e=>Region.binds .any e).map (·.on)
 | none=> []
def Ku (acc:List Nat):List Nat->Nat->Nat
 | [],m=>m
 | k::l,m=>Ku acc l (m ||| (1 <<<k) ||| acc.getD k 0)
def sS (ops:Array Oper):Nat->List Nat
 | 0=> []
 | n+1=>sS ops n++ [Ku (sS ops n) (xC ops n) 0]
def D9 (ops:Array Oper)(anc:List Nat)(rl:List bH)(listed:Array Bool)(i:Nat):List bH:=
 ((List.range ops.size).filter fun j=>j !=i && !listed.getD j true && !(anc.getD j 0).testBit i).filterMap (rl[·]?)
def zE (ops : Array Oper) (anc : List Nat) (rl : List bH) (listed : Array Bool) (i : Nat) : Option (bH × List Opd) :=
  match rl[i]? with
  | some r =>
    let rv := D9 ops anc rl listed i
    if r.op.quiet && !r.fz && rv.all (fun y => Lc r y && !y.fz) then
      (if r.op.blind then some (r, []) else
        let ps := rv.flatMap fun y => y.op.wr
        if ps.all (fun p => rv.all fun y => oc p.tm y.sets) then some (r, ps) else none)
    else none
  | none => none
def sJ {α β:Type}(f:α->Option β):List α->Option (α × β)
 | []=>none
 | x::l=>match f x with
  | some y=>some (x,y)
  | none=>sJ f l
def A8 (g:Nat->Option OT):List Nat->Option OT
 | []=>none
 | [i]=>g i
 | i::l=>match g i,A8 g l with
  | some a,some b=>some (.alt a b)
  | _,_=>none
def Hj (ops : Array Oper) (anc : List Nat) (rl : List bH) (e : Nat) : Bool := (List.range ops.size).all fun i => i == e || (anc.getD e 0).testBit i || (anc.getD i 0).testBit e || (match rl[i]? with
  | some r => r.op.blind
  | none => false)
def SP (ops : Array Oper) (anc : List Nat) (rl : List bH) : List Nat :=
  (List.range ops.size).filter fun e => (match rl[e]? with
  | some r => r.op.tT
  | none => false) && Hj ops anc rl e
def AO (ops : Array Oper) (anc : List Nat) (rl : List bH) (en : List Nat) : Nat -> Array Bool -> Option OT
  | 0, listed => match Region.ready .any ops listed with
    | [] => some .done
    | _ => none
  | fuel + 1, listed => match Region.ready .any ops listed with
    | [] => some .done
    | rs => match sJ (zE ops anc rl listed) rs with
      | some (i, r, ps) => (AO ops anc rl en fuel (listed.setIfInBounds i true)).map (.take r ps)
      | none => A8 (fun i => match rl[i]? with
        | some r => if en.contains i = true then (AO ops anc rl en fuel (listed.setIfInBounds i true)).map (.mid r) else (AO ops anc rl en fuel (listed.setIfInBounds i true)).map (.op r)
        | none => none) rs
structure Ann where
 id:Nat
 lo:Nat
 keep:List Nat
 fz:List Nat
def yp (ann:List Ann)(id:Nat):Ann:=(ann.find? fun a=>a.id==id).getD ⟨id,1000000,[],[]⟩
def comp (P:Program)(n:Nat)(ann:List Ann):Code->Option RC
 | .skip=>some .skip
 | .region id ops draw=>match lZ P n (yp ann id).fz ops ops.toList with
  | some l=>if draw then (if P.follows .mixedOrders=true then (AO ops (sS ops ops.size) l (SP ops (sS ops ops.size) l) ops.size (Array.replicate ops.size false)).map fun t=> .cJ t (yp ann id).lo (yp ann id).keep else none)
   else some (.reg l (yp ann id).lo (yp ann id).keep)
  | none=>none
 | .seq a b=>match comp P n ann a,comp P n ann b with
  | some a',some b'=>some (.seq a' b')
  | _,_=>none
 | .cond c a b=>match bV c,comp P n ann a,comp P n ann b with
  | some y,some a',some b'=>some (.cond y a' b')
  | _,_,_=>none
 | .block id b=>(comp P n ann b).map (.blk id)
 | .loop b=>(comp P n ann b).map .loop
 | .exit id=>some (.ext id)
 | .ret=>some .ret
 | _=>none
theorem v8 {fz:List Nat}{r:bH}(h:mJ P n fz ops o=some r) :
  AN P o.op=some r.op/\r.dst=o.dst/\Mp n o.dst=true/\((r.guard=none/\o.guard=none)\/∃j t want,r.guard=some (t,want)/\o.guard=some (j,want)/\(ops[j]?).bind (·.dst)=some t):=by
 unfold mJ at h
 cases hop:AN P o.op with
 | none=>rw[hop] at h;cases h
 | some rop=>
  rw[hop] at h
  simp only at h
  by_cases hd:Mp n o.dst=true
  ·rw[if_pos hd] at h
   cases hg:o.guard with
   | none=>rw[hg] at h;obtain rfl:=sj h;exact ⟨rfl,rfl,hd,.inl ⟨rfl,rfl⟩⟩
   | some x=>
    obtain ⟨j,want⟩:=x
    rw[hg] at h
    simp only at h
    cases hj:(ops[j]?).bind (·.dst) with
    | none=>rw[hj] at h;cases h
    | some t=>rw[hj] at h;obtain rfl:=sj h;exact ⟨rfl,rfl,hd,.inr ⟨j,t,want,rfl,rfl,hj⟩⟩
  ·rw[if_neg hd] at h;cases h
theorem HV {d:Option Nat}(h:Mp n d=true):∀t,d=some t->t<n:=fun t e=>by subst e;exact of_decide_eq_true h
theorem yg {P:Program}{n:Nat}{fz:List Nat}{ops:Array Oper}:∀{l:List Oper} {rl:List bH},lZ P n fz ops l=some rl->rl.length=l.length/\∀(i:Nat) o r,l[i]?=some o->rl[i]?=some r->mJ P n fz ops o=some r
 | [],rl,h=>by obtain rfl:=sj h;simp
 | o::l,rl,h=>by
  simp only[lZ] at h
  split at h
  ·rename_i r l' h1 h2
   obtain rfl:=sj h
   obtain ⟨h3,h4⟩:=yg h2
   refine ⟨by simp[h3],fun i o' r' ho hr=>?_⟩
   rcases i with _ | i
   ·simp at ho hr;subst ho hr;exact h1
   ·exact h4 i o' r' (by simpa using ho) (by simpa using hr)
  ·cases h
theorem jX {t e:TypeId}(h:oM P t=some e):P.underlying t=some (.slice e):=by
 unfold oM at h;split at h
 ·rename_i e' he;obtain rfl:=sj h;exact he
 ·cases h
theorem tw {t:TypeId}{fs:Array Field}(h:uy P t=some fs):P.underlying t=some (.struct fs):=by
 unfold uy at h;split at h
 ·rename_i e' he;obtain rfl:=sj h;exact he
 ·cases h
theorem CN {t e:TypeId}(h:D6 P t=some (n,e)):P.underlying t=some (.array n e):=by
 unfold D6 at h;split at h
 ·rename_i he;obtain ⟨rfl,rfl⟩:=Prod.mk.inj (sj h);exact he
 ·cases h
theorem vO {t:TypeId}(h:isStr P t=true):P.underlying t=some .string:=by
 unfold isStr at h;split at h
 ·assumption
 ·cases h
theorem ER {t:TypeId}(h:SY P t=true):P.underlying t=some (.int .u8):=by
 unfold SY at h;split at h
 ·assumption
 ·cases h
theorem Ar {t:TypeId}(h:isSlice P t=true):∃e,P.underlying t=some (.slice e):=by
 obtain ⟨e,he⟩:=Option.isSome_iff_exists.1 h
 exact ⟨e,jX he⟩
theorem DH {P:Program}{fs:Array Field}:∀{l:List (Nat × Operand)} {l':List (Nat × Nat × Opd)},Fb P fs l=some l'->sG (fun i=>(fs[i]?).map fun f=>(f.offset,P.cellsOf f.type)) l l'
 | [],l',h=>by obtain rfl:=sj h;trivial
 | (i,x)::l,l',h=>by
  simp only[Fb] at h
  split at h
  ·rename_i f y l2 h1 h2 h3
   obtain rfl:=sj h
   exact ⟨by simp[h1],h2,DH h3⟩
  ·cases h
theorem A0 {sz:Nat}:∀{l:List (Nat × Operand)} {l':List (Nat × Nat × Opd)},zn sz l=some l'->sG (fun i=>some (i*sz,sz)) l l'
 | [],l',h=>by obtain rfl:=sj h;trivial
 | (i,x)::l,l',h=>by
  simp only[zn] at h
  split at h
  ·rename_i y l2 h2 h3
   obtain rfl:=sj h
   exact ⟨rfl,h2,A0 h3⟩
  ·cases h
theorem A1:∀{l:List (Nat × Operand)} {l':List (Nat × Opd)},zo l=some l'->vB l l'
 | [],l',h=>by obtain rfl:=sj h;trivial
 | (i,x)::l,l',h=>by
  simp only[zo] at h
  split at h
  ·rename_i y l2 h2 h3
   obtain rfl:=sj h
   exact ⟨rfl,h2,A1 h3⟩
  ·cases h
theorem dG {α:Type}{a:Array α}{l:List α}(h:a.toList=l):a=l.toArray:=by
 rw[<-h]
theorem Yc {f:FuncId}{captured:Array Operand}{l:List Opd}(ho:o.op=.makeFunc (.func f) #[] captured)(hl:nv captured.toList=some l):cQ E o (.xg f l):=by
 refine cQ.quiet fun C G st a w d cN hr hv=>?_
 simp only[rval] at hv
 obtain ⟨rfl,rfl⟩:=Prod.mk.inj (sj hv)
 obtain ⟨h1,h2⟩:=ou hr hl
 refine ⟨rfl,.func (.func f) #[] (captured.map a.eval),by simp[execOp,ho,Instr.makeFunc],.clo f _ _ (by simp;simpa using h1) ?_⟩
 have:captured.map a.eval=(captured.toList.map a.eval).toArray:=by apply Array.ext';simp
 rw[this];exact h2
theorem HZ {c:Call}{r:ROp}(ho:o.op=.call c)(h:AP E.P c=some r):(∃f l,r=.call f l/\c.callee=.value (.func f)/\nv c.args.toList=some l/\fR E.P f=true)\/(∃t l,r=.iP (.t t) l/\c.callee=.value (.tmp t)/\nv c.args.toList=some l)\/(cQ E o r/\r.tT=false)\/(∃x y name l,r=.inv y name l/\c.callee=.invoke x name/\bV x=some y/\nv c.args.toList=some l):=by
 unfold AP at h
 split at h
 ·rename_i f hc
  split at h
  ·rename_i hb
   obtain ⟨l,hl,rfl⟩:=Option.map_eq_some_iff.1 h
   exact .inl ⟨f,l,rfl,hc,hl,hb⟩
  ·cases h
 ·rename_i t hc
  obtain ⟨l,hl,rfl⟩:=Option.map_eq_some_iff.1 h
  exact .inr (.inl ⟨t,l,rfl,hc,hl⟩)
 ·rename_i x name hc
  split at h
  ·rename_i y hy
   obtain ⟨l,hl,rfl⟩:=Option.map_eq_some_iff.1 h
   exact .inr (.inr (.inr ⟨x,y,name,l,rfl,hc,hy,hl⟩))
  ·cases h
 ·rename_i hc
  split at h
  ·rename_i x t hx ht
   split at h
   ·rename_i y hy
    split at h
    ·rename_i hs
     obtain rfl:=sj h
     obtain ⟨e,he⟩:=Ar hs
     exact .inr (.inr (.inl ⟨aa6 ho hc (dG hx) (dG ht) he hy,rfl⟩))
    ·split at h
     ·rename_i hs
      obtain rfl:=sj h
      exact .inr (.inr (.inl ⟨Ye ho hc (dG hx) (dG ht) (vO hs) hy,rfl⟩))
     ·cases h
   ·cases h
  ·cases h
 ·rename_i hc
  split at h
  ·rename_i x1 x2 t t2 hx ht
   split at h
   ·rename_i y1 y2 e h1 h2 he
    split at h
    ·rename_i sz by_ z hsz hby hz
     split at h
     ·rename_i iO
      obtain rfl:=sj h
      exact .inr (.inr (.inl ⟨N9 ho hc (dG hx) (dG ht) (jX he) (iO.2.imp Ar vO) hsz hby hz iO.1 h1 h2,rfl⟩))
     ·cases h
    ·cases h
   ·cases h
  ·cases h
 ·rename_i hc
  split at h
  ·rename_i x1 x2 t t2 hx ht
   split at h
   ·rename_i y1 y2 e h1 h2 he
    obtain ⟨sz,hsz,rfl⟩:=Option.map_eq_some_iff.1 h
    exact .inr (.inr (.inl ⟨Yg ho hc (dG hx) (dG ht) (jX he) hsz h1 h2,rfl⟩))
   ·cases h
  ·cases h
 ·rename_i hc
  split at h
  ·rename_i x1 x2 hx
   split at h
   ·rename_i y1 y2 h1 h2
    obtain rfl:=sj h
    exact .inr (.inr (.inl ⟨aad (isMax:=false) ho hc (dG hx) h1 h2,rfl⟩))
   ·cases h
  ·cases h
 ·rename_i hc
  split at h
  ·rename_i x1 x2 hx
   split at h
   ·rename_i y1 y2 h1 h2
    obtain rfl:=sj h
    exact .inr (.inr (.inl ⟨aad (isMax:=true) ho hc (dG hx) h1 h2,rfl⟩))
   ·cases h
  ·cases h
 ·cases h
theorem O8 {r:ROp}(h:AN E.P o.op=some r):(∃c f l,o.op=.call c/\r=.call f l/\c.callee=.value (.func f)/\nv c.args.toList=some l/\fR E.P f=true)\/(∃c t l,o.op=.call c/\r=.iP (.t t) l/\c.callee=.value (.tmp t)/\nv c.args.toList=some l)\/(cQ E o r/\r.tT=false)\/(∃c x y name l,o.op=.call c/\r=.inv y name l/\c.callee=.invoke x name/\bV x=some y/\nv c.args.toList=some l):=by
 generalize hop:o.op=op at h
 unfold AN at h
 split at h
 ·obtain ⟨y,hy,rfl⟩:=Option.map_eq_some_iff.1 h
  exact .inr (.inr (.inl ⟨Sq (.inl hop) hy,rfl⟩))
 ·obtain ⟨y,hy,rfl⟩:=Option.map_eq_some_iff.1 h
  exact .inr (.inr (.inl ⟨Sq (.inr hop) hy,rfl⟩))
 ·split at h
  ·obtain rfl:=sj h
   exact .inr (.inr (.inl ⟨Yb hop ‹_› ‹_› ‹_›,rfl⟩))
  ·cases h
 ·obtain ⟨z,hz,rfl⟩:=Option.map_eq_some_iff.1 h
  exact .inr (.inr (.inl ⟨SC hop hz,rfl⟩))
 ·split at h
  ·obtain rfl:=sj h
   exact .inr (.inr (.inl ⟨aba hop ‹_›,rfl⟩))
  ·cases h
 ·split at h
  ·rename_i fs z hfs hz
   split at h
   ·rename_i hall
    obtain ⟨ps,hps,rfl⟩:=Option.map_eq_some_iff.1 h
    exact .inr (.inr (.inl ⟨Sz hop (tw hfs) hz (fun f hf=>List.all_eq_true.1 hall f hf) (DH hps),rfl⟩))
   ·cases h
  ·rename_i z hfs hz
   split at h
   ·rename_i n e hu
    split at h
    ·rename_i sz hsz
     obtain ⟨ps,hps,rfl⟩:=Option.map_eq_some_iff.1 h
     exact .inr (.inr (.inl ⟨N8 hop (CN hu) hz hsz (A0 hps),rfl⟩))
    ·cases h
   ·cases h
  ·cases h
 ·split at h
  ·rename_i e he
   split at h
   ·rename_i sz z ps hsz hz hps
    split at h
    ·rename_i hc
     obtain rfl:=sj h
     exact .inr (.inr (.inl ⟨Sr hop (jX he) hsz hz hc.1 hc.2 (A1 hps),rfl⟩))
    ·cases h
   ·cases h
  ·cases h
 ·split at h
  ·obtain rfl:=sj h
   exact .inr (.inr (.inl ⟨Yd hop ‹_› ‹_› ‹_›,rfl⟩))
  ·cases h
 ·split at h
  ·obtain rfl:=sj h
   exact .inr (.inr (.inl ⟨So hop ‹_› ‹_› ‹_›,rfl⟩))
  ·cases h
 ·obtain ⟨y,hy,rfl⟩:=Option.map_eq_some_iff.1 h
  exact .inr (.inr (.inl ⟨Sp hop hy,rfl⟩))
 ·split at h
  ·rename_i y1 y2 h1 h2
   unfold Mr at h
   split at h
   ·obtain rfl:=sj h;exact .inr (.inr (.inl ⟨SB hop h1 h2,rfl⟩))
   ·obtain rfl:=sj h;exact .inr (.inr (.inl ⟨SB hop h1 h2,rfl⟩))
   ·rename_i hb
    split at h
    ·obtain rfl:=sj h;exact .inr (.inr (.inl ⟨Sy (neg:=false) hop hb h1 h2,rfl⟩))
    ·obtain rfl:=sj h;exact .inr (.inr (.inl ⟨Sy (neg:=true) hop hb h1 h2,rfl⟩))
    ·cases h
   ·rename_i hb
    split at h
    ·obtain rfl:=sj h;exact .inr (.inr (.inl ⟨GW (neg:=false) hop hb h1 h2,rfl⟩))
    ·obtain rfl:=sj h;exact .inr (.inr (.inl ⟨GW (neg:=true) hop hb h1 h2,rfl⟩))
    ·cases h
   ·rename_i hb
    split at h
    ·obtain rfl:=sj h;exact .inr (.inr (.inl ⟨Sx (neg:=false) hop hb h1 h2,rfl⟩))
    ·obtain rfl:=sj h;exact .inr (.inr (.inl ⟨Sx (neg:=true) hop hb h1 h2,rfl⟩))
    ·cases h
   ·rename_i hb
    split at h
    ·rename_i ks hks
     split at h
     ·obtain rfl:=sj h;exact .inr (.inr (.inl ⟨Sw (neg:=false) hop hks h1 h2,rfl⟩))
     ·obtain rfl:=sj h;exact .inr (.inr (.inl ⟨Sw (neg:=true) hop hks h1 h2,rfl⟩))
     ·cases h
    ·cases h
   ·cases h
  ·cases h
 ·obtain ⟨y,hy,rfl⟩:=Option.map_eq_some_iff.1 h
  exact .inr (.inr (.inl ⟨acY hop hy,rfl⟩))
 ·split at h
  ·rename_i y hy
   unfold HY at h
   split at h
   ·rename_i h1 h2
    obtain rfl:=sj h;exact .inr (.inr (.inl ⟨aa7 hop (by simp[h1]) h2 hy,rfl⟩))
   ·rename_i h1 h2
    split at h
    ·obtain rfl:=sj h;exact .inr (.inr (.inl ⟨abb hop h1 (ER ‹_›) h2 hy,rfl⟩))
    ·cases h
   ·rename_i h1 h2
    split at h
    ·obtain rfl:=sj h;exact .inr (.inr (.inl ⟨aa4 hop h1 h2 (ER ‹_›) hy,rfl⟩))
    ·cases h
   ·rename_i h1 h2
    obtain rfl:=sj h;exact .inr (.inr (.inl ⟨aa3 hop h1 h2 hy,rfl⟩))
   ·rename_i h1 h2
    split at h
    ·rename_i hc
     obtain rfl:=sj h;exact .inr (.inr (.inl ⟨aa5 hop hc.1 h2 (ER hc.2) hy,rfl⟩))
    ·cases h
   ·cases h
  ·cases h
 ·split at h
  ·rename_i y lo' hi' mx' h1 h2 h3 h4
   split at h
   ·rename_i e he
    split at h
    ·rename_i sz hsz
     split at h
     ·rename_i hc
      obtain rfl:=sj h
      exact .inr (.inr (.inl ⟨ok_slice hop (jX he) hsz h1 h2 h3 h4 hc,rfl⟩))
     ·cases h
    ·cases h
   ·split at h
    ·rename_i hc
     obtain rfl:=sj h
     obtain ⟨hs,hm⟩:=hc
     have:=Option.isNone_iff_eq_none.1 hm
     subst this
     exact .inr (.inr (.inl ⟨N6 hop (vO hs) h1 h2 h3,rfl⟩))
    ·cases h
  ·cases h
 ·split at h
  ·rename_i fs y hfs hy
   split at h
   ·rename_i fd hfd
    split at h
    ·rename_i n hn
     split at h
     ·cases h
     ·rename_i hn0
      obtain rfl:=sj h
      exact .inr (.inr (.inl ⟨Sv hop (tw hfs) hfd rfl hn hn0 hy,rfl⟩))
    ·cases h
   ·cases h
  ·cases h
 ·split at h
  ·rename_i fs y hfs hy
   split at h
   ·rename_i fd hfd
    split at h
    ·obtain rfl:=sj h
     exact .inr (.inr (.inl ⟨aa8 hop (tw hfs) hfd rfl ‹_› ‹_› hy,rfl⟩))
    ·cases h
   ·cases h
  ·cases h
 ·split at h
  ·rename_i y1 y2 h1 h2
   split at h
   ·rename_i e he
    obtain ⟨sz,hsz,rfl⟩:=Option.map_eq_some_iff.1 h
    exact .inr (.inr (.inl ⟨Su hop (jX he) hsz h1 h2,rfl⟩))
   ·split at h
    ·rename_i len e he
     obtain ⟨sz,hsz,rfl⟩:=Option.map_eq_some_iff.1 h
     exact .inr (.inr (.inl ⟨N7 hop (CN he) hsz h1 h2,rfl⟩))
    ·cases h
  ·cases h
 ·split at h
  ·rename_i y1 y2 h1 h2
   split at h
   ·obtain rfl:=sj h
    exact .inr (.inr (.inl ⟨Yf hop (vO ‹_›) h1 h2,rfl⟩))
   ·cases h
  ·cases h
 ·obtain ⟨y,hy,rfl⟩:=Option.map_eq_some_iff.1 h
  exact .inr (.inr (.inl ⟨aa9 hop hy,rfl⟩))
 ·split at h
  ·rename_i y1 y2 e h1 h2 he
   split at h
   ·obtain rfl:=sj h
    exact .inr (.inr (.inl ⟨Ke hop (jX he) ‹_› ‹_› ‹_› h1 h2,rfl⟩))
   ·cases h
  ·cases h
 ·rename_i c
  rcases HZ hop h with ⟨f,l,h1,h2,h3⟩ | ⟨t,l,h1,h2,h3⟩ | h1 | ⟨x,y,name,l,h1,h2,h3⟩
  ·exact .inl ⟨c,f,l,rfl,h1,h2,h3⟩
  ·exact .inr (.inl ⟨c,t,l,rfl,h1,h2,h3⟩)
  ·exact .inr (.inr (.inl h1))
  ·exact .inr (.inr (.inr ⟨c,x,y,name,l,rfl,h1,h2,h3⟩))
 ·rename_i f first captured
  split at h
  ·rename_i hf
   obtain ⟨l,hl,rfl⟩:=Option.map_eq_some_iff.1 h
   have hf0:first=#[]:=Array.eq_empty_of_size_eq_zero hf
   subst hf0
   exact .inr (.inr (.inl ⟨Yc hop hl,rfl⟩))
  ·cases h
 ·split at h
  ·rename_i hc
   obtain ⟨k,hk1,hk2⟩:=Dn hc
   obtain ⟨y,hy,rfl⟩:=Option.map_eq_some_iff.1 h
   exact .inr (.inr (.inl ⟨Ss hop hk1 hk2 hy,rfl⟩))
  ·cases h
 ·split at h
  ·rename_i hc
   obtain ⟨k,hk1,hk2⟩:=Dn hc
   obtain ⟨y,hy,rfl⟩:=Option.map_eq_some_iff.1 h
   exact .inr (.inr (.inl ⟨Yh hop hk1 hk2 hy,rfl⟩))
  ·cases h
 ·cases h
abbrev MV (d n:Nat):bH:=⟨some d,.mov (.t n),none,false⟩
abbrev FA (d k n:Nat):bH:=⟨some d,.p9 k (.t n),none,false⟩
abbrev LD (d n:Nat):bH:=⟨some d,.load false 1 (.t n),none,false⟩
abbrev LT (d k n:Nat):bH:=⟨some d,.load true k (.t n),none,false⟩
abbrev SA (k a b:Nat):bH:=⟨none,.store k (.t a) (.t b),none,false⟩
abbrev OP (d:Nat) (o:ROp):bH:=⟨some d,o,none,false⟩
abbrev NP (o:ROp):bH:=⟨none,o,none,false⟩
abbrev OG (d:Nat) (o:ROp) (t:Nat) (b:Bool):bH:=⟨some d,o,some (t,b),false⟩
abbrev MG (d n t:Nat) (b:Bool):bH:=⟨some d,.mov (.t n),some (t,b),false⟩
abbrev FG (d k n t:Nat) (b:Bool):bH:=⟨some d,.p9 k (.t n),some (t,b),false⟩
abbrev LG (d n t:Nat) (b:Bool):bH:=⟨some d,.load false 1 (.t n),some (t,b),false⟩
abbrev BT (d:Nat) (o:BinOp) (a b:Nat):bH:=⟨some d,.bin o (.t a) (.t b),none,false⟩
abbrev BI (d:Nat) (o:BinOp) (a:Nat) (i:Int):bH:=⟨some d,.bin o (.t a) (.c (.int .i64 i)),none,false⟩
abbrev MB (d:Nat) (b:Bool):bH:=⟨some d,.mov (.c (.bool b)),none,false⟩
abbrev ZS:List DV:=[.int .i64 0,.int .i64 0,.sl 0 [] .nil,.int .i64 0,.int .i64 0,.bool false,.int .u16 0,.int .i64 0,.int .i64 0,.sl 0 [] .nil,.int .i64 0,.int .i64 0,.int .u16 0,.bool false,.bool false,.bool false,.sl 0 [] .nil,.int .i64 0,.int .i64 0,.int .i64 0,.int .u8 0,.sl 0 [] .nil,.sl 0 [] .nil,.sl 0 [] .nil]
abbrev SR (l:List bH) (c:List Nat) (k:RC):RC:=.seq (.reg l 0 c) k
class Tg {α:Sort _} (a:α):Type where
 z:Unit
instance adU {α:Sort _} (a:α):Tg a:=⟨()⟩
def bA {α:Type}(x:Option α)(f:α->Prop) [Tg f] (_:True:=trivial):Prop:=
 match (generalizing:=false) x with
 | some y=>f y
 | none=>False
theorem K3 {α:Type}(y:α)(f:α->Prop):bA (some y) f=f y:=rfl
theorem K4 {α:Type}(f:α->Prop):bA none f=False:=rfl
theorem Px {α:Type}(c:Prop) [Decidable c] (x:Option α)(f:α->Prop):bA (if c then x else none) f=(c/\bA x f):=by
 by_cases h:c <;> simp[h,bA]
theorem Pw {α β:Type}(x:Option α)(g:α->β)(f:β->Prop):bA (x.map g) f=bA x fun a=>f (g a):=by cases x <;> rfl
theorem K8 {α β:Type}(x:Option α)(g:α->Option β)(f:β->Prop):bA (x.bind g) f=bA x fun a=>bA (g a) f:=by cases x <;> rfl
def cnd (b:Bool)(p q:Prop):Prop:=if b=true then p else q
@[congr] theorem acC {b:Bool} {c:Unit->Bool} {p q:Prop} (h:∀u,b=c u):cnd b p q=cnd (c ()) p q:=by rw[<-h ()]
theorem iB (p q:Prop):cnd true p q=p:=if_pos rfl
theorem gm (p q:Prop):cnd false p q=q:=if_neg (by simp)
theorem Zm (c:Prop) [Decidable c] (p q:Prop):cnd (decide c) p q=((c->p)/\(¬c->q)):=by
 by_cases h:c <;> simp[h,cnd]
theorem Zl (b:Bool)(p q:Prop):cnd (!b) p q=cnd b q p:=by cases b <;> simp[cnd]
theorem pN (b:Bool)(p q:Prop):cnd b p q=((b=true->p)/\(b=false->q)):=by cases b <;> simp[cnd]
def mF (st:St)(E:Prg)(dflt:Nat):Option Opd->Option Nat
 | none=>some dflt
 | some x=>match x.ev E st with
  | .int _ n=>if 0<=n then some n.toNat else none
  | _=>none
theorem L8 (st:St)(E:Prg)(dflt:Nat)(x:Option Opd):mF st E dflt x=e8 st E dflt x:=by cases x <;> rfl
def rvl (E : Prg) (st : St) : ROp -> Option (DV × ay)
  | .load ag sz x => match x.ev E st with
    | .ptr o i j => (st.au[o]?).bind fun x => x.bind fun ob => (ob.rows[i]?).bind fun row => (rowAt ag sz row j).map (·, st.au)
    | .rp row j => (rowAt ag sz row j).map (·, st.au)
    | _ => none
  | .store sz p x => match p.ev E st with
    | .ptr o i j => ((x.ev E st).cells).bind fun cs => (st.au[o]?).bind fun x => x.bind fun ob => (ob.rows[i]?).bind fun row =>
      if cs.length = sz /\ cs.all DV.one = true /\ j + sz <= row.length then some (.undef, st.au.set o (some (ob.setRow i (ig row j cs)))) else none
    | _ => none
  | .conv .b2s x => match x.ev E st with
    | .str _ => none
    | d => (rowsOf st d).bind fun y => if y.1 = 1 \/ y.2 = [] then (iF y.2).map fun s => (.str s, st.au) else none
  | .slice sz x lo hi mx => match x.ev E st with
    | .sl s rows k => (mF st E 0 lo).bind fun l => (mF st E rows.length hi).bind fun h => if l <= h /\ h <= rows.length /\ (s = sz \/ rows = []) then (match mx with
        | none => some (.sl s ((rows.drop l).take (h - l)) k, st.au)
        | some m => (mF st E 0 (some m)).bind fun m => if m = h then some (.sl s ((rows.drop l).take (h - l)) (if m = l then (if k = .nil then .nil else .zero) else (if k = .nil then .nil else .any)), st.au) else none) else none
    | .own o off n => match mx with
      | none => (mF st E 0 lo).bind fun l => (mF st E n hi).bind fun h => (st.au[o]?).bind fun x => x.bind fun ob => match ob with
        | .arr s rows => if l <= h /\ h <= n /\ s = sz then some (.own o (off + l) (h - l), st.au) else none
        | _ => none
      | some m => (mF st E 0 lo).bind fun l => (mF st E n hi).bind fun h => (mF st E 0 (some m)).bind fun m => if m = h /\ h = l /\ l <= n then some (.sl sz [] .zero, st.au) else none
    | _ => none
  | .lC x lo hi => match x.ev E st with
    | .str s => (mF st E 0 lo).bind fun l => (mF st E s.length hi).bind fun h => if l <= h /\ h <= s.length then some (.str ((s.drop l).take (h - l)), st.au) else none
    | _ => none
  | .aT sz x i => match x.ev E st, i.ev E st with
    | .sl s rows _, .int _ n => if 0 <= n /\ n < (rows.length : Int) /\ s = sz then (rows[n.toNat]?).map fun row => (.rp row 0, st.au) else none
    | .own o off m, .int _ n => if 0 <= n /\ n < (m : Int) then (st.au[o]?).bind fun x => x.bind fun ob => match ob with
        | .arr s _ => if s = sz then some (.ptr o (off + n.toNat) 0, st.au) else none
        | _ => none
      else none
    | _, _ => none
  | .yK x i => match x.ev E st, i.ev E st with
    | .str s, .int _ n => if 0 <= n then (s[n.toNat]?).map fun b => (.int .u8 b.toNat, st.au) else none
    | _, _ => none
  | .append sz bytes x y => match x.ev E st with
    | .sl _ [] k => (rowsOf st (y.ev E st)).bind fun a => if (k = .nil \/ k = .zero) /\ (a.1 = sz \/ a.2 = []) /\ a.2.length * bytes <= 140737488355328 /\ a.2.length <= 4611686018427387904 then
        some (.own st.au.length 0 a.2.length, st.au ++ [some (.arr sz a.2)]) else none
    | .own o off n => (rowsOf st (y.ev E st)).bind fun a => (st.au[o]?).bind fun x => x.bind fun ob => match ob with
      | .arr s rows => if off + n = rows.length /\ s = sz /\ (a.1 = sz \/ a.2 = []) /\ (n + a.2.length) * bytes <= 140737488355328 /\ n + a.2.length <= 4611686018427387904 then
          some (.own st.au.length 0 (n + a.2.length), st.au.set o none ++ [some (.arr sz (rows.drop off ++ a.2))]) else none
      | _ => none
    | _ => none
  | op => rval E st op
theorem Rw (E:Prg)(st:St)(op:ROp):rvl E st op=rval E st op:=by
 cases op <;> try rfl
 case load ag sz x=>
  simp only[rvl,rval]
  cases x.ev E st <;> try rfl
  rename_i o i j
  dsimp only
  generalize st.au[o]?=z
  rcases z with _ | _ | ob <;> try rfl
  simp only[Option.bind]
  generalize ob.rows[i]?=y
  cases y <;> rfl
 case store sz p x=>
  simp only[rvl,rval]
  cases p.ev E st <;> try rfl
  rename_i o i j
  cases (x.ev E st).cells <;> try rfl
  rename_i cs
  simp only[Option.bind]
  generalize st.au[o]?=z
  rcases z with _ | _ | ob <;> try rfl
  dsimp only
  generalize ob.rows[i]?=y
  cases y <;> rfl
 case conv k x=>
  cases k <;> try rfl
  simp only[rvl,rval]
  cases hx:x.ev E st <;> try rfl
  ·rename_i o off n
   dsimp only
   generalize rowsOf st (.own o off n)=z
   rcases z with _ | ⟨a,b⟩ <;> rfl
 case slice sz x lo hi mx=>
  simp only[rvl,rval,L8]
  cases hx:x.ev E st <;> try rfl
  ·rename_i s rows k
   dsimp only
   generalize e8 st E 0 lo=l
   generalize e8 st E rows.length hi=h
   cases l <;> cases h <;> try rfl
   simp only[Option.bind]
   cases mx with
   | none=>rfl
   | some m=>
    dsimp only
    generalize e8 st E 0 (some m)=y
    cases y <;> rfl
  ·rename_i o off n
   dsimp only
   generalize e8 st E 0 lo=l
   generalize e8 st E n hi=h
   cases mx with
   | some m=>
    cases l <;> cases h <;> try rfl
    simp only[Option.bind]
    generalize e8 st E 0 (some m)=y
    cases y <;> rfl
   | none=>
    cases l <;> cases h <;> try rfl
    simp only[Option.bind]
    generalize st.au[o]?=z
    rcases z with _ | _ | ob <;> try rfl
    cases ob <;> rfl
 case lC x lo hi=>
  simp only[rvl,rval,L8]
  cases hx:x.ev E st <;> try rfl
  rename_i s
  dsimp only
  generalize e8 st E 0 lo=l
  generalize e8 st E s.length hi=h
  cases l <;> cases h <;> rfl
 case aT sz x i=>
  simp only[rvl,rval]
  cases hx:x.ev E st <;> cases hi:i.ev E st <;> try rfl
  ·rename_i s rows k k' n
   dsimp only
   generalize rows[n.toNat]?=y
   cases y <;> rfl
  ·rename_i o off m k' n
   dsimp only
   generalize st.au[o]?=z
   rcases z with _ | _ | ob <;> try rfl
   cases ob <;> rfl
 case yK x i=>
  simp only[rvl,rval]
  cases hx:x.ev E st <;> cases hi:i.ev E st <;> try rfl
  rename_i s k' n
  dsimp only
  generalize s[n.toNat]?=y
  cases y <;> rfl
 case append sz bytes x y=>
  simp only[rvl,rval]
  cases hx:x.ev E st <;> try rfl
  ·rename_i s rows k
   cases rows with
   | nil=>
    dsimp only
    generalize rowsOf st (y.ev E st)=z
    cases z <;> rfl
   | cons a l=>rfl
  ·rename_i o off n
   dsimp only
   generalize rowsOf st (y.ev E st)=z
   cases z <;> try rfl
   simp only[Option.bind]
   generalize st.au[o]?=z
   rcases z with _ | _ | ob <;> try rfl
   cases ob <;> rfl
def wk0:DV->DV->Prop
 | .sl sz rows k,.sl sz2 kK k2=>rows=kK/\(k2=.any\/k=k2)/\(sz=sz2\/rows=[])
 | d,d2=>d=d2
def wkL (p:DV->DV->Prop):List DV->List DV->Prop
 | [],[]=>True
 | a::l,b::m=>p a b/\wkL p l m
 | _,_=>False
def wkA:DV->DV->Prop
 | .agg a,.agg b=>wkL wk0 a b
 | d,d2=>wk0 d d2
def wkT:DV->DV->Prop
 | .tup a,.tup b=>wkL wkA a b
 | d,d2=>wkA d d2
theorem SK.abc (k:SK)(p:Option Addr)(c:Nat)(h:k.ok p c):SK.ok .any p c:=fun hp=>by
 subst hp
 cases k with
 | any=>exact h rfl
 | nil=>exact h.2
 | gA=>cases h
 | zero=>exact h
theorem D0 {d2:DV}(h:wk0 d d2){G:Gh}{v:Value}(r:Rel G d v):Rel G d2 v:=by
 unfold wk0 at h
 split at h
 ·rename_i sz rows k sz2 kK k2
  obtain ⟨rfl,h2,h3⟩:=h
  cases r with
  | sl sz rows k p len cap b o vals a1 a2 a3 a4 a5 a6 a7=>
   have hk:k2.ok p cap:=by
    rcases h2 with rfl | rfl
    ·exact SK.abc _ _ _ a2
    ·exact a2
   rcases h3 with rfl | rfl
   ·exact .sl _ rows k2 p len cap b o vals a1 hk a3 a4 a5 a6 a7
   ·exact .sl sz2 [] k2 p len cap b o vals a1 hk a3 a4 (by simp) (by simp) (by simp)
 ·subst h;exact r
theorem yQ {p:DV->DV->Prop}:∀{a b:List DV},wkL p a b->a.length=b.length/\∀(i:Nat) d,b[i]?=some d->∃c,a[i]?=some c/\p c d
 | [],[],_=>⟨rfl,by simp⟩
 | x::a,y::b,h=>by
  obtain ⟨h1,h2⟩:=yQ h.2
  refine ⟨by simp[h1],fun i d hd=>?_⟩
  rcases i with _ | i
  ·simp at hd;subst hd;exact ⟨x,rfl,h.1⟩
  ·simpa using h2 i d (by simpa using hd)
 | [],_::_,h=>h.elim
 | _::_,[],h=>h.elim
theorem LP {d2:DV}(h:wkA d d2){G:Gh}{v:Value}(r:Rel G d v):Rel G d2 v:=by
 unfold wkA at h
 split at h
 ·obtain ⟨h1,h2⟩:=yQ h
  cases r with
  | agg cs vs a1 a2=>exact .agg _ vs (a1.trans h1) fun i d hd=>let ⟨c,hc,hw⟩:=h2 i d hd;D0 hw (a2 i c hc)
 ·exact D0 h r
theorem ru {d2:DV}(h:wkT d d2){G:Gh}{v:Value}(r:Rel G d v):Rel G d2 v:=by
 unfold wkT at h
 split at h
 ·obtain ⟨h1,h2⟩:=yQ h
  cases r with
  | tup cs vs a1 a2=>exact .tup _ vs (a1.trans h1) fun i d hd=>let ⟨c,hc,hw⟩:=h2 i d hd;LP hw (a2 i c hc)
 ·exact LP h r
theorem FZ (d:DV):wk0 d d:=by
 cases d <;> first | exact rfl | exact ⟨rfl,.inr rfl,.inl rfl⟩
theorem qi {p:DV->DV->Prop}(hp:∀d,p d d):∀l:List DV,wkL p l l
 | []=>trivial
 | c::l=>⟨hp c,qi hp l⟩
theorem Qo (d:DV):wkA d d:=by
 cases d <;> first | exact rfl | exact ⟨rfl,.inr rfl,.inl rfl⟩ | exact qi FZ _
theorem fK (d:DV):wkT d d:=by
 cases d <;> first | exact rfl | exact ⟨rfl,.inr rfl,.inl rfl⟩ | exact qi FZ _ | exact qi Qo _
def aj (E:Prg)(f:Nat)(vals:List DV)(T:ay)(K:DV->ay->Prop):Prop:=
 ∃T1 R,T1.length=T.length/\(∀(k:Nat) (ob:Ob),T1[k]?=some (some ob)->T[k]?=some (some ob))/\bP E f vals T1 R/\
  ∀r T1',R r T1'->T1.length<=T1'.length->∃T',mO T T1 T1' T'/\K r T'
theorem aj.pure {vals:List DV}{R:Nat->DV->ay->Prop}(h:av E f vals R)(hK:∀r os,R T.length r os->K r (T++os)):aj E f vals T K:=
 ⟨_,_,by simp,fun k ob hk=>(dm hk).elim,h T.length,fun r T1' ⟨os,hT,hR⟩ _=>⟨T++os,by subst hT;exact mO.pure _ _,hK r os hR⟩⟩
theorem aj.all {vals:List DV}(h:bP E f vals T K):aj E f vals T K:=
 ⟨T,K,rfl,fun _ _ h=>h,h,fun r T1' hr _=>⟨T1',mO.all,hr⟩⟩
def acy (E:Prg)(f:Nat)(args:Nat->List DV)(ob:Ob)(R:Nat->Nat->DV->Option Ob->ay->Prop):Prop:=
 ∀n k,k<n->bP E f (args k) ((List.replicate n none).set k (some ob)) fun r T'=>∃x os,T'=(List.replicate n none).set k x++os/\R n k r x os
theorem aj.one {args:Nat->List DV}{ob:Ob}{R:Nat->Nat->DV->Option Ob->ay->Prop}(h:acy E f args ob R)(k:Nat)(hk:T[k]?=some (some ob))
  (hK:∀r x os,R T.length k r x os->K r (T.set k x++os)):aj E f (args k) T K:=by
 have hlt:k<T.length:=(List.getElem?_eq_some_iff.1 hk).1
 refine ⟨_,_,by simp,fun j o hj=>?_,h T.length k hlt,fun r T1' ⟨x,os,hT,hR⟩ _=>⟨T.set k x++os,by subst hT;exact mO.one _ _ _ _ _ hk,hK r x os hR⟩⟩
 rw[getElem?_set] at hj
 by_cases e:k=j
 ·subst e
  rw[if_pos rfl,if_pos (by simpa using hlt)] at hj
  rw[hk];simpa using hj
 ·rw[if_neg e] at hj;exact (dm hj).elim
theorem aj.mono {vals:List DV}(h:aj E f vals T K)(hk:∀d T',K d T'->K' d T'):aj E f vals T K':=by
 obtain ⟨T1,R,h1,h2,h3,h4⟩:=h
 exact ⟨T1,R,h1,h2,h3,fun r T1' hR hl=>let ⟨T',hm,hK⟩:=h4 r T1' hR hl;⟨T',hm,hk _ _ hK⟩⟩
structure aS where
 pre:Prop
 res:Nat->DV × ay
structure nA where
 pre:ay->Prop
 res:ay->DV × ay
structure Bt where
 wp:ay->(DV->ay->Prop)->Prop
 mono:∀T K K',wp T K->(∀d T',K d T'->K' d T')->wp T K'
def nA.toP (s:nA):Bt:=⟨fun T K=>s.pre T/\K (s.res T).1 (s.res T).2,fun T K K' h hk=>⟨h.1,hk _ _ h.2⟩⟩
inductive FS where
 | o (s:aS)
 | p (s:Bt)
def FS.h (s:nA):FS:=.p s.toP
abbrev dW:=Nat->List DV->Option FS
def HOk (E:Prg)(f:Nat)(args:List DV)(s:nA):Prop:=∀(T:ay) (K:DV->ay->Prop),s.pre T->K (s.res T).1 (s.res T).2->aj E f args T K
def FOk (E:Prg)(F:dW):Prop:=(∀f args s,F f args=some (.o s)->s.pre->av E f args fun n r os=>r=(s.res n).1/\os=(s.res n).2)/\∀f args s,F f args=some (.p s)->∀(T:ay) (K:DV->ay->Prop),s.wp T K->aj E f args T K
def jy (E:Prg)(x:Option FS)(dr:Bool)(f:Nat)(args:List DV)(T:ay)(K:DV->ay->Prop) [Tg K] (_:True:=trivial):Prop:=
 match (generalizing:=false) x with
 | some (.o s)=>s.pre/\K (s.res T.length).1 (T++(s.res T.length).2)
 | some (.p s)=>if dr=true then False else s.wp T K
 | none=>if dr=true then False else aj E f args T K
def DV.id:DV->Option Nat
 | .own o _ _=>some o
 | .ptr o _ _=>some o
 | _=>none
def jZ:DV->List Nat
 | .own o _ _=> [o]
 | .agg cs=>cs.filterMap fun
  | .own o _ _=>some o
  | _=>none
 | _=> []
def St.fT:List Nat->St->St
 | [],st=>st
 | o::l,st=>St.fT l (st.freeze o)
def St.fzd (z:Bool)(dst:Option Nat)(st:St):St:=
 match z,dst with
 | true,some t=>st.fT (jZ (st.get t))
 | _,_=>st
def St.rep (t:Nat)(d:DV):List (Nat × DV)->List (Nat × DV)
 | []=> []
 | (k,x)::l=>if k=t then (t,d)::l else (k,x)::St.rep t d l
def St.xk (t:Nat)(b:Bool)(st:St):St:={ st with env:=St.rep t (.bool b) st.env}
def St.Aq (c:Opd)(b:Bool)(st:St):St:=
 match c with
 | .t n=>st.xk n b
 | _=>st
def mL (E:Prg)(F:dW)(dr:Bool)(d:DV)(args:List DV)(T:ay)(K:DV->ay->Prop) [Tg K] (_:True:=trivial):Prop:=
 match (generalizing:=false) dr,d with
 | false,.lit (.func (.func f) a b)=>a.size=0/\b.size=0/\fR E.P f=true/\jy E (F f args) false f args T K
 | false,.wrap (.clo f) cs=>fR E.P f=true/\jy E (F f (args++cs)) false f (args++cs) T K
 | _,_=>False
theorem E9 {F:dW}(h:mL E F true d args T K):False:=by simp[mL] at h
def ko (P : Program) (t : TypeId) (name : String) : Option (FuncId × Option (Bool × Nat)) :=
  match P.info? t with
  | none => none
  | some inf => match inf.methods.find? (·.name == name) with
    | none => none
    | some m => if m.path.size = 0 then (match m.func with
      | none => none
      | some (f, pr) => (match P.underlying t with
        | none => none
        | some (.pointer e) => if pr = true then some (f, none) else (match qj P e, cX P e with
          | some ag, some sz => some (f, some (ag, sz))
          | _, _ => none)
        | some _ => if pr = true then none else some (f, none))) else none
def kq (T : ay) (way : Option (Bool × Nat)) (d : DV) : Option DV :=
  match way with
  | none => some d
  | some (ag, sz) => (match d with
    | .ptr o i j => (match T[o]? with
      | some (some ob) => (match ob.rows[i]? with
        | some row => rowAt ag sz row j
        | none => none)
      | _ => none)
    | .rp row j => rowAt ag sz row j
    | _ => none)
def tU (T:ay)(d:DV):Option (FuncId × Option (Bool × Nat))->Option (FuncId × DV)
 | some (f,way)=>(kq T way d).map fun x=>(f,x)
 | none=>none
def Dq (E:Prg)(T:ay)(d:DV)(name:String):Option (FuncId × DV):=
 match d with
 | .wrap (.ifc t) [x]=>tU T x (ko E.P t name)
 | .wrap (.ifa t) cs=>tU T (.agg cs) (ko E.P t name)
 | _=>none
def ET (E:Prg)(F:dW)(dr:Bool)(r:Option (FuncId × DV))(args:List DV)(T:ay)(K:DV->ay->Prop) [Tg K] (_:True:=trivial):Prop:=
 match (generalizing:=false) dr,r with
 | false,some (f,d)=>fR E.P f=true/\jy E (F f (d::args)) false f (d::args) T K
 | _,_=>False
theorem Kw {F:dW}{r:Option (FuncId × DV)}(h:ET E F true r args T K):False:=by simp[ET] at h
def qd (E:Prg)(F:dW)(dr:Bool)(o:bH)(K:St->Prop)(st:St):Prop:=
 match o.op with
 | .call f l=>jy E (F f (l.map (Opd.ev E st))) dr f (l.map (Opd.ev E st)) st.au fun d T'=>K ((({ st with au:=T'}:St).put o.dst d).fzd o.fz o.dst)
 | .iP y l=>mL E F dr (Opd.ev E st y) (l.map (Opd.ev E st)) st.au fun d T'=>K ((({ st with au:=T'}:St).put o.dst d).fzd o.fz o.dst)
 | .inv y name l=>ET E F dr (Dq E st.au (Opd.ev E st y) name) (l.map (Opd.ev E st)) st.au fun d T'=>K ((({ st with au:=T'}:St).put o.dst d).fzd o.fz o.dst)
 | op=>bA (rvl E st op) fun p=>K ((({ st with au:=p.2}:St).put o.dst p.1).fzd o.fz o.dst)
def Mu:Value->Bool
 | .bool _=>true
 | _=>false
def DV.no:DV:=.lit Go.undef
def ow (d:DV)(f:Bool->Prop)(g:Prop) [Tg f] [Tg g] (_:True:=trivial):Prop:=
 match (generalizing:=false) d with
 | .bool b=>f b
 | .lit v=>Mu v=false/\g
 | _=>False
def ic (E:Prg)(F:dW)(dr:Bool)(o:bH)(K:St->Prop)(st:St):Prop:=
 match o.guard with
 | none=>qd E F dr o K st
 | some (t,want)=>ow (st.get t) (fun b=>cnd (b==want) (qd E F dr o K (st.xk t want)) (K ((st.xk t (!want)).put o.dst .no))) (K (st.put o.dst .no))
def lP (E:Prg)(F:dW):List bH->(St->Prop)->St->Prop
 | [],K,st=>K st
 | o::l,K,st=>ic E F false o (lP E F l K) st
def jb (E:Prg)(st:St)(op:ROp)(p:Opd):Prop:=∀x∈op.cZ,∀o,DV.id (x.ev E st)=some o->DV.id (p.ev E st)≠some o
def OT.wp (E:Prg)(F:dW):OT->(St->Prop)->St->Prop
 | .done,K,st=>K st
 | .mid o k,K,st=>ic E F false o (k.wp E F K) st
 | .op o k,K,st=>ic E F true o (k.wp E F K) st
 | .take o ps k,K,st=>(∀p∈ps,jb E st o.op p)/\ic E F true o (k.wp E F K) st
 | .alt a b,K,st=>a.wp E F K st/\b.wp E F K st
def St.cut (lo:Nat)(keep:List Nat)(st:St):St:={ st with env:=st.env.filter fun x=>x.1<lo || keep.contains x.1}
def Gb (K:St->Prop)(Q:Exit->St->Prop):Exit->St->Prop
 | .normal,st=>K st
 | e,st=>Q e st
def vP (id:Nat)(Q:Exit->St->Prop):Exit->St->Prop
 | .exit id',st=>if id'=id then Q .normal st else Q (.exit id') st
 | e,st=>Q e st
def AWp (E:Prg)(n:Nat)(c:Code)(Q:Exit->St->Prop)(st:St):Prop:=
 ∀C a w,C.n=n->ei E C st a w->c.wp E.P (fun e a' w'=>∃st',Q e st'/\ei E C st' a' w') a w
def bk (E:Prg)(n:Nat)(b:RC)(Q:Exit->St->Prop)(st:St) [Tg Q] [Tg b] (_:True:=trivial):Prop:=∀c ann,comp E.P n ann c=some b->AWp E n (.loop c) Q st
def RC.wp (E:Prg)(F:dW)(n:Nat):RC->(Exit->St->Prop)->St->Prop
 | .skip,Q,st=>Q .normal st
 | .reg ops lo keep,Q,st=>lP E F ops (fun st'=>Q .normal (st'.cut lo keep)) st
 | .cJ t lo keep,Q,st=>t.wp E F (fun st'=>Q .normal (st'.cut lo keep)) st
 | .seq a b,Q,st=>a.wp E F n (Gb (b.wp E F n Q) Q) st
 | .cond c t e,Q,st=>match c.ev E st with
  | .bool b=>cnd b (t.wp E F n Q (st.Aq c true)) (e.wp E F n Q (st.Aq c false))
  | _=>False
 | .blk id b,Q,st=>b.wp E F n (vP id Q) st
 | .loop b,Q,st=>bk E n b Q st
 | .ext id,Q,st=>Q (.exit id) st
 | .ret,Q,st=>Q .ret st
theorem St.Gv (t:Nat)(d:DV):∀l:List (Nat × DV),St.look t l=d->St.rep t d l=l
 | [],_=>rfl
 | (k,x)::l,h=>by
  simp only[St.look] at h
  simp only[St.rep]
  by_cases e:k=t
  ·rw[if_pos e] at h ⊢;subst e h;rfl
  ·rw[if_neg e] at h ⊢;rw[St.Gv t d l h]
theorem St.gl {b:Bool}(h:st.get t=.bool b):st.xk t b=st:=by
 unfold St.xk
 rw[St.Gv t _ st.env h]
theorem St.Ap {c:Opd}{b:Bool}(h:c.ev E st=.bool b):st.Aq c b=st:=by
 cases c with
 | t n=>exact St.gl h
 | _=>rfl
theorem St.yc (p:Nat->Bool)(t:Nat):∀l:List (Nat × DV),St.look t (l.filter fun x=>p x.1)=if p t then St.look t l else .undef
 | []=>by simp[St.look]
 | (k,d)::l=>by
  have ih:=St.yc p t l
  simp only[List.filter_cons]
  by_cases hp:p k=true
  ·simp only[hp,if_true,St.look]
   by_cases he:k=t
   ·subst he;simp[hp]
   ·simp[he,ih]
  ·simp only[hp,if_false,St.look]
   by_cases he:k=t
   ·subst he
    rw[if_pos rfl]
    simp only[Bool.false_eq_true,if_false,ih,hp]
   ·rw[if_neg he]
    exact ih
theorem dz.less (h : dz E C G st a w) (he : ∀ t, st'.get t = .undef \/ st'.get t = st.get t) (hl : st'.au.length = st.au.length)
    (ho : ∀ (k : Nat) (ob : Ob), st'.au[k]? = some (some ob) -> st.au[k]? = some (some ob)) : dz E C G st' a w :=
  ⟨fun t => by
    rcases he t with h1 | h1
    · rw[h1]; exact .undef _
    · rw[h1]; exact h.env t, h.num, h.defs, h.heap.sub hl ho,
   ⟨h.frm.os, h.frm.tape, h.frm.output, h.frm.size, h.frm.blk, h.frm.cell, h.frm.frz, fun k r q m hk => h.frm.mine k r q m (ho k r hk), h.frm.rdn, h.frm.le, h.frm.mko⟩, h.qf⟩
theorem ei.cut (h:ei E C st a w)(lo:Nat)(keep:List Nat):ei E C (st.cut lo keep) a w:=by
 obtain ⟨G,h⟩:=h
 refine ⟨G,h.less (fun t=>?_) rfl (fun k ob hk=>hk)⟩
 simp only[St.get,St.cut]
 rw[St.yc (fun k=>decide (k<lo) || keep.contains k)]
 split
 ·exact .inr rfl
 ·exact .inl rfl
theorem ei.fT {E:Prg}{C:Ctx}{a:Act}{w:World}:∀(L:List Nat) {st:St},ei E C st a w->ei E C (st.fT L) a w
 | [],_,h=>h
 | o::L,st,h=>by
  obtain ⟨G,h⟩:=h
  exact ei.fT L (h.freeze o)
theorem ei.fzd (h:ei E C st a w)(z:Bool)(dst:Option Nat):ei E C (st.fzd z dst) a w:=by
 unfold St.fzd
 split
 ·exact h.fT _
 ·exact h
theorem nj {F:dW}(hF:FOk E F){dr:Bool}{o:Oper}{f:Nat}{args:List DV}{vals:Array Value}{C:Ctx}{st:St}{G:Gh}{a:Act}{w:World}{K:St->Prop}{z:Bool}(hd:∀t,o.dst=some t->t<C.n)(hG:dz E C G st a w)
  (hal:vals.size=args.length) (dh:∀(i:Nat) d,args[i]?=some d->Rel G d (vals.getD i undef)) (hrun:(execOp a.eval o).run E.P w=.ok (.enter f vals) w)
  (h:jy E (F f args) dr f args st.au fun d T'=>K ((({ st with au:=T'}:St).put o.dst d).fzd z o.dst))
  {next:Act->World->Prop} {Q:Exit->Act->World->Prop} (hnext:∀st' a' w',K st'->ei E C st' a' w'->next a' w'):o.wp E.P a w next Q:=by
 have h':aj E f args st.au fun d T'=>K ((({ st with au:=T'}:St).put o.dst d).fzd z o.dst):=by
  simp only[jy] at h
  split at h
  ·rename_i s hs
   refine aj.pure (hF.1 f _ s hs h.1) fun d os ⟨h1,h2⟩=>?_
   subst h1 h2
   exact h.2
  ·rename_i s hs
   split at h
   ·exact h.elim
   ·exact hF.2 f _ s hs _ _ h
  ·split at h
   ·exact h.elim
   ·exact h
 obtain ⟨T1,R,hl1,hs1,hg,hK⟩:=h'
 have abD:=hg G w vals hG.qf (hG.heap.sub hl1 hs1) hal dh
 unfold Oper.wp
 rw[hrun,Oper.upon_enter]
 refine abD.mono fun e w' ⟨v,rr,T1',G',he,hR,hlen,ac7,hh,hf⟩=>?_
 subst he
 obtain ⟨T',hm,hk⟩:=hK rr T1' hR hlen
 exact hnext _ _ _ hk (ei.fzd ⟨G',(hG.called hm hh hf (by omega)).put hd ac7⟩ _ _)
theorem gY {vals:Array Value}(hb:fR P f=true):(callFunc f vals).run P w=.ok (.enter f vals) w:=by
 unfold fR at hb
 cases hf:P.funcs[f]? with
 | none=>rw[hf] at hb;cases hb
 | some fn=>
  rw[hf] at hb
  simp only[Bool.and_eq_true,Bool.not_eq_true'] at hb
  have h4:fn.body≠none:=fun e=>by simp[e] at hb
  have h3 : ¬ fn.name = "runtime.NumGoroutine" := by simpa using hb.2
  simp[callFunc,hf,h3,h4]
theorem O1 (P:Program):∃n,P.types.size+Made.depth=n+1:=by
 have h:0<Made.depth:=by decide
 exact ⟨P.types.size+Made.depth-1,by omega⟩
theorem yC (xt:TypeId)(A:Addr)(a b:ByteArray):Builtin.ssaWrapNilChk_ #[xt] xt #[.pointer (some A),.string a,.string b]=pure (.pointer (some A)):=rfl
theorem JO (hh:sU G T w){t:TypeId}{name:String}{f:FuncId}{way:Option (Bool × Nat)}{x d:DV}{v:Value}(hm:ko P t name=some (f,way))(hx:kq T way x=some d)(hr:Rel G x v) :
  ∃u,(method (P.types.size+Made.depth) t v name).run P w=.ok (f,u) w/\Rel G d u:=by
 obtain ⟨n,hn⟩:=O1 P
 rw[hn]
 unfold ko at hm
 split at hm
 ·cases hm
 rename_i inf hinf
 split at hm
 ·cases hm
 rename_i m hfind
 split at hm
 rotate_left
 ·cases hm
 rename_i hpath
 have hp:m.path=#[]:=Array.eq_empty_of_size_eq_zero hpath
 split at hm
 ·cases hm
 rename_i f' pr Tw
 have hti:(typeInfo t).run P w=.ok inf w:=by simp[typeInfo,hinf]
 split at hm
 ·cases hm
 ·rename_i e hu
  split at hm
  ·rename_i hpr
   subst hpr
   obtain ⟨rfl,rfl⟩:=Prod.mk.inj (sj hm)
   obtain rfl:=sj hx
   exact ⟨v,by simp[method,hti,hfind,hp,follow,Tw,receiverAt,run_underlying hu,Go.Place.get],hr⟩
  ·rename_i hpr
   have hpr:pr=false:=by simpa using hpr
   subst hpr
   split at hm
   rotate_left
   ·cases hm
   rename_i ag sz hag hsz
   obtain ⟨rfl,rfl⟩:=Prod.mk.inj (sj hm)
   have fin:∀A u,v=.pointer (some A)->(loadVar e A).run P w=.ok u w->(method (n+1) t v name).run P w=.ok (f',u) w:=fun A u hv hl=>by
    subst hv
    simp[method,hti,hfind,hp,follow,Tw,receiverAt,run_underlying hu,Go.Place.get,strVal,yC,asAddr,hl]
   simp only[kq] at hx
   split at hx
   ·rename_i o i j
    split at hx
    ·rename_i ob hob
     split at hx
     ·rename_i row hrow
      obtain ⟨p,_,_,rfl,hA⟩:=sF hh hob hrow hr
      obtain ⟨u,hu1,hu2⟩:=oa hag hsz hA hx
      exact ⟨u,fin _ u rfl hu1,hu2⟩
     ·cases hx
    ·cases hx
   ·rename_i row j
    obtain ⟨A,rfl,_,hA⟩:=zO hh hr
    obtain ⟨u,hu1,hu2⟩:=oa hag hsz hA hx
    exact ⟨u,fin _ u rfl hu1,hu2⟩
   ·cases hx
 ·rename_i k hk hu
  split at hm
  ·cases hm
  ·rename_i hpr
   have hpr:pr=false:=by simpa using hpr
   subst hpr
   obtain ⟨rfl,rfl⟩:=Prod.mk.inj (sj hm)
   obtain rfl:=sj hx
   refine ⟨v, ?_,hr⟩
   cases k <;> first | exact (hk _ rfl).elim | simp[method,hti,hfind,hp,follow,Tw,receiverAt,run_underlying hu,Go.Place.get]
theorem Nz (hh:sU G T w){name:String}{f:FuncId}{y d:DV}{v:Value}(h:Dq E T y name=some (f,d))(hr:Rel G y v)(hb:fR E.P f=true)(args:Array Value) :
  ∃u,(callMethod v name args).run E.P w=.ok (.enter f (#[u]++args)) w/\Rel G d u:=by
 have fin:∀t x x' way,ko E.P t name=some (f,way)->kq T way x'=some d->v=.iface t x->Rel G x' x->∃u,(callMethod v name args).run E.P w=.ok (.enter f (#[u]++args)) w/\Rel G d u:=fun t x x' way hm hx hv hrx=>by
  subst hv
  obtain ⟨u,h1,h2⟩:=JO hh hm hx hrx
  exact ⟨u,by simp[callMethod,h1,gY hb],h2⟩
 have row:∀t x',tU T x' (ko E.P t name)=some (f,d)->∃way,ko E.P t name=some (f,way)/\kq T way x'=some d:=fun t x' h=>by
  cases hm:ko E.P t name with
  | none=>rw[hm] at h;cases h
  | some p=>
   obtain ⟨f',way⟩:=p
   rw[hm] at h
   simp only[tU] at h
   obtain ⟨d',h1,h2⟩:=Option.map_eq_some_iff.1 h
   obtain ⟨rfl,rfl⟩:=Prod.mk.inj h2
   exact ⟨way,rfl,h1⟩
 unfold Dq at h
 split at h
 ·rename_i t x
  obtain ⟨way,h1,h2⟩:=row t _ h
  cases hr with
  | ifc _ _ u hu=>exact fin t u _ way h1 h2 rfl hu
 ·rename_i t cs
  obtain ⟨way,h1,h2⟩:=row t _ h
  cases hr with
  | ifa _ _ vs hs hv=>exact fin t _ _ way h1 h2 rfl (.agg cs vs hs hv)
 ·cases h
theorem Af {F:dW}(hF:FOk E F){dr:Bool}{n:Nat}{fz:List Nat}{ops:Array Oper}{o:Oper}{r:bH}(hc:mJ E.P n fz ops o=some r){C:Ctx}(hn:C.n=n){st:St}{a:Act}{w:World}{K:St->Prop}(hr:ei E C st a w)(h:qd E F dr r K st)
  {next:Act->World->Prop} {Q:Exit->Act->World->Prop} (hnext:∀st' a' w',K st'->ei E C st' a' w'->next a' w'):o.wp E.P a w next Q:=by
 obtain ⟨hop,hrd,YU,_⟩:=v8 hc
 have hd:∀t,o.dst=some t->t<C.n:=fun t ht=>by rw[hn];exact HV YU t ht
 generalize aei:r.op=rop at hop
 unfold qd at h
 rw[aei,hrd] at h
 have YX:∀c:Call,c.args.map a.eval=(c.args.toList.map a.eval).toArray:=fun c=>by apply Array.ext';simp
 rcases O8 hop with ⟨c,f,l,ho,rfl,OI,hargs,hb⟩ | ⟨c,t,l,ho,rfl,OI,hargs⟩ | ⟨hok,hnc⟩ | ⟨c,x,y,name,l,ho,rfl,OI,hy,hargs⟩
 ·obtain ⟨G,hG⟩:=hr
  obtain ⟨hal,dh⟩:=ou hG hargs
  exact nj hF hd hG (vals:=c.args.map a.eval) (by simp;simpa using hal) (by rw[YX];exact dh) (by
   simp[execOp,ho,resolve,OI,Act.eval,Deferred.ofValue,invoke,gY hb]) h hnext
 ·obtain ⟨G,hG⟩:=hr
  obtain ⟨hal,dh⟩:=ou hG hargs
  have hev:=hG.ev (x:=.tmp t) rfl
  simp only[mL] at h
  split at h
  ·rename_i f a0 b0 hy
   obtain ⟨ha0,hb0,hb,h⟩:=h
   have hla:a0=#[]:=Array.eq_empty_of_size_eq_zero ha0
   have hlb:b0=#[]:=Array.eq_empty_of_size_eq_zero hb0
   subst hla hlb
   have aeu:a.eval (.tmp t)=.func (.func f) #[] #[]:=by
    rw[hy] at hev
    generalize a.eval (.tmp t)=v at hev ⊢
    cases hev
    rfl
   exact nj hF hd hG (vals:=c.args.map a.eval) (by simp;simpa using hal) (by rw[YX];exact dh) (by
    simp[execOp,ho,resolve,OI,aeu,Deferred.ofValue,invoke,gY hb]) h hnext
  ·rename_i f cs hy
   obtain ⟨hb,h⟩:=h
   rw[hy] at hev
   generalize hu:a.eval (.tmp t)=v at hev
   cases hev with
   | clo _ _ vs hs hv=>
    refine nj hF hd hG (vals:=c.args.map a.eval++vs) (by simp[hs];simpa using hal) (fun i d hi=>?_) (by
     simp[execOp,ho,resolve,OI,hu,Deferred.ofValue,invoke,gY hb]) h hnext
    have hsz:(c.args.map a.eval).size=l.length:=by simp;simpa using hal
    rw[Array.getD_eq_getD_getElem?]
    by_cases hlt:i<l.length
    ·rw[List.getElem?_append_left (by simpa using hlt)] at hi
     rw[Array.getElem?_append_left (by omega),<-Array.getD_eq_getD_getElem?,YX]
     exact dh i d hi
    ·rw[List.getElem?_append_right (by simp;omega)] at hi
     rw[Array.getElem?_append_right (by omega),<-Array.getD_eq_getD_getElem?,hsz]
     simp only[List.length_map] at hi
     exact hv _ d hi
  ·exact h.elim
 ·have h':bA (rvl E st rop) fun p=>K ((({ st with au:=p.2}:St).put o.dst p.1).fzd r.fz o.dst):=by
   cases rop <;> first | exact h | cases hnc
  rw[Rw] at h'
  cases hv:rval E st rop with
  | none=>rw[hv] at h';exact h'.elim
  | some x=>
   obtain ⟨d,cN⟩:=x
   rw[hv] at h'
   obtain ⟨G,hG⟩:=hr
   obtain ⟨nx,v,w',G',h1,h2,h3,h4⟩:=hok C G st a w d cN hG hv
   unfold Oper.wp
   rw[h1]
   rcases h2 with rfl | ⟨rfl,rfl⟩
   ·exact hnext _ _ _ h' (ei.fzd ⟨G',h3.put hd h4⟩ _ _)
   ·exact hnext _ _ _ h' (ei.fzd ⟨G',h3.put hd h4⟩ _ _)
 ·obtain ⟨G,hG⟩:=hr
  obtain ⟨hal,dh⟩:=ou hG hargs
  simp only[ET] at h
  split at h
  rotate_left
  ·exact h.elim
  rename_i f d hio
  obtain ⟨hb,h⟩:=h
  obtain ⟨u,h1,h2⟩:=Nz hG.heap hio (hG.ev hy) hb (c.args.map a.eval)
  refine nj hF hd hG (vals:=#[u]++c.args.map a.eval) (by simp;simpa [Nat.add_comm] using hal) (fun i d' hi=>?_) ?_ h hnext
  ·rcases i with _ | i
   ·simp at hi;subst hi
    rw[Array.getD_eq_getD_getElem?,Array.getElem?_append_left (by simp)]
    exact h2
   ·have:=dh i d' (by simpa using hi)
    rw[Array.getD_eq_getD_getElem?,Array.getElem?_append_right (by simp)]
    simp only[List.size_toArray,List.length_cons,List.length_nil,Nat.zero_add,Nat.add_sub_cancel]
    rw[<-Array.getD_eq_getD_getElem?,YX]
    exact this
  ·have e:(#[a.eval x]++c.args.map a.eval).extract 1 (#[a.eval x]++c.args.map a.eval).size=c.args.map a.eval:=by
    apply Array.ext';simp[List.take_of_length_le]
   have e0:(#[a.eval x]++c.args.map a.eval)[0]?=some (a.eval x):=by
    rw[Array.getElem?_append_left (by simp)]
    rfl
   simp only[execOp,ho,resolve,OI,Sem.run_bind,Sem.run_pure,Result.andThen_ok,invoke,e,e0]
   exact h1
theorem I9 (hr:dz E C G st a w){ops:Array Oper}{j t:Nat}{b:Bool}(hj:(ops[j]?).bind (·.dst)=some t)(hb:st.get t=.bool b):yielded ops a.tmps j=some b:=by
 have r:=hr.env t
 rw[hb] at r
 unfold yielded
 rw[hj]
 generalize hu:a.tmps.getD t undef=u at r
 cases r
 rw[Array.getD_eq_getD_getElem?] at hu
 cases hx:a.tmps[t]? with
 | none=>rw[hx] at hu;simp[undef] at hu
 | some x=>rw[hx] at hu;simp at hu;subst hu;simp[hx]
theorem FO (hr:dz E C G st a w){ops:Array Oper}{j t:Nat}{v:Value}(hj:(ops[j]?).bind (·.dst)=some t)(hb:st.get t=.lit v)(hv:Mu v=false):yielded ops a.tmps j=none:=by
 have r:=hr.env t
 rw[hb] at r
 unfold yielded
 rw[hj]
 generalize hu:a.tmps.getD t undef=u at r
 cases r
 rw[Array.getD_eq_getD_getElem?] at hu
 cases hx:a.tmps[t]? with
 | none=>simp[hx]
 | some x=>
  rw[hx] at hu
  simp at hu
  subst hu
  simp only[Option.bind_some,hx]
  cases x <;> first | rfl | cases hv
theorem uD {F:dW}(hF:FOk E F){dr:Bool}{n:Nat}{fz:List Nat}{ops:Array Oper}{o:Oper}{r:bH}(hc:mJ E.P n fz ops o=some r){C:Ctx}(hn:C.n=n){st:St}{a:Act}{w:World}{K:St->Prop}(hr:ei E C st a w)(h:ic E F dr r K st)
  {next:Act->World->Prop} {Q:Exit->Act->World->Prop} (hnext:∀st' a' w',K st'->ei E C st' a' w'->next a' w') :
  if Region.wanted o (yielded ops a.tmps) then o.wp E.P a w next Q\/(o.asks E.P a w/\LetsOut Q) else next (a.put o.dst undef) w:=by
 obtain ⟨_,hrd,adj,aby⟩:=v8 hc
 have YU:∀t,o.dst=some t->t<C.n:=fun t ht=>by rw[hn];exact HV adj t ht
 unfold ic at h
 rcases aby with ⟨hg1,hg2⟩ | ⟨j,t,want,hg1,hg2,hj⟩
 ·rw[hg1] at h
  rw[if_pos (by simp[Region.wanted,hg2])]
  exact .inl (Af hF hc hn hr h hnext)
 ·rw[hg1] at h
  simp only[ow] at h
  split at h
  ·rename_i b hb
   obtain ⟨G,hG⟩:=hr
   have hy:=I9 hG hj hb
   unfold cnd at h
   by_cases hw:b=want
   ·subst hw
    rw[if_pos (by simp),St.gl hb] at h
    rw[if_pos (by simp[Region.wanted,hg2,hy])]
    exact .inl (Af hF hc hn ⟨G,hG⟩ h hnext)
   ·have hbw:b=!want:=by cases b <;> cases want <;> simp_all
    rw[if_neg (by simpa using hw),St.gl (by rw[hb,hbw])] at h
    rw[if_neg (by simp[Region.wanted,hg2,hy,hw])]
    refine hnext _ _ _ h ⟨G, ?_⟩
    rw[hrd]
    exact hG.put YU (.lit _)
  ·rename_i v hb
   obtain ⟨G,hG⟩:=hr
   have hy:=FO hG hj hb h.1
   rw[if_neg (by simp[Region.wanted,hg2,hy])]
   refine hnext _ _ _ h.2 ⟨G, ?_⟩
   rw[hrd]
   exact hG.put YU (.lit _)
  ·exact h.elim
theorem x9 {E:Prg}{F:dW}(hF:FOk E F){n:Nat}{fz:List Nat}{ops:Array Oper}:∀(l:List Oper) (rl:List bH),lZ E.P n fz ops l=some rl->∀{C:Ctx},C.n=n->∀{st:St} {a:Act} {w:World} {K:St->Prop},ei E C st a w->lP E F rl K st->
  ∀{Q:Exit->Act->World->Prop},(∀st' a' w',K st'->ei E C st' a' w'->Q .normal a' w')->wpList E.P ops Q l a w
 | [],rl,hc,C,hn,st,a,w,K,hr,h,Q,hQ=>by
  obtain rfl:=sj hc
  exact hQ st a w h hr
 | o::l,rl,hc,C,hn,st,a,w,K,hr,h,Q,hQ=>by
  simp only[lZ] at hc
  cases h1:mJ E.P n fz ops o with
  | none=>rw[h1] at hc;cases hc
  | some r=>
   cases h2:lZ E.P n fz ops l with
   | none=>rw[h1,h2] at hc;cases hc
   | some l'=>
    rw[h1,h2] at hc
    obtain rfl:=sj hc
    simp only[lP] at h
    unfold wpList
    exact uD hF h1 hn hr h fun st' a' w' hk hr'=>x9 hF l l' h2 hn hr' hk hQ
theorem St.EX (d y:DV)(l:List (Nat × DV))(h:t<k):St.ins t d ((k,y)::l)=(t,d)::(k,y)::l:=by simp only[St.ins,if_pos h]
theorem St.S0 (d y:DV)(l:List (Nat × DV))(h:t=k):St.ins t d ((k,y)::l)=(t,d)::l:=by subst h;simp[St.ins]
theorem St.EY (d y:DV)(l:List (Nat × DV))(h:k<t):St.ins t d ((k,y)::l)=(k,y)::St.ins t d l:=by simp only[St.ins,if_neg (show ¬t<k by omega),if_neg (show ¬k=t by omega)]
theorem St.HB (t u : Nat) (d x : DV) (h : t ≠ u) : ∀ l : List (Nat × DV), St.ins t d (St.ins u x l) = St.ins u x (St.ins t d l)
  | [] => by
    simp only[St.ins]
    by_cases h1 : t < u
    · rw[if_pos h1, if_neg (by omega), if_neg (by omega)]
    · rw[if_neg h1, if_neg (by omega), if_pos (by omega)]
  | (k, y) :: l => by
    have ih := St.HB t u d x h l
    rcases Nat.lt_trichotomy t k with a | a | a <;> rcases Nat.lt_trichotomy u k with b | b | b <;> rcases Nat.lt_trichotomy t u with c | c | c <;>
      first
        | omega
        | (repeat (first
            | rw[ih]
            | (rw[St.EX (h := (by omega : t < u))]) | (rw[St.EX (h := (by omega : u < t))])
            | (rw[St.EX (h := (by omega : t < k))]) | (rw[St.EX (h := (by omega : u < k))])
            | (rw[St.S0 (h := (by omega : t = k))]) | (rw[St.S0 (h := (by omega : u = k))])
            | (rw[St.EY (h := (by omega : u < t))]) | (rw[St.EY (h := (by omega : t < u))])
            | (rw[St.EY (h := (by omega : k < t))]) | (rw[St.EY (h := (by omega : k < u))])))
theorem St.put_comm (st:St)(a b:Option Nat)(d x:DV)(h:∀t,a=some t->b≠some t):(st.put a d).put b x=(st.put b x).put a d:=by
 cases a with
 | none=>rfl
 | some t=>cases b with
  | none=>rfl
  | some u=>
   have:t≠u:=fun e=>h t rfl (by rw[e])
   simp only[St.put]
   rw[St.HB u t x d (fun e=>this e.symm)]
theorem pP {x:Option FS}(h:jy E x dr f args T K)(hk:∀d T',K d T'->K' d T'):jy E x dr f args T K':=by
 unfold jy at h ⊢
 split at h
 ·exact ⟨h.1,hk _ _ h.2⟩
 ·split at h
  ·exact h.elim
  ·rename_i s hd;rw[if_neg hd];exact s.mono _ _ _ h hk
 ·split at h
  ·exact h.elim
  ·rename_i hd;rw[if_neg hd];exact h.mono hk
theorem K5 {α:Type}{x:Option α}{f g:α->Prop}(h:bA x f)(hk:∀a,f a->g a):bA x g:=by
 cases x with
 | none=>exact h.elim
 | some y=>exact hk y h
theorem ym {F:dW}(h:mL E F dr d args T K)(hk:∀d T,K d T->K' d T):mL E F dr d args T K':=by
 unfold mL at h ⊢
 split at h
 ·exact ⟨h.1,h.2.1,h.2.2.1,pP h.2.2.2 hk⟩
 ·exact ⟨h.1,pP h.2 hk⟩
 ·exact h.elim
theorem Dp {F:dW}{r:Option (FuncId × DV)}(h:ET E F dr r args T K)(hk:∀d T,K d T->K' d T):ET E F dr r args T K':=by
 unfold ET at h ⊢
 split at h
 ·exact ⟨h.1,pP h.2 hk⟩
 ·exact h.elim
theorem Df {F:dW}{o:bH}{K K':St->Prop}(h:qd E F dr o K st)(hk:∀st,K st->K' st):qd E F dr o K' st:=by
 unfold qd at h ⊢
 split at h
 ·exact pP h fun d T' hh=>hk _ hh
 ·exact ym h fun d T' hh=>hk _ hh
 ·exact Dp h fun d T' hh=>hk _ hh
 ·exact K5 h fun p hh=>hk _ hh
theorem ia {F:dW}{o:bH}{K K':St->Prop}(h:ic E F dr o K st)(hk:∀st,K st->K' st):ic E F dr o K' st:=by
 unfold ic at h ⊢
 split at h
 ·exact Df h hk
 ·simp only[ow] at h ⊢
  split at h
  ·unfold cnd at h ⊢
   split at h
   ·rename_i hb;rw[if_pos hb];exact Df h hk
   ·rename_i hb;rw[if_neg hb];exact hk _ h
  ·exact ⟨h.1,hk _ h.2⟩
  ·exact h.elim
theorem Ae {E:Prg}{F:dW}:∀(l:List bH) {K K':St->Prop} {st:St},lP E F l K st->(∀st,K st->K' st)->lP E F l K' st
 | [],K,K',st,h,hk=>hk _ h
 | o::l,K,K',st,h,hk=>ia h fun st hh=>Ae l hh hk
theorem OT.wp_mono {E:Prg}{F:dW}:∀(t:OT) {K K':St->Prop} {st:St},t.wp E F K st->(∀st,K st->K' st)->t.wp E F K' st
 | .done,K,K',st,h,hk=>hk _ h
 | .mid o k,K,K',st,h,hk=>ia h fun st hh=>OT.wp_mono k hh hk
 | .op o k,K,K',st,h,hk=>ia h fun st hh=>OT.wp_mono k hh hk
 | .take o ps k,K,K',st,h,hk=>⟨h.1,ia h.2 fun st hh=>OT.wp_mono k hh hk⟩
 | .alt a b,K,K',st,h,hk=>⟨OT.wp_mono a h.1 hk,OT.wp_mono b h.2 hk⟩
def acB (E:Prg)(op:ROp)(st st':St):Prop:=∀x∈op.cZ,x.ev E st'=x.ev E st
theorem KG {x:Opd}{dst:Option Nat}(h:∀t,dst=some t->t∉x.tm):x.ev E (st.put dst d)=x.ev E st:=by
 cases dst with
 | none=>rfl
 | some t=>cases x with
  | t n=>
   simp only[Opd.ev,St.E2]
   rw[if_neg (fun e=>h t rfl (by subst e;simp[Opd.tm]))]
  | c d=>rfl
  | g n=>rfl
theorem Mo {x:Opd}(o:ay):x.ev E { st with au:=o}=x.ev E st:=by cases x <;> rfl
theorem mG {a b:List Nat}(h:oc a b=true){x:Nat}(hx:x∈a):x∉b:=by
 have:=List.all_eq_true.1 h x hx
 simpa using this
theorem kR:∀{x:Option Opd},(∀y∈qA x,y.ev E st'=y.ev E st)->e8 st' E n x=e8 st E n x
 | none,_=>rfl
 | some y,h=>by simp only[e8,h y (by simp[qA])]
theorem pM {α β:Type}{f g:β->α->β}:∀(l:List α) (b:β),(∀x∈l,∀b,f b x=g b x)->l.foldl f b=l.foldl g b
 | [],_,_=>rfl
 | x::l,b,h=>by
  simp only[List.foldl_cons]
  rw[h x (by simp) b]
  exact pM l _ fun y hy=>h y (by simp[hy])
theorem rJ {op:ROp}(hq:op.quiet=true)(he:acB E op st st')
  (ho:op.blind=false->∀x∈op.cZ,∀k z,(x.ev E st).id=some k->st.au[k]?=some z->st'.au[k]?=some z) {d:DV} {o:ay} (h:rval E st op=some (d,o)) :
  rval E st' op=some (d,st'.au)/\o=st.au:=by
 have rows:op.blind=false->∀x∈op.cZ,∀r,rowsOf st (x.ev E st)=some r->rowsOf st' (x.ev E st)=some r:=by
  intro hb x hx r hr
  have:=ho hb x hx
  cases hv:x.ev E st <;> rw[hv] at hr this <;> try exact hr
  rename_i k off n
  simp only[rowsOf] at hr ⊢
  split at hr
  ·rename_i sz rows hk
   rw[this k _ rfl hk]
   exact hr
  ·cases hr
 cases op <;> first | cases hq | skip
 case mov x=>
  simp only[rval] at h ⊢
  obtain ⟨rfl,rfl⟩:=Prod.mk.inj (sj h)
  rw[he x (by simp[ROp.cZ])];exact ⟨rfl,rfl⟩
 case pick c a b=>
  simp only[rval] at h ⊢
  rw[he c (by simp[ROp.cZ]),he a (by simp[ROp.cZ]),he b (by simp[ROp.cZ])]
  split at h
  ·obtain ⟨rfl,rfl⟩:=Prod.mk.inj (sj h);exact ⟨rfl,rfl⟩
  ·cases h
 case build zero parts=>
  simp only[rval] at h ⊢
  obtain ⟨y,hy,h2⟩:=Option.map_eq_some_iff.1 h
  obtain ⟨rfl,rfl⟩:=Prod.mk.inj h2
  exact ⟨Option.map_eq_some_iff.2 ⟨y,(pM _ _ fun x hx b=>by
   have:x.2.2.ev E st'=x.2.2.ev E st:=he x.2.2 (by simp only[ROp.cZ,List.mem_map];exact ⟨x,hx,rfl⟩)
   rw[this]).trans hy,rfl⟩,rfl⟩
 case load ag sz x=>
  simp only[rval] at h ⊢
  rw[he x (by simp[ROp.cZ])]
  have:=ho rfl x (by simp[ROp.cZ])
  split at h
  ·rename_i k i j hx
   rw[hx] at this
   split at h
   ·rename_i ob hk
    rw[this k _ rfl hk]
    split at h
    ·rename_i row hrow
     simp only[hrow]
     obtain ⟨y,hy,h2⟩:=Option.map_eq_some_iff.1 h
     obtain ⟨rfl,rfl⟩:=Prod.mk.inj h2
     exact ⟨by rw[hy];rfl,rfl⟩
    ·cases h
   ·cases h
  ·rename_i row j hx
   obtain ⟨y,hy,h2⟩:=Option.map_eq_some_iff.1 h
   obtain ⟨rfl,rfl⟩:=Prod.mk.inj h2
   exact ⟨by simp only[hy,Option.map],rfl⟩
  ·cases h
 case aF x=>
  simp only[rval] at h ⊢
  rw[he x (by simp[ROp.cZ])]
  split at h <;> first | (obtain ⟨rfl,rfl⟩:=Prod.mk.inj (sj h);exact ⟨rfl,rfl⟩) | cases h
 case bin op x y=>
  simp only[rval] at h ⊢
  rw[he x (by simp[ROp.cZ]),he y (by simp[ROp.cZ])]
  split at h
  ·rename_i k a k' b h1 h2
   obtain ⟨z,hz,h2⟩:=Option.map_eq_some_iff.1 h
   obtain ⟨rfl,rfl⟩:=Prod.mk.inj h2
   exact ⟨by rw[hz];rfl,rfl⟩
  ·obtain ⟨z,hz,h2⟩:=Option.map_eq_some_iff.1 h
   obtain ⟨rfl,rfl⟩:=Prod.mk.inj h2
   exact ⟨by rw[hz];rfl,rfl⟩
  ·cases h
 case eqB neg x y=>
  simp only[rval] at h ⊢
  rw[he x (by simp[ROp.cZ]),he y (by simp[ROp.cZ])]
  split at h
  ·obtain ⟨rfl,rfl⟩:=Prod.mk.inj (sj h);exact ⟨rfl,rfl⟩
  ·cases h
 case jM neg x y=>
  simp only[rval] at h ⊢
  rw[he x (by simp[ROp.cZ]),he y (by simp[ROp.cZ])]
  split at h
  ·obtain ⟨z,hz,h2⟩:=Option.map_eq_some_iff.1 h
   obtain ⟨rfl,rfl⟩:=Prod.mk.inj h2
   exact ⟨by rw[hz];rfl,rfl⟩
  ·split at h
   ·rename_i hn
    obtain ⟨rfl,rfl⟩:=Prod.mk.inj (sj h)
    exact ⟨by simp only[if_pos hn],rfl⟩
   ·cases h
  ·cases h
 case eqP neg x y=>
  simp only[rval] at h ⊢
  rw[he x (by simp[ROp.cZ]),he y (by simp[ROp.cZ])]
  obtain ⟨z,hz,h2⟩:=Option.map_eq_some_iff.1 h
  obtain ⟨rfl,rfl⟩:=Prod.mk.inj h2
  exact ⟨by rw[hz];rfl,rfl⟩
 case eqS neg ks x y=>
  simp only[rval] at h ⊢
  rw[he x (by simp[ROp.cZ]),he y (by simp[ROp.cZ])]
  split at h
  ·obtain ⟨z,hz,h2⟩:=Option.map_eq_some_iff.1 h
   obtain ⟨rfl,rfl⟩:=Prod.mk.inj h2
   exact ⟨by rw[hz];rfl,rfl⟩
  ·cases h
 case un op x=>
  simp only[rval] at h ⊢
  rw[he x (by simp[ROp.cZ])]
  obtain ⟨z,hz,h2⟩:=Option.map_eq_some_iff.1 h
  obtain ⟨rfl,rfl⟩:=Prod.mk.inj h2
  exact ⟨by rw[hz];rfl,rfl⟩
 case conv k x=>
  simp only[rval] at h ⊢
  rw[he x (by simp[ROp.cZ])]
  split at h
  ·obtain ⟨rfl,rfl⟩:=Prod.mk.inj (sj h);exact ⟨rfl,rfl⟩
  ·cases h
  ·split at h
   ·rename_i sz rws hrows
    rw[rows rfl x (by simp[ROp.cZ]) _ hrows]
    simp only
    split at h
    ·rename_i hc
     rw[if_pos hc]
     obtain ⟨z,hz,h2⟩:=Option.map_eq_some_iff.1 h
     obtain ⟨rfl,rfl⟩:=Prod.mk.inj h2
     exact ⟨by rw[hz];rfl,rfl⟩
    ·cases h
   ·cases h
  ·cases hq
  ·obtain ⟨rfl,rfl⟩:=Prod.mk.inj (sj h);exact ⟨rfl,rfl⟩
  ·cases hq
  ·cases h
 case slice sz x lo hi mx=>
  simp only[rval] at h ⊢
  rw[he x (by simp[ROp.cZ])]
  have hlo:∀n,e8 st' E n lo=e8 st E n lo:=fun n=>kR fun y hy=>he y (by simp[ROp.cZ,hy])
  have hhi:∀n,e8 st' E n hi=e8 st E n hi:=fun n=>kR fun y hy=>he y (by simp[ROp.cZ,hy])
  have hmx:∀n,e8 st' E n mx=e8 st E n mx:=fun n=>kR fun y hy=>he y (by simp[ROp.cZ,hy])
  have:=ho rfl x (by simp[ROp.cZ])
  simp only[hlo,hhi]
  split at h
  ·split at h
   ·split at h
    ·rename_i hc
     rw[if_pos hc]
     split at h
     ·obtain ⟨rfl,rfl⟩:=Prod.mk.inj (sj h);exact ⟨rfl,rfl⟩
     ·rename_i m
      simp only[hmx]
      split at h
      ·split at h
       ·rename_i hm;rw[if_pos hm];obtain ⟨rfl,rfl⟩:=Prod.mk.inj (sj h);exact ⟨rfl,rfl⟩
       ·cases h
      ·cases h
    ·cases h
   ·cases h
  ·rename_i k off n hx
   rw[hx] at this
   split at h
   ·split at h
    ·rename_i s rows hk
     rw[this k _ rfl hk]
     simp only
     split at h
     ·rename_i hc;rw[if_pos hc];obtain ⟨rfl,rfl⟩:=Prod.mk.inj (sj h);exact ⟨rfl,rfl⟩
     ·cases h
    ·cases h
   ·simp only[hmx]
    split at h
    ·split at h
     ·rename_i hm;rw[if_pos hm];obtain ⟨rfl,rfl⟩:=Prod.mk.inj (sj h);exact ⟨rfl,rfl⟩
     ·cases h
    ·cases h
   ·cases h
  ·cases h
 case lC x lo hi=>
  simp only[rval] at h ⊢
  rw[he x (by simp[ROp.cZ])]
  have hlo:∀n,e8 st' E n lo=e8 st E n lo:=fun n=>kR fun y hy=>he y (by simp[ROp.cZ,hy])
  have hhi:∀n,e8 st' E n hi=e8 st E n hi:=fun n=>kR fun y hy=>he y (by simp[ROp.cZ,hy])
  simp only[hlo,hhi]
  split at h
  ·split at h
   ·split at h
    ·rename_i hc;rw[if_pos hc];obtain ⟨rfl,rfl⟩:=Prod.mk.inj (sj h);exact ⟨rfl,rfl⟩
    ·cases h
   ·cases h
  ·cases h
 case p9 off x=>
  simp only[rval] at h ⊢
  rw[he x (by simp[ROp.cZ])]
  split at h <;> first | (obtain ⟨rfl,rfl⟩:=Prod.mk.inj (sj h);exact ⟨rfl,rfl⟩) | cases h
 case fld ag off sz x=>
  simp only[rval] at h ⊢
  rw[he x (by simp[ROp.cZ])]
  split at h
  ·obtain ⟨z,hz,h2⟩:=Option.map_eq_some_iff.1 h
   obtain ⟨rfl,rfl⟩:=Prod.mk.inj h2
   exact ⟨by simp only[hz,Option.map],rfl⟩
  ·cases h
 case aT sz x i=>
  simp only[rval] at h ⊢
  rw[he x (by simp[ROp.cZ]),he i (by simp[ROp.cZ])]
  have:=ho rfl x (by simp[ROp.cZ])
  split at h
  ·split at h
   ·rename_i hc
    rw[if_pos hc]
    split at h
    ·obtain ⟨rfl,rfl⟩:=Prod.mk.inj (sj h);exact ⟨rfl,rfl⟩
    ·cases h
   ·cases h
  ·rename_i k off m k' n hx hi
   rw[hx] at this
   split at h
   ·rename_i hc
    rw[if_pos hc]
    split at h
    ·rename_i s rows hk
     rw[this k _ rfl hk]
     simp only
     split at h
     ·rename_i hs;rw[if_pos hs];obtain ⟨rfl,rfl⟩:=Prod.mk.inj (sj h);exact ⟨rfl,rfl⟩
     ·cases h
    ·cases h
   ·cases h
  ·cases h
 case iz len sz x i=>
  simp only[rval] at h ⊢
  rw[he x (by simp[ROp.cZ]),he i (by simp[ROp.cZ])]
  split at h <;> first | cases h | skip
  all_goals
   split at h
   ·rename_i hc;rw[if_pos hc];obtain ⟨rfl,rfl⟩:=Prod.mk.inj (sj h);exact ⟨rfl,rfl⟩
   ·cases h
 case yK x i=>
  simp only[rval] at h ⊢
  rw[he x (by simp[ROp.cZ]),he i (by simp[ROp.cZ])]
  split at h
  ·split at h
   ·rename_i hc
    rw[if_pos hc]
    split at h
    ·obtain ⟨rfl,rfl⟩:=Prod.mk.inj (sj h);exact ⟨rfl,rfl⟩
    ·cases h
   ·cases h
  ·cases h
 case ext x i=>
  simp only[rval] at h ⊢
  rw[he x (by simp[ROp.cZ])]
  split at h
  ·split at h
   ·obtain ⟨rfl,rfl⟩:=Prod.mk.inj (sj h);exact ⟨rfl,rfl⟩
   ·cases h
  ·cases h
 case len x=>
  simp only[rval] at h ⊢
  rw[he x (by simp[ROp.cZ])]
  split at h <;> first | (obtain ⟨rfl,rfl⟩:=Prod.mk.inj (sj h);exact ⟨rfl,rfl⟩) | cases h
 case BV x=>
  simp only[rval] at h ⊢
  rw[he x (by simp[ROp.cZ])]
  split at h <;> first | (obtain ⟨rfl,rfl⟩:=Prod.mk.inj (sj h);exact ⟨rfl,rfl⟩) | cases h
 case mm isMax x y=>
  simp only[rval] at h ⊢
  rw[he x (by simp[ROp.cZ]),he y (by simp[ROp.cZ])]
  split at h
  ·obtain ⟨rfl,rfl⟩:=Prod.mk.inj (sj h);exact ⟨rfl,rfl⟩
  ·cases h
 case xg f l=>
  simp only[rval] at h ⊢
  have hl:l.map (Opd.ev E st')=l.map (Opd.ev E st):=List.map_congr_left fun x hx=>he x (by simpa [ROp.cZ] using hx)
  rw[hl]
  obtain ⟨rfl,rfl⟩:=Prod.mk.inj (sj h);exact ⟨rfl,rfl⟩
 case tg t x=>
  simp only[rval] at h ⊢
  rw[he x (by simp[ROp.cZ])]
  split at h <;> (obtain ⟨rfl,rfl⟩:=Prod.mk.inj (sj h);exact ⟨rfl,rfl⟩)
 case B9 t x=>
  simp only[rval] at h ⊢
  rw[he x (by simp[ROp.cZ])]
  split at h
  ·split at h
   ·rename_i hc;rw[if_pos hc];obtain ⟨rfl,rfl⟩:=Prod.mk.inj (sj h);exact ⟨rfl,rfl⟩
   ·cases h
  ·split at h
   ·rename_i hc;rw[if_pos hc];obtain ⟨rfl,rfl⟩:=Prod.mk.inj (sj h);exact ⟨rfl,rfl⟩
   ·cases h
  ·cases h
theorem qp (h:st'.au=st.au)(d:DV):rowsOf st' d=rowsOf st d:=by cases d <;> simp only[rowsOf,h]
theorem Rz {op:ROp}(he:acB E op st st')(ho:st'.au=st.au){p:DV × ay}(h:rval E st op=some p):rval E st' op=some p:=by
 by_cases hq:op.quiet=true
 ·obtain ⟨d,o⟩:=p
  obtain ⟨h1,h2⟩:=rJ hq he (fun _ x hx k z hk hz=>by rw[ho];exact hz) h
  rw[h1,h2,ho]
 ·cases op <;> first | exact absurd rfl hq | skip
  case box sz x=>simp only[rval] at h ⊢;rw[he x (by simp[ROp.cZ]),ho];exact h
  case alloc zero=>simp only[rval] at h ⊢;rw[ho];exact h
  case bK sz zero len parts=>
   simp only[rval] at h ⊢
   obtain ⟨y,hy,h2⟩:=Option.map_eq_some_iff.1 h
   rw[ho]
   exact Option.map_eq_some_iff.2 ⟨y,(pM _ _ fun x hx b=>by
    have:x.2.ev E st'=x.2.ev E st:=he x.2 (by simp only[ROp.cZ,List.mem_map];exact ⟨x,hx,rfl⟩)
    rw[this]).trans hy,h2⟩
  case store sz q x=>simp only[rval] at h ⊢;rw[he q (by simp[ROp.cZ]),he x (by simp[ROp.cZ]),ho];exact h
  case append sz by_ x y=>simp only[rval] at h ⊢;rw[he x (by simp[ROp.cZ]),he y (by simp[ROp.cZ]),ho,qp ho];exact h
  case copy sz x y=>simp only[rval] at h ⊢;rw[he x (by simp[ROp.cZ]),he y (by simp[ROp.cZ]),ho,qp ho];exact h
  case fY sz by_ zero n c=>simp only[rval] at h ⊢;rw[he n (by simp[ROp.cZ]),he c (by simp[ROp.cZ]),ho];exact h
  case conv k x=>simp only[rval] at h ⊢;rw[he x (by simp[ROp.cZ]),ho];simp only[qp ho];exact h
  case call f l=>cases h
  case iP y l=>cases h
  case inv x name l=>cases h
theorem RA {op:ROp}{o:ay}(h:rval E st op=some (d,o)){k:Nat}{z:Option Ob}(hz:st.au[k]?=some z)(hk:∀p∈op.wr,(p.ev E st).id≠some k):o[k]?=some z:=by
 have hlt:k<st.au.length:=(List.getElem?_eq_some_iff.1 hz).1
 by_cases hq:op.quiet=true
 ·obtain ⟨_,h2⟩:=rJ (st':=st) hq (fun _ _=>rfl) (fun _ x hx k z hk hz=>hz) h
  rw[h2];exact hz
 ·cases op <;> first | exact absurd rfl hq | skip
  case box sz x=>
   simp only[rval] at h
   split at h
   ·split at h
    ·obtain ⟨rfl,rfl⟩:=Prod.mk.inj (sj h);rw[List.getElem?_append_left hlt];exact hz
    ·cases h
   ·cases h
  case alloc zero=>simp only[rval] at h;obtain ⟨rfl,rfl⟩:=Prod.mk.inj (sj h);rw[List.getElem?_append_left hlt];exact hz
  case bK sz zero len parts=>
   simp only[rval] at h
   obtain ⟨y,hy,h2⟩:=Option.map_eq_some_iff.1 h
   obtain ⟨rfl,rfl⟩:=Prod.mk.inj h2
   rw[List.getElem?_append_left hlt];exact hz
  case store sz q x=>
   simp only[rval] at h
   have:=hk q (by simp[ROp.wr])
   split at h
   ·rename_i o' i j cs hq' hx
    rw[hq'] at this
    split at h
    ·split at h
     ·split at h
      ·obtain ⟨rfl,rfl⟩:=Prod.mk.inj (sj h)
       rw[List.getElem?_set_ne (fun e=>this (by rw[e];rfl))];exact hz
      ·cases h
     ·cases h
    ·cases h
   ·cases h
  case append sz by_ x y=>
   simp only[rval] at h
   have:=hk x (by simp[ROp.wr])
   split at h
   ·split at h
    ·obtain ⟨rfl,rfl⟩:=Prod.mk.inj (sj h);rw[List.getElem?_append_left hlt];exact hz
    ·cases h
   ·rename_i o' off n s2 new hx hy
    rw[hx] at this
    split at h
    ·split at h
     ·obtain ⟨rfl,rfl⟩:=Prod.mk.inj (sj h)
      rw[List.getElem?_append_left (by simpa using hlt),List.getElem?_set_ne (fun e=>this (by rw[e];rfl))];exact hz
     ·cases h
    ·cases h
   ·cases h
  case copy sz x y=>
   simp only[rval] at h
   have:=hk x (by simp[ROp.wr])
   split at h
   ·rename_i o' off n s2 new hx hy
    rw[hx] at this
    split at h
    ·split at h
     ·obtain ⟨rfl,rfl⟩:=Prod.mk.inj (sj h)
      rw[List.getElem?_set_ne (fun e=>this (by rw[e];rfl))];exact hz
     ·cases h
    ·cases h
   ·cases h
  case fY sz by_ zero n c=>
   simp only[rval] at h
   split at h
   ·split at h
    ·obtain ⟨rfl,rfl⟩:=Prod.mk.inj (sj h);rw[List.getElem?_append_left hlt];exact hz
    ·cases h
   ·cases h
  case conv k x=>
   simp only[rval] at h
   split at h
   ·obtain ⟨rfl,rfl⟩:=Prod.mk.inj (sj h);exact hz
   ·cases h
   ·split at h
    ·split at h
     ·obtain ⟨z',hz',h2⟩:=Option.map_eq_some_iff.1 h
      obtain ⟨rfl,rfl⟩:=Prod.mk.inj h2
      exact hz
     ·cases h
    ·cases h
   ·split at h
    ·obtain ⟨rfl,rfl⟩:=Prod.mk.inj (sj h);rw[List.getElem?_append_left hlt];exact hz
    ·cases h
   ·obtain ⟨rfl,rfl⟩:=Prod.mk.inj (sj h);exact hz
   ·split at h
    ·split at h
     ·obtain ⟨rfl,rfl⟩:=Prod.mk.inj (sj h);exact hz
     ·cases h
    ·cases h
   ·cases h
  case call f l=>cases h
  case iP y l=>cases h
  case inv x name l=>cases h
theorem St.om (dst:Option Nat)(st:St):st.fzd false dst=st:=by cases dst <;> rfl
theorem St.Aa (st:St)(a:Option Nat)(d:DV)(o:ay):({ (st.put a d) with au:=o}:St)=({ st with au:=o}:St).put a d:=by cases a <;> rfl
theorem St.qD (st:St)(a:Option Nat)(d:DV):(st.put a d).au=st.au:=by cases a <;> rfl
theorem AD {dst:Option Nat}(h:∀u,dst=some u->u≠t):(st.put dst d).get t=st.get t:=by
 cases dst with
 | none=>rfl
 | some u=>rw[St.E2,if_neg (h u rfl)]
structure xG (E:Prg) (r:bH) (ps:List Opd) (d:DV) (st:St):Prop where
 run:match r.guard with
  | none=>rval E st r.op=some (d,st.au)
  | some (t,want)=>(∃b,st.get t=.bool b/\(b=want->rval E st r.op=some (d,st.au))/\(b≠want->d=.no))\/((∃v,st.get t=.lit v/\Mu v=false)/\d=.no)
 clr:r.op.blind=true\/∀p∈ps,jb E st r.op p
theorem td {r:ROp}(h:r.quiet=true):r.tT=false:=by cases r <;> first | rfl | cases h
theorem w7 {F:dW}{r:bH}{K:St->Prop}(hn:r.op.tT=false) :
  qd E F dr r K st↔bA (rval E st r.op) fun p=>K ((({ st with au:=p.2}:St).put r.dst p.1).fzd r.fz r.dst):=by
 unfold qd
 rw[<-Rw]
 generalize r.op=op at hn ⊢
 cases op <;> first | exact Iff.rfl | cases hn
theorem xG.of {F:dW}{r:bH}{K:St->Prop}(hq:r.op.quiet=true)(hz:r.fz=false)(hc:r.op.blind=true\/∀p∈ps,jb E st r.op p)(h:ic E F dr r K st) :
  ∃d,xG E r ps d st/\K (st.put r.dst d):=by
 have run:qd E F dr r K st->∃d,rval E st r.op=some (d,st.au)/\K (st.put r.dst d):=by
  intro h
  rw[w7 (td hq)] at h
  cases hv:rval E st r.op with
  | none=>rw[hv] at h;exact h.elim
  | some p=>
   obtain ⟨d,o⟩:=p
   obtain ⟨_,rfl⟩:=rJ (st':=st) hq (fun _ _=>rfl) (fun _ x hx k z hk hz=>hz) hv
   rw[hv,hz] at h
   simp only[bA,St.om] at h
   exact ⟨d,rfl,h⟩
 unfold ic at h
 cases hg:r.guard with
 | none=>
  rw[hg] at h
  obtain ⟨d,h1,h2⟩:=run h
  exact ⟨d,⟨by rw[hg];exact h1,hc⟩,h2⟩
 | some x=>
  obtain ⟨t,want⟩:=x
  rw[hg] at h
  simp only[ow] at h
  split at h
  ·rename_i b hb
   unfold cnd at h
   by_cases hw:b=want
   ·rw[if_pos (by simpa using hw),<-hw,St.gl hb] at h
    obtain ⟨d,h1,h2⟩:=run h
    exact ⟨d,⟨by rw[hg];exact .inl ⟨b,hb,fun _=>h1,fun h=>absurd hw h⟩,hc⟩,h2⟩
   ·have hbw:b=!want:=by cases b <;> cases want <;> simp_all
    rw[if_neg (by simpa using hw),<-hbw,St.gl hb] at h
    exact ⟨.no,⟨by rw[hg];exact .inl ⟨b,hb,fun h=>absurd h hw,fun _=>rfl⟩,hc⟩,h⟩
  ·rename_i v hb
   exact ⟨.no,⟨by rw[hg];exact .inr ⟨⟨v,hb,h.1⟩,rfl⟩,hc⟩,h.2⟩
  ·exact h.elim
theorem xG.step {F:dW}{r:bH}{K:St->Prop}(hq:r.op.quiet=true)(hz:r.fz=false)(hs:xG E r ps d st)(h:K (st.put r.dst d)):ic E F dr r K st:=by
 have run:rval E st r.op=some (d,st.au)->qd E F dr r K st:=fun hv=>by
  rw[w7 (td hq),hv,hz]
  simp only[bA,St.om]
  exact h
 have h1:=hs.run
 unfold ic
 cases hg:r.guard with
 | none=>rw[hg] at h1;exact run h1
 | some x=>
  obtain ⟨t,want⟩:=x
  rw[hg] at h1
  rcases h1 with ⟨b,hb,h2,h3⟩ | ⟨⟨v,hb,hv⟩,h3⟩
  ·simp only[hb,ow]
   unfold cnd
   by_cases hw:b=want
   ·rw[if_pos (by simpa using hw),<-hw,St.gl hb];exact run (h2 hw)
   ·have hbw:b=!want:=by cases b <;> cases want <;> simp_all
    rw[if_neg (by simpa using hw),<-hbw,St.gl hb,<-h3 hw]
    exact h
  ·simp only[hb,ow]
   exact ⟨hv,by rw[<-h3];exact h⟩
theorem xG.keep {r:bH}(hq:r.op.quiet=true)(hs:xG E r ps d st){dst:Option Nat}{x:DV}{o:ay}(bY:∀t,dst=some t->t∉r.looks)(hps:r.op.blind=true\/∀p∈ps,∀t,dst=some t->t∉p.tm)
  (ho:r.op.blind=false->∀y∈r.op.cZ,∀k z,(y.ev E st).id=some k->st.au[k]?=some z->o[k]?=some z):xG E r ps d (({ st with au:=o}:St).put dst x):=by
 have hev:acB E r.op st (({ st with au:=o}:St).put dst x):=fun y hy=>by
  rw[KG,Mo]
  intro t ht hm
  exact bY t ht (by simp only[bH.looks,ROp.tms,List.mem_append,List.mem_flatMap];exact .inl ⟨y,hy,hm⟩)
 have hrun:rval E st r.op=some (d,st.au)->rval E (({ st with au:=o}:St).put dst x) r.op=some (d,(({ st with au:=o}:St).put dst x).au):=fun hv=>
  (rJ hq hev (fun hb y hy k z hk hz=>by rw[St.qD];exact ho hb y hy k z hk hz) hv).1
 refine ⟨?_, ?_⟩
 ·have h1:=hs.run
  cases hg:r.guard with
  | none=>rw[hg] at h1;exact hrun h1
  | some q=>
   obtain ⟨t,want⟩:=q
   rw[hg] at h1
   have hgt:(({ st with au:=o}:St).put dst x).get t=st.get t:=AD (st:={ st with au:=o}) (fun u hu e=>bY u hu (by subst e;simp[bH.looks,hg]))
   rcases h1 with ⟨b,hb,h2,h3⟩ | ⟨⟨v,hb,hv⟩,h3⟩
   ·exact .inl ⟨b,hgt.trans hb,fun h=>hrun (h2 h),h3⟩
   ·exact .inr ⟨⟨v,hgt.trans hb,hv⟩,h3⟩
 ·rcases hs.clr with hb | hc
  ·exact .inl hb
  ·rcases hps with hb | hps
   ·exact .inl hb
   ·refine .inr fun p hp=>?_
    intro y hy k hk
    rw[hev y hy] at hk
    rw[KG (fun t ht=>hps p hp t ht),Mo]
    exact hc p hp y hy k hk
structure MF (r:bH) (ps:List Opd) (y:bH):Prop where
 apart:Lc r y=true
 fz:y.fz=false
 wr:r.op.blind=true\/(∀p∈y.op.wr,p∈ps)/\∀p∈ps,oc p.tm y.sets=true
theorem Jv {F:dW}{r y:bH}{K:St->Prop}(hdr:dr=false->r.op.blind=true)(hq:r.op.quiet=true)(hy:MF r ps y)(hs:xG E r ps d st)(h:ic E F dr y K (st.put r.dst d)) :
  ic E F dr y (fun st'=>xG E r ps d st'/\K (st'.put r.dst d)) st:=by
 have ha:=hy.apart
 simp only[Lc,Bool.and_eq_true] at ha
 obtain ⟨ha1,ha2⟩:=ha
 have hry:∀t,r.dst=some t->t∉y.looks/\∀u,y.dst=some u->t≠u:=fun t ht=>by
  have:=mG ha1 (x:=t) (by simp[bH.sets,ht])
  simp only[List.mem_append,not_or] at this
  exact ⟨this.1,fun u hu e=>this.2 (by subst e;simp[bH.sets,hu])⟩
 have hyr:∀t,y.dst=some t->t∉r.looks:=fun t ht=>mG ha2 (x:=t) (by simp[bH.sets,ht])
 have hyp:r.op.blind=true\/∀p∈ps,∀t,y.dst=some t->t∉p.tm:=hy.wr.imp id fun h p hp t ht hm=>mG (h.2 p hp) hm (by simp[bH.sets,ht])
 have hev:∀x∈y.op.cZ,x.ev E (st.put r.dst d)=x.ev E st:=fun x hx=>KG fun t ht hm=>(hry t ht).1 (by simp only[bH.looks,ROp.tms,List.mem_append,List.mem_flatMap];exact .inl ⟨x,hx,hm⟩)
 have HH:∀(st:St) (u:DV),(st.put r.dst d).put y.dst u=(st.put y.dst u).put r.dst d:=fun st u=>St.put_comm st _ _ _ _ fun t ht hu=>(hry t ht).2 t hu rfl
 have ZQ:dr=false->∀(K:St->Prop) (u:DV) (T':ay),K ((({ (st.put r.dst d) with au:=T'}:St).put y.dst u).fzd y.fz y.dst)->
   xG E r ps d ((({ st with au:=T'}:St).put y.dst u).fzd y.fz y.dst)/\K (((({ st with au:=T'}:St).put y.dst u).fzd y.fz y.dst).put r.dst d):=fun hd K u T' h=>by
  simp only[hy.fz,St.om,St.Aa] at h ⊢
  rw[HH] at h
  exact ⟨hs.keep hq hyr hyp (fun hb=>by rw[hdr hd] at hb;cases hb),h⟩
 have op:∀{K:St->Prop},qd E F dr y K (st.put r.dst d)->qd E F dr y (fun st'=>xG E r ps d st'/\K (st'.put r.dst d)) st:=by
  intro K h
  by_cases hc:∃f l,y.op=.call f l
  ·obtain ⟨f,l,hop⟩:=hc
   unfold qd at h ⊢
   rw[hop] at h ⊢
   simp only at h ⊢
   have hl:l.map (Opd.ev E (st.put r.dst d))=l.map (Opd.ev E st):=List.map_congr_left fun x hx=>hev x (by rw[hop];exact hx)
   rw[hl,St.qD] at h
   unfold jy at h ⊢
   split at h
   ·rename_i s hs'
    simp only[hy.fz,St.om,St.Aa] at h ⊢
    rw[HH] at h
    exact ⟨h.1,hs.keep hq hyr hyp (fun hb x hx k z hk hz=>by rw[List.getElem?_append_left (List.getElem?_eq_some_iff.1 hz).1];exact hz),h.2⟩
   ·rename_i s hs'
    cases dr with
    | true=>exact h.elim
    | false=>exact s.mono _ _ _ h fun u T' hh=>ZQ rfl K u T' hh
   ·cases dr with
    | true=>exact h.elim
    | false=>exact aj.mono h fun u T' hh=>ZQ rfl K u T' hh
  ·by_cases hcd:∃q l,y.op=.iP q l
   ·obtain ⟨q,l,hop⟩:=hcd
    unfold qd at h ⊢
    rw[hop] at h ⊢
    cases dr with
    | true=>exact (E9 h).elim
    | false=>
     simp only at h ⊢
     have hl:l.map (Opd.ev E (st.put r.dst d))=l.map (Opd.ev E st):=List.map_congr_left fun x hx=>hev x (by rw[hop];exact List.mem_cons_of_mem _ hx)
     rw[hl,St.qD,hev q (by rw[hop];exact List.mem_cons_self ..)] at h
     exact ym h fun u T' hh=>ZQ rfl K u T' hh
   by_cases hci:∃q nm l,y.op=.inv q nm l
   ·obtain ⟨q,nm,l,hop⟩:=hci
    unfold qd at h ⊢
    rw[hop] at h ⊢
    cases dr with
    | true=>exact (Kw h).elim
    | false=>
     simp only at h ⊢
     have hl:l.map (Opd.ev E (st.put r.dst d))=l.map (Opd.ev E st):=List.map_congr_left fun x hx=>hev x (by rw[hop];exact List.mem_cons_of_mem _ hx)
     rw[hl,St.qD,hev q (by rw[hop];exact List.mem_cons_self ..)] at h
     exact Dp h fun u T' hh=>ZQ rfl K u T' hh
   have hn:y.op.tT=false:=by
    cases hy2:y.op <;> first | rfl | exact (hcd ⟨_,_,hy2⟩).elim | exact (hc ⟨_,_,hy2⟩).elim | exact (hcd ⟨_,_,rfl⟩).elim | exact (hc ⟨_,_,rfl⟩).elim | exact (hci ⟨_,_,_,hy2⟩).elim | exact (hci ⟨_,_,_,rfl⟩).elim
   rw[w7 hn] at h ⊢
   cases hv:rval E (st.put r.dst d) y.op with
   | none=>rw[hv] at h;exact h.elim
   | some p=>
    have hv2:=Rz (st':=st) (fun x hx=>(hev x hx).symm) (St.qD st r.dst d).symm hv
    rw[hv] at h
    rw[hv2]
    obtain ⟨u,o⟩:=p
    simp only[bA,hy.fz,St.om,St.Aa] at h ⊢
    rw[HH] at h
    refine ⟨hs.keep hq hyr hyp (fun hb x hx k z hk hz=>RA hv2 hz fun p hp e=>?_),h⟩
    rcases hy.wr with hb' | ⟨hw,_⟩
    ·rw[hb] at hb';cases hb'
    ·rcases hs.clr with hb' | abC
     ·rw[hb] at hb';cases hb'
     ·exact abC p (hw p hp) x hx k hk e
 unfold ic at h ⊢
 cases hg:y.guard with
 | none=>rw[hg] at h;exact op h
 | some q=>
  obtain ⟨t,want⟩:=q
  rw[hg] at h
  simp only at h ⊢
  have hgt:(st.put r.dst d).get t=st.get t:=AD fun u hu e=>(hry u hu).1 (by subst e;simp[bH.looks,hg])
  simp only[ow] at h ⊢
  cases hb:st.get t <;> rw[hgt,hb] at h <;> first | exact h.elim | skip
  ·rename_i b
   simp only at h ⊢
   unfold cnd at h ⊢
   by_cases hw:b=want
   ·rw[if_pos (by simpa using hw),<-hw,St.gl (by rw[hgt,hb])] at h
    rw[if_pos (by simpa using hw),<-hw,St.gl hb]
    exact op h
   ·have hbw:b=!want:=by cases b <;> cases want <;> simp_all
    rw[if_neg (by simpa using hw),<-hbw,St.gl (by rw[hgt,hb]),HH] at h
    rw[if_neg (by simpa using hw),<-hbw,St.gl hb]
    exact ⟨hs.keep hq hyr hyp (o:=st.au) (fun hb x hx k z hk hz=>hz),h⟩
  ·simp only at h ⊢
   rw[HH] at h
   exact ⟨h.1,hs.keep hq hyr hyp (o:=st.au) (fun hb x hx k z hk hz=>hz),h.2⟩
def Vi (E:Prg)(F:dW)(ops:Array Oper)(rl:List bH)(en:List Nat):Nat->Array Bool->(St->Prop)->St->Prop
 | 0,listed,K,st=>Region.ready .any ops listed=[]/\K st
 | fuel+1,listed,K,st=>(Region.ready .any ops listed=[]->K st)/\
  ∀i∈Region.ready .any ops listed,∀r,rl[i]?=some r->ic E F (!en.contains i) r (Vi E F ops rl en fuel (listed.setIfInBounds i true) K) st
theorem A5 {E:Prg}{F:dW}(hF:FOk E F){n:Nat}{fz:List Nat}{ops:Array Oper}{rl:List bH}{en:List Nat}(hc:lZ E.P n fz ops ops.toList=some rl){C:Ctx}(hn:C.n=n){K:St->Prop}{Q:Exit->Act->World->Prop}
  (hQ:∀st' a' w',K st'->ei E C st' a' w'->Q .normal a' w'):∀(fuel:Nat) (listed:Array Bool) (st:St) (a:Act) (w:World),ei E C st a w->Vi E F ops rl en fuel listed K st->wpAny E.P .any ops Q fuel listed a w
 | 0,listed,st,a,w,hr,h=>⟨h.1,hQ _ _ _ h.2 hr⟩
 | fuel+1,listed,st,a,w,hr,h=>by
  refine ⟨fun h0=>hQ _ _ _ (h.1 h0) hr,fun i hi=>?_⟩
  obtain ⟨hun,o,ho,_⟩:=mem_ready.1 hi
  obtain ⟨hlen,qe⟩:=yg hc
  have hlt:i<rl.length:=by rw[hlen];simpa using (Array.getElem?_eq_some_iff.1 ho).1
  have hr2:=List.getElem?_eq_getElem hlt
  have hco:=qe i o _ (by rw[Array.getElem?_toList];exact ho) hr2
  unfold wpOp
  rw[ho]
  exact uD hF hco hn hr (h.2 i hi _ hr2) fun st' a' w' hk hr'=>A5 hF hc hn hQ fuel _ st' a' w' hr' hk
def pX (ops:Array Oper)(listed:Array Bool):Prop:=∀j,listed.getD j false=true->∀k∈xC ops j,listed.getD k false=true
theorem Ks (h:k∈xC ops j):∃o e,ops[j]?=some o/\e∈o.after/\Region.binds .any e=true/\e.on=k:=by
 unfold xC at h
 split at h
 ·rename_i o ho
  obtain ⟨e,he,hk⟩:=List.mem_map.1 h
  obtain ⟨h1,h2⟩:=List.mem_filter.1 he
  exact ⟨o,e,ho,by simpa using h1,h2,hk⟩
 ·cases h
theorem xq {l:Array Bool}(h:l.getD k true=false):l.getD k false=false:=by
 rcases Nat.lt_or_ge k l.size with h' | h'
 ·simp[h'] at h ⊢;exact h
 ·simp[Array.getElem?_eq_none h'] at h
theorem oP (h:j∈Region.ready .any ops listed):∀k∈xC ops j,listed.getD k false=true:=fun k hk=>by
 obtain ⟨o,e,ho,he,hb,rfl⟩:=Ks hk
 obtain ⟨_,o',ho',hall⟩:=mem_ready.1 h
 obtain rfl:=sj (ho.symm.trans ho')
 exact hall e he hb
theorem HK {l:Array Bool}:(l.setIfInBounds i true).getD k false=true↔l.getD k false=true\/(k=i/\i<l.size):=by
 rcases Nat.lt_or_ge k l.size with h' | h'
 ·by_cases e:k=i
  ·subst e;simp[h']
  ·have e':¬i=k:=fun h=>e h.symm
   simp[h',Array.getElem_setIfInBounds,e,e']
 ·simp[h',Nat.not_lt.2 h']
  intro h;omega
theorem pX.step (hc:pX ops listed)(h:j∈Region.ready .any ops listed):pX ops (listed.setIfInBounds j true):=fun i hi k hk=>by
 rw[HK] at hi ⊢
 rcases hi with hi | ⟨rfl,_⟩
 ·exact .inl (hc i hi k hk)
 ·exact .inl (oP h k hk)
theorem pX.none (ops:Array Oper)(n:Nat):pX ops (Array.replicate n false):=fun j hj=>by
 rcases Nat.lt_or_ge j n with h' | h'
 ·simp[h'] at hj
 ·simp[Nat.not_lt.2 h'] at hj
theorem qk {acc:List Nat}{i:Nat}:∀{l:List Nat} {m:Nat},(Ku acc l m).testBit i=true->m.testBit i=true\/∃k∈l,k=i\/(acc.getD k 0).testBit i=true
 | [],m,h=> .inl h
 | k::l,m,h=>by
  rcases qk (l:=l) h with h1 | ⟨k',h1,h2⟩
  ·rw[Nat.testBit_or,Nat.testBit_or,Bool.or_eq_true,Bool.or_eq_true] at h1
   rcases h1 with (h1 | h1) | h1
   ·exact .inl h1
   ·refine .inr ⟨k,by simp,.inl ?_⟩
    rw[Nat.one_shiftLeft,Nat.testBit_two_pow] at h1
    simpa using h1
   ·exact .inr ⟨k,by simp,.inr h1⟩
  ·exact .inr ⟨k',List.mem_cons_of_mem _ h1,h2⟩
theorem wh (ops:Array Oper):∀n,(sS ops n).length=n
 | 0=>rfl
 | n+1=>by simp[sS,wh ops n]
theorem k6 {ops:Array Oper}{listed:Array Bool}(hc:pX ops listed){i:Nat}:∀(n j:Nat),((sS ops n).getD j 0).testBit i=true->(∀k∈xC ops j,listed.getD k false=true)->listed.getD i false=true
 | 0,j,h,_=>by simp[sS] at h
 | n+1,j,h,hd=>by
  rw[sS] at h
  rcases Nat.lt_or_ge j n with h1 | h1
  ·rw[List.getD_eq_getElem?_getD,List.getElem?_append_left (by rw[wh];exact h1),<-List.getD_eq_getElem?_getD] at h
   exact k6 hc n j h hd
  ·rw[List.getD_eq_getElem?_getD,List.getElem?_append_right (by rw[wh];exact h1),wh] at h
   rcases Nat.eq_or_lt_of_le h1 with h2 | h2
   ·subst h2
    simp at h
    rcases qk h with h3 | ⟨k,h3,h4⟩
    ·simp at h3
    ·rcases h4 with rfl | h4
     ·exact hd _ h3
     ·exact k6 hc n k h4 (hc k (hd k h3))
   ·have:j-n≠0:=by omega
    obtain ⟨m,hm⟩:=Nat.exists_eq_succ_of_ne_zero this
    rw[hm] at h
    simp at h
theorem Kr {anc:List Nat}{rl:List bH}{y:bH}(hj:ops[j]?=some o)(hy:rl[j]?=some y)(hne:j≠i)(hun:listed.getD j true=false)
  (hno:(anc.getD j 0).testBit i=false):y∈D9 ops anc rl listed i:=by
 unfold D9
 refine List.mem_filterMap.2 ⟨j,List.mem_filter.2 ⟨List.mem_range.2 (Array.getElem?_eq_some_iff.1 hj).1, ?_⟩,hy⟩
 simp only[hun,hno,Bool.not_false,Bool.and_true,bne_iff_ne,ne_eq,hne,not_false_eq_true]
theorem On {anc:List Nat}{rl:List bH}(e:Nat)(h:(SP ops anc rl).contains e=true):Hj ops anc rl e=true:=by
 have h1:=(List.mem_filter.1 (List.contains_iff_mem.1 h)).2
 rw[Bool.and_eq_true] at h1
 exact h1.2
theorem Ld {F:dW}{rl:List bH}{en:List Nat}(hen:∀e,en.contains e=true->Hj ops (sS ops ops.size) rl e=true){i:Nat}{r:bH}{ps:List Opd}{d:DV}{K:St->Prop}(hr:rl[i]?=some r)(hq:r.op.quiet=true)(hz:r.fz=false)(N:Nat) :
  ∀(fuel:Nat) (listed:Array Bool) (st:St),pX ops listed->
   (∀j o y,ops[j]?=some o->rl[j]?=some y->j≠i->listed.getD j true=false->((sS ops N).getD j 0).testBit i=false->MF r ps y)->
   i∈Region.ready .any ops listed->xG E r ps d st->
   Vi E F ops rl en fuel (listed.setIfInBounds i true) K (st.put r.dst d)->Vi E F ops rl en (fuel+1) listed K st:=by
 intro fuel
 induction fuel with
 | zero=>
  intro listed st hcl _ hi hs H
  refine ⟨fun h=>(by rw[h] at hi;cases hi),fun j hj y hy=>?_⟩
  by_cases hji:j=i
  ·subst hji
   obtain rfl:=sj (hr.symm.trans hy)
   exact hs.step hq hz H
  ·have:=ready_mono hj hji
   rw[H.1] at this
   cases this
 | succ fuel ih=>
  intro listed st hcl hfree hi hs H
  refine ⟨fun h=>(by rw[h] at hi;cases hi),fun j hj y hy=>?_⟩
  by_cases hji:j=i
  ·subst hji
   obtain rfl:=sj (hr.symm.trans hy)
   exact hs.step hq hz H
  ·have h1:=H.2 j (ready_mono hj hji) y hy
   obtain ⟨abu,oj,hoj,hall⟩:=mem_ready.1 hj
   have hnot:((sS ops N).getD j 0).testBit i=false:=by
    cases hb:((sS ops N).getD j 0).testBit i with
    | false=>rfl
    | true=>
     have h1:=k6 hcl N j hb (oP hj)
     have h0:=(mem_ready.1 hi).1
     rw[xq h0] at h1
     cases h1
   have hdr:(!en.contains j)=false->r.op.blind=true:=by
    intro he
    rw[Bool.not_eq_false'] at he
    obtain ⟨aer,oi,hoi,_⟩:=mem_ready.1 hi
    have hm:=hen j he
    unfold Hj at hm
    have:=List.all_eq_true.1 hm i (List.mem_range.2 (Array.getElem?_eq_some_iff.1 hoi).1)
    simp only[Bool.or_eq_true,beq_iff_eq,Ne.symm hji,false_or,hr] at this
    rcases this with (h2 | h2) | h2
    ·have h3:=k6 hcl _ j h2 (oP hj)
     rw[xq aer] at h3
     cases h3
    ·have h3:=k6 hcl _ i h2 (oP hi)
     rw[xq abu] at h3
     cases h3
    ·exact h2
   have h2:=Jv hdr hq (hfree j oj y hoj hy hji abu hnot) hs h1
   have abA:∀k o z,ops[k]?=some o->rl[k]?=some z->k≠i->(listed.setIfInBounds j true).getD k true=false->
     ((sS ops N).getD k 0).testBit i=false->MF r ps z:=fun k o z hk hz hki hun hno=>by
    refine hfree k o z hk hz hki ?_ hno
    by_cases hjk:j=k
    ·subst hjk;exact abu
    ·rw[getD_set_ne true hjk] at hun;exact hun
   refine ia h2 fun st' h3=>ih (listed.setIfInBounds j true) st' (hcl.step hj) abA (ready_mono hi (Ne.symm hji)) h3.1 ?_
   rw[Array.setIfInBounds_comm _ _ hji]
   exact h3.2
theorem BA {anc:List Nat}{rl:List bH}{r:bH}(h:zE ops anc rl listed i=some (r,ps)):rl[i]?=some r/\r.op.quiet=true/\r.fz=false/\
  ∀y∈D9 ops anc rl listed i,MF r ps y:=by
 unfold zE at h
 split at h
 ·rename_i r' hr'
  simp only at h
  split at h
  ·rename_i hc
   simp only[Bool.and_eq_true,Bool.not_eq_true',List.all_eq_true] at hc
   obtain ⟨⟨h1,h2⟩,h3⟩:=hc
   split at h
   ·rename_i hb
    obtain ⟨rfl,rfl⟩:=Prod.mk.inj (sj h)
    exact ⟨hr',h1,h2,fun y hy=>⟨(h3 y hy).1,(h3 y hy).2,.inl hb⟩⟩
   ·split at h
    ·rename_i hp
     obtain ⟨rfl,rfl⟩:=Prod.mk.inj (sj h)
     simp only[List.all_eq_true] at hp
     exact ⟨hr',h1,h2,fun y hy=>⟨(h3 y hy).1,(h3 y hy).2,.inr ⟨fun p hp'=>List.mem_flatMap.2 ⟨y,hy,hp'⟩,fun p hp'=>hp p hp' y hy⟩⟩⟩
    ·cases h
  ·cases h
 ·cases h
theorem qL {α β:Type}{f:α->Option β}:∀{l:List α} {x:α} {y:β},sJ f l=some (x,y)->x∈l/\f x=some y
 | [],x,y,h=>by cases h
 | a::l,x,y,h=>by
  simp only[sJ] at h
  split at h
  ·rename_i z hz
   obtain ⟨rfl,rfl⟩:=Prod.mk.inj (sj h)
   exact ⟨by simp,hz⟩
  ·obtain ⟨h1,h2⟩:=qL h
   exact ⟨by simp[h1],h2⟩
theorem yq {E:Prg}{F:dW}{g:Nat->Option OT}{K:St->Prop}{st:St}:∀{l:List Nat} {t:OT},A8 g l=some t->t.wp E F K st->∀i∈l,∃t',g i=some t'/\t'.wp E F K st
 | [],t,h,_=>by cases h
 | [i],t,h,hw=>by
  simp only[A8] at h
  intro j hj
  simp at hj;subst hj
  exact ⟨t,h,hw⟩
 | i::k::l,t,h,hw=>by
  simp only[A8] at h
  split at h
  ·rename_i a b ha hb
   obtain rfl:=sj h
   intro j hj
   rcases List.mem_cons.1 hj with rfl | hj
   ·exact ⟨a,ha,hw.1⟩
   ·exact yq (l:=k::l) hb hw.2 j hj
  ·cases h
theorem nr {E:Prg}{F:dW}{ops:Array Oper}{rl:List bH}{en:List Nat}(hen:∀e,en.contains e=true->Hj ops (sS ops ops.size) rl e=true){K:St->Prop}:∀(fuel:Nat) (listed:Array Bool) (t:OT) (st:St),pX ops listed->AO ops (sS ops ops.size) rl en fuel listed=some t->t.wp E F K st->Vi E F ops rl en fuel listed K st
 | 0,listed,t,st,hcl,hc,h=>by
  simp only[AO] at hc
  split at hc
  ·rename_i h0
   obtain rfl:=sj hc
   exact ⟨h0,h⟩
  ·cases hc
 | fuel+1,listed,t,st,hcl,hc,h=>by
  simp only[AO] at hc
  split at hc
  ·rename_i h0
   obtain rfl:=sj hc
   exact ⟨fun _=>h,fun i hi=>by rw[h0] at hi;cases hi⟩
  ·rename_i hne
   split at hc
   ·rename_i i r ps hfs
    obtain ⟨hi,htk⟩:=qL hfs
    obtain ⟨hr,hq,hz,hrv⟩:=BA htk
    obtain ⟨t',ht',rfl⟩:=Option.map_eq_some_iff.1 hc
    obtain ⟨abC,hst⟩:=h
    obtain ⟨d,hs,hk⟩:=xG.of hq hz (.inr abC) hst
    exact Ld hen hr hq hz ops.size fuel listed st hcl (fun j o y hj hy hne hun hno=>hrv y (Kr hj hy hne hun hno)) hi hs (nr hen fuel _ t' _ (hcl.step hi) ht' hk)
   ·refine ⟨fun h0=>(hne h0).elim,fun i hi r hr=>?_⟩
    obtain ⟨t',ht',hw⟩:=yq hc h i hi
    rw[hr] at ht'
    simp only at ht'
    split at ht'
    ·rename_i he
     obtain ⟨t2,ht2,rfl⟩:=Option.map_eq_some_iff.1 ht'
     rw[he]
     exact ia hw fun st' hh=>nr hen fuel _ t2 st' (hcl.step hi) ht2 hh
    ·rename_i he
     obtain ⟨t2,ht2,rfl⟩:=Option.map_eq_some_iff.1 ht'
     rw[Bool.eq_false_iff.2 he]
     exact ia hw fun st' hh=>nr hen fuel _ t2 st' (hcl.step hi) ht2 hh
theorem AWp.mono {c:Code}{Q Q':Exit->St->Prop}(h:AWp E n c Q st)(hQ:∀e st,Q e st->Q' e st):AWp E n c Q' st:=
 fun C a w hn hr=>Code.wp_mono (fun e a' w' ⟨st',h1,h2⟩=>⟨st',hQ _ _ h1,h2⟩) (h C a w hn hr)
theorem RC.sound {E:Prg}{F:dW}(hF:FOk E F){n:Nat}:∀(c:Code) (ann:List Ann) (rc:RC) (Q:Exit->St->Prop) (st:St),comp E.P n ann c=some rc->rc.wp E F n Q st->AWp E n c Q st
 | .skip,ann,rc,Q,st,hc,h=>by
  obtain rfl:=sj hc
  exact fun C a w hn hr=>wp_skip ⟨st,h,hr⟩
 | .region id ops draw,ann,rc,Q,st,hc,h=>by
  simp only[comp] at hc
  cases hl:lZ E.P n (yp ann id).fz ops ops.toList with
  | none=>rw[hl] at hc;cases hc
  | some l=>
   rw[hl] at hc
   simp only at hc
   cases draw with
   | true=>
    simp only[if_true] at hc
    split at hc
    ·rename_i hm
     obtain ⟨t,ht,rfl⟩:=Option.map_eq_some_iff.1 hc
     intro C a w hn hr
     refine wp_region_any hm (A5 hF hl hn (K:=fun st'=>Q .normal (st'.cut (yp ann id).lo (yp ann id).keep)) (fun st' a' w' hk hr'=>⟨_,hk,hr'.cut _ _⟩) _ _ st a _ ?_ (nr On _ _ t st (pX.none _ _) ht h))
     obtain ⟨G,hG⟩:=hr
     exact ⟨G,hG.drew⟩
    ·cases hc
   | false=>
    simp only[Bool.false_eq_true,if_false] at hc
    obtain rfl:=sj hc
    intro C a w hn hr
    exact wp_region_list (x9 hF _ _ hl hn hr h fun st' a' w' hk hr'=>⟨_,hk,hr'.cut _ _⟩)
 | .seq x y,ann,rc,Q,st,hc,h=>by
  simp only[comp] at hc
  cases hx:comp E.P n ann x with
  | none=>rw[hx] at hc;cases hc
  | some x'=>
   cases hy:comp E.P n ann y with
   | none=>rw[hx,hy] at hc;cases hc
   | some y'=>
    rw[hx,hy] at hc
    obtain rfl:=sj hc
    intro C a w hn hr
    refine wp_seq (Code.wp_mono ?_ (RC.sound hF x ann x' _ st hx h C a w hn hr))
    rintro e a' w' ⟨st',h1,h2⟩
    cases e with
    | normal=>exact RC.sound hF y ann y' Q st' hy h1 C a' w' hn h2
    | _=>exact ⟨st',h1,h2⟩
 | .cond c x y,ann,rc,Q,st,hc,h=>by
  simp only[comp] at hc
  cases hcc:bV c with
  | none=>rw[hcc] at hc;cases hc
  | some c'=>
   cases hx:comp E.P n ann x with
   | none=>rw[hcc,hx] at hc;cases hc
   | some x'=>
    cases hy:comp E.P n ann y with
    | none=>rw[hcc,hx,hy] at hc;cases hc
    | some y'=>
     rw[hcc,hx,hy] at hc
     obtain rfl:=sj hc
     intro C a w hn hr
     simp only[RC.wp] at h
     split at h
     ·rename_i b hb
      obtain ⟨G,hG⟩:=hr
      have r:=hG.ev hcc
      rw[hb] at r
      generalize hu:a.eval c=u at r
      cases r
      unfold cnd at h
      cases b with
      | true=>rw[if_pos rfl,St.Ap hb] at h;exact wp_cond_true hu (RC.sound hF x ann x' Q st hx h C a w hn ⟨G,hG⟩)
      | false=>rw[if_neg (by simp),St.Ap hb] at h;exact wp_cond_false hu (RC.sound hF y ann y' Q st hy h C a w hn ⟨G,hG⟩)
     ·exact h.elim
 | .block id b,ann,rc,Q,st,hc,h=>by
  simp only[comp] at hc
  obtain ⟨b',hb,rfl⟩:=Option.map_eq_some_iff.1 hc
  intro C a w hn hr
  refine wp_block (Code.wp_mono ?_ (RC.sound hF b ann b' _ st hb h C a w hn hr))
  rintro e a' w' ⟨st',h1,h2⟩
  cases e with
  | exit id'=>
   simp only[vP] at h1
   simp only[Exit.inBlock]
   by_cases hid:id'=id
   ·rw[if_pos hid] at h1 ⊢;exact ⟨st',h1,h2⟩
   ·rw[if_neg hid] at h1 ⊢;exact ⟨st',h1,h2⟩
  | _=>exact ⟨st',h1,h2⟩
 | .loop b,ann,rc,Q,st,hc,h=>by
  simp only[comp] at hc
  obtain ⟨b',hb,rfl⟩:=Option.map_eq_some_iff.1 hc
  exact h b ann hb
 | .exit id,ann,rc,Q,st,hc,h=>by
  obtain rfl:=sj hc
  exact fun C a w hn hr=>wp_exit ⟨st,h,hr⟩
 | .ret,ann,rc,Q,st,hc,h=>by
  obtain rfl:=sj hc
  exact fun C a w hn hr=>wp_ret ⟨st,h,hr⟩
 | .rangeFunc ..,ann,rc,Q,st,hc,h=>by cases hc
 | .scope ..,ann,rc,Q,st,hc,h=>by cases hc
 | .label ..,ann,rc,Q,st,hc,h=>by cases hc
 | .goto ..,ann,rc,Q,st,hc,h=>by cases hc
 | .refuse ..,ann,rc,Q,st,hc,h=>by cases hc
theorem RC.wp_mono {E:Prg}{F:dW}{n:Nat}:∀(c:RC) {Q Q':Exit->St->Prop} {st:St},c.wp E F n Q st->(∀e st,Q e st->Q' e st)->c.wp E F n Q' st
 | .skip,Q,Q',st,h,hq=>hq _ _ h
 | .reg ops lo keep,Q,Q',st,h,hq=>Ae ops h fun st hh=>hq _ _ hh
 | .cJ t lo keep,Q,Q',st,h,hq=>OT.wp_mono t h fun st hh=>hq _ _ hh
 | .seq a b,Q,Q',st,h,hq=>RC.wp_mono a h fun e st hh=>by
  cases e with
  | normal=>exact RC.wp_mono b hh hq
  | _=>exact hq _ _ hh
 | .cond c a b,Q,Q',st,h,hq=>by
  simp only[RC.wp] at h ⊢
  split at h
  ·unfold cnd at h ⊢
   split at h
   ·rename_i hb;rw[if_pos hb];exact RC.wp_mono a h hq
   ·rename_i hb;rw[if_neg hb];exact RC.wp_mono b h hq
  ·exact h.elim
 | .blk id b,Q,Q',st,h,hq=>RC.wp_mono b h fun e st hh=>by
  cases e with
  | exit id'=>
   simp only[vP] at hh ⊢
   split at hh
   ·rename_i hb;rw[if_pos hb];exact hq _ _ hh
   ·rename_i hb;rw[if_neg hb];exact hq _ _ hh
  | _=>exact hq _ _ hh
 | .loop b,Q,Q',st,h,hq=>fun c ann hc=>(h c ann hc).mono hq
 | .ext id,Q,Q',st,h,hq=>hq _ _ h
 | .ret,Q,Q',st,h,hq=>hq _ _ h
def AL (e e':List (Nat × DV)):Prop:=∀x,x∈e'->x.2=.undef\/wkT (St.look x.1 e) x.2
def fu:ay->ay->Prop
 | [],[]=>True
 | a::l,b::l'=>(b=none\/a=b)/\fu l l'
 | _,_=>False
def St.wk (s s':St):Prop:=AL s.env s'.env/\fu s.au s'.au
theorem Ao (t:Nat):∀l:List (Nat × DV),St.look t l=.undef\/(t,St.look t l)∈l
 | []=> .inl rfl
 | (k,d)::l=>by
  simp only[St.look]
  by_cases h:k=t
  ·subst h;simp
  ·rw[if_neg h]
   rcases Ao t l with h1 | h1
   ·exact .inl h1
   ·exact .inr (List.mem_cons_of_mem _ h1)
theorem tM:∀{a b:ay},fu a b->b.length=a.length/\∀(k:Nat) (ob:Ob),b[k]?=some (some ob)->a[k]?=some (some ob)
 | [],[],_=>⟨rfl,fun _ _ h=>h⟩
 | a::l,b::l',⟨h1,h2⟩=>by
  obtain ⟨h3,h4⟩:=tM h2
  refine ⟨by simp[h3],fun k ob hk=>?_⟩
  rcases k with _ | k
  ·simp at hk ⊢
   rcases h1 with h1 | h1
   ·rw[h1] at hk;cases hk
   ·rw[h1];exact hk
  ·simpa using h4 k ob (by simpa using hk)
 | [],_::_,h=>h.elim
 | _::_,[],h=>h.elim
theorem aH:∀a:ay,fu a a
 | []=>trivial
 | _::l=>⟨.inr rfl,aH l⟩
theorem ei.wk (h : ei E C st a w) (hw : st.wk st') : ei E C st' a w := by
  obtain ⟨G, h⟩ := h
  obtain ⟨h1, h2⟩ := hw
  obtain ⟨h3, h4⟩ := tM h2
  refine ⟨G, fun t => ?_, h.num, h.defs, h.heap.sub h3 h4,
   ⟨h.frm.os, h.frm.tape, h.frm.output, h.frm.size, h.frm.blk, h.frm.cell, h.frm.frz, fun k r q m hk => h.frm.mine k r q m (h4 k r hk), h.frm.rdn, h.frm.le, h.frm.mko⟩, h.qf⟩
  show Rel G (St.look t st'.env) _
  rcases Ao t st'.env with h5 | h5
  · rw[h5]; exact .undef _
  · rcases h1 _ h5 with h6 | h6
    · simp only at h6; rw[h6]; exact .undef _
    · exact ru h6 (h.env t)
theorem vY (p:Nat->Prop):∀n,p n->∃m,p m/\∀k,p k->m<=k:=by
 intro n
 induction n using Nat.strongRecOn with
 | _ n ih=>
  intro hn
  by_cases h:∃k,k<n/\p k
  ·obtain ⟨k,hk,hp⟩:=h
   exact ih k hk hp
  ·exact ⟨n,hn,fun k hk=>by
    rcases Nat.lt_or_ge k n with h1 | h1
    ·exact absurd ⟨k,h1,hk⟩ h
    ·exact h1⟩
theorem bk.inv {F : dW} (hF : FOk E F) {n : Nat} {b : RC} {Q : Exit -> St -> Prop} {st : St} {σ : Type} (S : σ -> St) (I : σ -> Prop) (μ : σ -> Nat) (s0 : σ) (h0 : I s0) (hw : st.wk (S s0))
    (round : ∀ s, I s -> b.wp E F n (fun e st' => match e with
      | .normal => ∃ s', st'.wk (S s') /\ I s' /\ μ s' < μ s
      | e => Q e st') (S s)) : bk E n b Q st := by
  intro c ann hc C a w hn hr
  let J : Act -> World -> Nat -> Prop := fun a w m => ∃ s, I s /\ ei E C (S s) a w /\ μ s = m
  have hex : ∀ a w, (∃ m, J a w m) -> ∃ m, J a w m /\ ∀ k, J a w k -> m <= k := fun a w ⟨m, hm⟩ => vY _ m hm
  open Classical in
  let f : Act -> World -> Nat := fun a w => if h : ∃ m, J a w m then Classical.choose (hex a w h) else 0
  have hf : ∀ a w, (∃ m, J a w m) -> J a w (f a w) /\ ∀ k, J a w k -> f a w <= k := fun a w h => by
    simp only[f, dif_pos h]
    exact Classical.choose_spec (hex a w h)
  refine wp_loop (fun a w => ∃ m, J a w m) f ⟨μ s0, s0, h0, hr.wk hw, rfl⟩ (fun a w hJ => ?_)
  obtain ⟨⟨s, hI, hrs, hm⟩, hmin⟩ := hf a w hJ
  refine Code.wp_mono ?_ (RC.sound hF c ann b _ (S s) hc (round s hI) C a w hn hrs)
  rintro e a' w' ⟨st', h1, h2⟩
  cases e with
  | normal =>
    obtain ⟨s', hw', hI', hlt⟩ := h1
    have hJ' : J a' w' (μ s') := ⟨s', hI', h2.wk hw', rfl⟩
    refine ⟨⟨_, hJ'⟩, ?_⟩
    have := (hf a' w' ⟨_, hJ'⟩).2 _ hJ'
    omega
  | _ => exact ⟨st', h1, h2⟩
def dY:Nat->List DV->List (Nat × DV)
 | _,[]=> []
 | k,d::l=>(k,d)::dY (k+1) l
theorem Dl (t:Nat):∀(k:Nat) (l:List DV),St.look t (dY k l)=if k<=t then (l[t-k]?).getD .undef else .undef
 | k,[]=>by simp[dY,St.look]
 | k,d::l=>by
  simp only[dY,St.look,Dl t (k+1) l]
  by_cases h:k=t
  ·subst h;simp
  ·rw[if_neg h]
   by_cases h2:k<=t
   ·rw[if_pos h2,if_pos (by omega),show t-k=(t-(k+1))+1 by omega,List.getElem?_cons_succ]
   ·rw[if_neg h2,if_neg (by omega)]
def j9 (rs:List Res)(R:DV->ay->Prop):Exit->St->Prop
 | .normal,st=>match e7 st rs with
  | some d=>R d st.au
  | none=>False
 | .ret,st=>match e7 st rs with
  | some d=>R d st.au
  | none=>False
 | _,_=>False
def Pt (P:Program):List ResultVar->Option (List Res)
 | []=>some []
 | .tmp t::l=>(Pt P l).map (.t t::·)
 | .cell t ty::l=>match qj P ty,cX P ty,Pt P l with
  | some ag,some sz,some l'=>some (.c t ag sz::l')
  | _,_,_=>none
theorem Fa {P:Program}:∀{l:List ResultVar} {l':List Res},Pt P l=some l'->C0 P l l'
 | [],l',h=>by obtain rfl:=sj h;trivial
 | .tmp t::l,l',h=>by
  obtain ⟨l2,h2,rfl⟩:=Option.map_eq_some_iff.1 h
  exact ⟨rfl,Fa h2⟩
 | .cell t ty::l,l',h=>by
  simp only[Pt] at h
  split at h
  ·rename_i ag sz l2 h1 h2 h3
   obtain rfl:=sj h
   exact ⟨rfl,h1,h2,Fa h3⟩
  ·cases h
structure RFn where
 np:Nat
 n:Nat
 code:RC
 res:List Res
def aK (P : Program) (ann : List Ann) (f : FuncId) : Option RFn :=
  match P.funcs[f]? with
  | some fn => (match fn.body with
    | some c => (match comp P fn.ntmps ann c, Pt P fn.results.toList with
      | some rc, some rs => some ⟨fn.params.size, fn.ntmps, rc, rs⟩
      | _, _ => none)
    | none => none)
  | none => none
theorem Frm.start {E:Prg}(hh:sU G T w)(n:Nat):Frm ⟨w,G,cellsOf G T,n⟩ G T w:=
 ⟨rfl,rfl,rfl,Nat.le_refl _,fun _ _ _=>rfl,fun _ _ _=>rfl,fun _ _ _ _=>rfl,fun k ob p m h1 h2 h3=> .inr ⟨k,ob,p,m,h1,h2,h3,rfl⟩,fun _ _ h=> .inl h,.refl _,fun _ _ h=>h⟩
theorem Frm.ctx {w0:World}{G0:Gh}{W:Addr->Prop}{m:Nat}(h:Frm ⟨w0,G0,W,n⟩ G T w):Frm ⟨w0,G0,W,m⟩ G T w:=
 ⟨h.os,h.tape,h.output,h.size,h.blk,h.cell,h.frz,h.mine,h.rdn,h.le,h.mko⟩
def fzO (l:List bH):List Nat:=l.filterMap fun r=>if r.fz then r.dst else none
def fzT:OT->List Nat
 | .done=> []
 | .mid o k=>fzO [o]++fzT k
 | .op o k=>fzO [o]++fzT k
 | .take o _ k=>fzO [o]++fzT k
 | .alt a _=>fzT a
def annC:Code->RC->List Ann
 | .region i _ _,.reg l lo c=> [⟨i,lo,c,fzO l⟩]
 | .region i _ _,.cJ t lo c=> [⟨i,lo,c,fzT t⟩]
 | .seq a b,.seq c d=>annC a c++annC b d
 | .cond _ a b,.cond _ c d=>annC a c++annC b d
 | .block _ b,.blk _ d=>annC b d
 | .loop b,.loop d=>annC b d
 | _,_=> []
def aA (P : Program) (f : Nat) (r : RFn) : List Ann := match P.funcs[f]? with
  | some fn => (match fn.body with
    | some c => annC c r.code
    | none => [])
  | none => []
theorem bP.aE {F : dW} (hF : FOk E F) {f : Nat} {ann : List Ann} {rf : RFn} {args : List DV} {T : ay} {R : DV -> ay -> Prop} (hc : aK E.P ann f = some rf) (hargs : args.length <= rf.n)
    (h : rf.code.wp E F rf.n (j9 rf.res fun d T' => T.length <= T'.length /\ R d T') ⟨dY 0 args, T⟩) : bP E f args T R := by
  unfold aK at hc
  cases hf : E.P.funcs[f]? with
  | none => rw[hf] at hc; cases hc
  | some fn =>
    rw[hf] at hc
    simp only at hc
    cases hb : fn.body with
    | none => rw[hb] at hc; cases hc
    | some c =>
      rw[hb] at hc
      simp only at hc
      cases h1 : comp E.P fn.ntmps ann c with
      | none => rw[h1] at hc; cases hc
      | some rc =>
        cases h2 : Pt E.P fn.results.toList with
        | none => rw[h1, h2] at hc; cases hc
        | some rs =>
          rw[h1, h2] at hc
          obtain rfl := sj hc
          intro G w vs adh hh hvs dh
          refine calls_of_wp hf hb ?_
          have hsize : (vs ++ Array.replicate (fn.ntmps - vs.size) undef).size = fn.ntmps := by simp; simp at hargs; omega
          have hr : ei E ⟨w, G, cellsOf G T, fn.ntmps⟩ ⟨dY 0 args, T⟩ { tmps := vs ++ Array.replicate (fn.ntmps - vs.size) undef, defers := [] } w := by
            refine ⟨G, ⟨fun t => ?_, hsize, rfl, hh, Frm.start (E := E) hh _, adh⟩⟩
            show Rel G (St.look t (dY 0 args)) _
            rw[Dl]
            simp only[Nat.zero_le, if_true, Nat.sub_zero]
            cases ht : args[t]? with
            | none => exact .undef _
            | some d =>
              have hlt : t < vs.size := by rw[hvs]; exact (List.getElem?_eq_some_iff.1 ht).1
              have := dh t d ht
              rw[Array.getD_eq_getD_getElem?] at this ⊢
              rw[Array.getElem?_append_left hlt]
              exact this
          refine Code.wp_mono ?_ (RC.sound hF c ann rc _ _ h1 h ⟨w, G, cellsOf G T, fn.ntmps⟩ _ w rfl hr)
          rintro e a' w' ⟨st', h3, G', hG'⟩
          have fin : (match e7 st' rs with
              | some d => T.length <= st'.au.length /\ R d st'.au
              | none => False) -> a'.defers = [] /\ ∃ v, (results fn a'.tmps).run E.P w' = .ok v w' /\ (∃ v' r T' G'', Ending.returned v = .returned v' /\ R r T' /\ T.length <= T'.length /\ Rel G'' r v' /\ sU G'' T' w' /\ Frm ⟨w, G, cellsOf G T, 0⟩ G'' T' w') := by
            intro h3
            cases hres : e7 st' rs with
            | none => rw[hres] at h3; exact h3.elim
            | some d =>
              rw[hres] at h3
              obtain ⟨v, hv1, hv2⟩ := NL hG' (Fa h2) hres
              exact ⟨hG'.defs, v, hv1, v, d, st'.au, G', rfl, h3.2, h3.1, hv2, hG'.heap, hG'.frm.ctx⟩
          cases e with
          | normal => exact fin h3
          | ret => exact fin h3
          | _ => exact h3.elim
theorem aj.aE {F:dW}(hF:FOk E F){f:Nat}{ann:List Ann}{rf:RFn}{args:List DV}{T:ay}{K:DV->ay->Prop}(hc:aK E.P ann f=some rf)(hargs:args.length<=rf.n)
  (h:rf.code.wp E F rf.n (j9 rf.res fun d T'=>T.length<=T'.length/\K d T') ⟨dY 0 args,T⟩):aj E f args T K:=aj.all (bP.aE hF hc hargs h)
theorem OW {rs : List Res} {R R' : DV -> ay -> Prop} (h : ∀ d T, R d T -> R' d T) (e : Exit) (st : St) (hq : j9 rs R e st) : j9 rs R' e st := by
  have key : ∀ st : St, (match e7 st rs with
      | some d => R d st.au
      | none => False) -> (match e7 st rs with
      | some d => R' d st.au
      | none => False) := fun st hh => by
    cases hres : e7 st rs with
    | none => rw[hres] at hh; exact hh
    | some d => rw[hres] at hh; exact h _ _ hh
  cases e with
  | normal => exact key st hq
  | ret => exact key st hq
  | _ => exact hq
def RFn.spec (E:Prg)(F:dW)(rf:RFn)(args:List DV):Bt:=
 ⟨fun T K=>rf.code.wp E F rf.n (j9 rf.res fun d T'=>T.length<=T'.length/\K d T') ⟨dY 0 args,T⟩,fun T K K' h hk=>RC.wp_mono _ h fun e st hq=>OW (fun d T' hh=>⟨hh.1,hk _ _ hh.2⟩) e st hq⟩
theorem av.aE {F : dW} (hF : FOk E F) {f : Nat} {ann : List Ann} {rf : RFn} {args : List DV} {R : Nat -> DV -> ay -> Prop} (hc : aK E.P ann f = some rf) (hargs : args.length <= rf.n)
    (h : ∀ n, rf.code.wp E F rf.n (j9 rf.res fun d T' => ∃ os, T' = List.replicate n none ++ os /\ R n d os) ⟨dY 0 args, List.replicate n none⟩) : av E f args R := by
  intro n
  refine bP.aE hF hc hargs (RC.wp_mono _ (h n) fun e st hh => ?_)
  have key : ∀ st : St, (match e7 st rf.res with
      | some d => ∃ os, st.au = List.replicate n none ++ os /\ R n d os
      | none => False) -> (match e7 st rf.res with
      | some d => (List.replicate n (none : Option Ob)).length <= st.au.length /\ ∃ os, st.au = List.replicate n none ++ os /\ R n d os
      | none => False) := fun st hh => by
    cases hres : e7 st rf.res with
    | none => rw[hres] at hh; exact hh
    | some d =>
      rw[hres] at hh
      obtain ⟨os, ho, hR⟩ := hh
      exact ⟨by rw[ho]; simp, os, ho, hR⟩
  cases e with
  | normal => exact key st hh
  | ret => exact key st hh
  | _ => exact hh
theorem av.mono {R R':Nat->DV->ay->Prop}(h:av E f args R)(hR:∀n r os,R n r os->R' n r os):av E f args R':=
 fun n=>(h n).mono fun r T' ⟨os,h1,h2⟩=>⟨os,h1,hR _ _ _ h2⟩
inductive Ent where
 | o (g:List DV->Option aS)
 | h (g:List DV->Option nA)
 | p (g:List DV->Option Bt)
def Ent.app:Ent->List DV->Option FS
 | .o g,a=>(g a).map .o
 | .h g,a=>(g a).map .h
 | .p g,a=>(g a).map .p
instance:Coe (List DV->Option aS) Ent:=⟨.o⟩
instance:Coe (List DV->Option nA) Ent:=⟨.h⟩
instance:Coe (List DV->Option Bt) Ent:=⟨.p⟩
abbrev FL:=List (Nat × Ent)
def tab (l:FL):dW:=fun f args=>match l.lookup f with
 | some g=>g.app args
 | none=>none
theorem FOk.nil:FOk E (tab []):=⟨fun f args s h=>(by cases h),fun f args s h=>(by cases h)⟩
theorem zG (f:Nat)(g:Ent)(l:FL)(k:Nat)(args:List DV):tab ((f,g)::l) k args=if k=f then g.app args else tab l k args:=by
 unfold tab
 simp only[List.lookup]
 by_cases e:k=f
 ·subst e;simp
 ·rw[beq_false_of_ne e,if_neg e]
theorem FOk.cons {g:List DV->Option aS}{l:FL}(hl:FOk E (tab l))(h:∀args s,g args=some s->s.pre->av E f args fun n r os=>r=(s.res n).1/\os=(s.res n).2):FOk E (tab ((f,.o g)::l)):=by
 refine ⟨fun k args s hs hp=>?_,fun k args s hs=>?_⟩
 ·rw[zG] at hs
  split at hs
  ·rename_i e
   subst e
   simp only[Ent.app,Option.map_eq_some_iff] at hs
   obtain ⟨s',h1,h2⟩:=hs
   obtain rfl:=FS.o.inj h2
   exact h args s' h1 hp
  ·exact hl.1 k args s hs hp
 ·rw[zG] at hs
  split at hs
  ·simp only[Ent.app,Option.map_eq_some_iff] at hs
   obtain ⟨s',_,h2⟩:=hs
   cases h2
  ·exact hl.2 k args s hs
theorem FOk.DD {g:List DV->Option nA}{l:FL}(hl:FOk E (tab l))(h:∀args s,g args=some s->HOk E f args s):FOk E (tab ((f,.h g)::l)):=by
 refine ⟨fun k args s hs hp=>?_,fun k args s hs T K hp=>?_⟩
 ·rw[zG] at hs
  split at hs
  ·simp only[Ent.app,Option.map_eq_some_iff] at hs
   obtain ⟨s',_,h2⟩:=hs
   cases h2
  ·exact hl.1 k args s hs hp
 ·rw[zG] at hs
  split at hs
  ·rename_i e
   subst e
   simp only[Ent.app,Option.map_eq_some_iff] at hs
   obtain ⟨s',h1,h2⟩:=hs
   obtain rfl:=FS.p.inj h2
   exact h args s' h1 T K hp.1 hp.2
  ·exact hl.2 k args s hs T K hp
theorem aS.aE {F : dW} (hF : FOk E F) {f : Nat} {ann : List Ann} {rf : RFn} {args : List DV} {s : aS} (hc : aK E.P ann f = some rf) (hargs : args.length <= rf.n)
    (h : ∀ n, rf.code.wp E F rf.n (j9 rf.res fun d T' => d = (s.res n).1 /\ T' = List.replicate n none ++ (s.res n).2) ⟨dY 0 args, List.replicate n none⟩) : av E f args fun n r os => r = (s.res n).1 /\ os = (s.res n).2 :=
  av.aE hF hc hargs fun n => RC.wp_mono _ (h n) fun e st hh => by
    have key : ∀ st : St, (match e7 st rf.res with
        | some d => d = (s.res n).1 /\ st.au = List.replicate n none ++ (s.res n).2
        | none => False) -> (match e7 st rf.res with
        | some d => ∃ os, st.au = List.replicate n none ++ os /\ d = (s.res n).1 /\ os = (s.res n).2
        | none => False) := fun st hh => by
      cases hres : e7 st rf.res with
      | none => rw[hres] at hh; exact hh
      | some d => rw[hres] at hh; exact ⟨_, hh.2, hh.1, rfl⟩
    cases e with
    | normal => exact key st hh
    | ret => exact key st hh
    | _ => exact hh
section
@[congr] theorem aac {E:Prg} {F:dW} {l:List bH} {K:St->Prop} {st:St} {st':Unit->St} (h:∀u,st=st' u):lP E F l K st=lP E F l K (st' ()):=by rw[<-h ()]
@[congr] theorem OT.Qm {E:Prg} {F:dW} {t:OT} {K:St->Prop} {st:St} {st':Unit->St} (h:∀u,st=st' u):t.wp E F K st=t.wp E F K (st' ()):=by rw[<-h ()]
@[congr] theorem RC.Qm {E:Prg} {F:dW} {n:Nat} {c:RC} {Q:Exit->St->Prop} {st:St} {st':Unit->St} (h:∀u,st=st' u):c.wp E F n Q st=c.wp E F n Q (st' ()):=by rw[<-h ()]
theorem ak {α:Sort _}(a:α):a=a:=of_eq_true (eq_self a)
def aan (d:DV)(f:Bool->Prop) [Tg f] (_:True:=trivial):Prop:=
 match (generalizing:=false) d with
 | .bool b=>f b
 | _=>False
theorem La (b:Bool)(f:Bool->Prop):aan (.bool b) f=f b:=ak _
theorem K9 (b:Bool)(f:Bool->Prop)(g:Prop):ow (.bool b) f g=f b:=ak _
theorem UO (f:Bool->Prop)(g:Prop):ow .no f g=g:=by simp[ow,DV.no,Mu,Go.undef]
def nx (st:St)(p:DV × ay)(z:Bool)(dst:Option Nat):St:=(({ st with au:=p.2}:St).put dst p.1).fzd z dst
theorem aec (env:List (Nat × DV))(au:ay)(d:DV)(o:ay)(t:Nat):nx ⟨env,au⟩ (d,o) false (some t)=⟨St.ins t d env,o⟩:=ak _
theorem aeb (env:List (Nat × DV))(au:ay)(d:DV)(o:ay)(z:Bool):nx ⟨env,au⟩ (d,o) z none=⟨env,o⟩:=by cases z <;> rfl
theorem aea (env:List (Nat × DV))(au:ay)(d:DV)(o:ay)(t:Nat):nx ⟨env,au⟩ (d,o) true (some t)=St.fT (jZ (St.look t (St.ins t d env))) ⟨St.ins t d env,o⟩:=ak _
def eA (st:St)(k:St->Prop) [Tg k] (_:True:=trivial):Prop:=k st
theorem Y2 (st:St)(k:St->Prop):eA st k=k st:=ak _
section
variable (E:Prg) (F:dW) (n:Nat) (K:St->Prop) (Q:Exit->St->Prop) (st:St) (l:List bH) (dst:Option Nat) (op:ROp) (z:Bool) (f:Nat) (args:List Opd) (t:Nat) (w:Bool)
def stV (E:Prg)(F:dW)(dr:Bool)(op:ROp)(dst:Option Nat)(z:Bool)(st:St)(k:St->Prop) [Tg k] [Tg op] (_:True:=trivial):Prop:=qd E F dr ⟨dst,op,none,z⟩ k st
theorem cI (dr:Bool)(h:op.tT=false):stV E F dr op dst z st K=bA (rvl E st op) fun p=>eA (nx st p z dst) K:=by
 unfold stV qd
 cases op <;> first | rfl | cases h
theorem Re (dr:Bool):stV E F dr (.call f args) dst z st K=jy E (F f (args.map (Opd.ev E st))) dr f (args.map (Opd.ev E st)) st.au fun d T'=>eA (nx st (d,T') z dst) K:=ak _
theorem bh (dr:Bool)(y:Opd):stV E F dr (.iP y args) dst z st K=mL E F dr (Opd.ev E st y) (args.map (Opd.ev E st)) st.au fun d T'=>eA (nx st (d,T') z dst) K:=ak _
theorem ud (T:ay)(L:DV->ay->Prop)(as:List DV):mL E F false (.lit (.func (.func f) #[] #[])) as T L=(fR E.P f=true/\jy E (F f as) false f as T L):=by simp[mL]
theorem N5:lP E F [] K st=K st:=ak _
theorem Kd:lP E F (⟨dst,op,none,z⟩::l) K st=stV E F false op dst z st (lP E F l K):=ak _
theorem GV:lP E F (⟨dst,op,some (t,w),z⟩::l) K st=ow (st.get t) (fun b=>cnd (b==w) (eA (st.xk t w) fun st=>stV E F false op dst z st (lP E F l K)) (eA ((st.xk t (!w)).put dst .no) (lP E F l K))) (eA (st.put dst .no) (lP E F l K)):=ak _
theorem X6:OT.done.wp E F K st=K st:=ak _
theorem aaZ (a b:OT):(OT.alt a b).wp E F K st=(a.wp E F K st/\b.wp E F K st):=ak _
theorem acX (k:OT):(OT.op ⟨dst,op,none,z⟩ k).wp E F K st=stV E F true op dst z st (k.wp E F K):=ak _
theorem Sm (k:OT):(OT.op ⟨dst,op,some (t,w),z⟩ k).wp E F K st=ow (st.get t) (fun b=>cnd (b==w) (eA (st.xk t w) fun st=>stV E F true op dst z st (k.wp E F K)) (eA ((st.xk t (!w)).put dst .no) (k.wp E F K))) (eA (st.put dst .no) (k.wp E F K)):=ak _
theorem X4 (p:Opd)(ps:List Opd)(o:bH)(k:OT):(OT.take o (p::ps) k).wp E F K st=(jb E st o.op p/\(OT.take o ps k).wp E F K st):=by
 simp only[OT.wp,List.forall_mem_cons,and_assoc]
theorem Sl (o:bH)(k:OT):(OT.take o [] k).wp E F K st=(OT.op o k).wp E F K st:=by simp[OT.wp]
theorem XV:RC.skip.wp E F n Q st=Q .normal st:=ak _
theorem aaU (lo:Nat)(keep:List Nat):(RC.reg l lo keep).wp E F n Q st=lP E F l (fun st'=>eA (st'.cut lo keep) (Q .normal)) st:=ak _
theorem XW (x:OT)(lo:Nat)(keep:List Nat):(RC.cJ x lo keep).wp E F n Q st=x.wp E F (fun st'=>eA (st'.cut lo keep) (Q .normal)) st:=ak _
theorem aaS (a b:RC):(RC.seq a b).wp E F n Q st=a.wp E F n (Gb (b.wp E F n Q) Q) st:=ak _
theorem XY (c:Opd)(a b:RC):(RC.cond c a b).wp E F n Q st=aan (c.ev E st) fun v=>cnd v (eA (st.Aq c true) (a.wp E F n Q)) (eA (st.Aq c false) (b.wp E F n Q)):=by
 simp only[RC.wp]
 cases c.ev E st <;> rfl
theorem aaW (id:Nat)(b:RC):(RC.blk id b).wp E F n Q st=b.wp E F n (vP id Q) st:=ak _
theorem XX (b:RC):(RC.loop b).wp E F n Q st=bk E n b Q st:=ak _
theorem aaV (id:Nat):(RC.ext id).wp E F n Q st=Q (.exit id) st:=ak _
theorem aaT:RC.ret.wp E F n Q st=Q .ret st:=ak _
theorem WG:Gb K Q .normal st=K st:=ak _
theorem WE:Gb K Q .ret st=Q .ret st:=ak _
theorem WH (i:Nat):Gb K Q (.exit i) st=Q (.exit i) st:=ak _
theorem YC (i:Nat):vP i Q .normal st=Q .normal st:=ak _
theorem YB (i:Nat):vP i Q .ret st=Q .ret st:=ak _
theorem YD (i j:Nat):vP i Q (.exit j) st=if j=i then Q .normal st else Q (.exit j) st:=ak _
theorem abP (rs:List Res)(R:DV->ay->Prop):j9 rs R .normal st=bA (e7 st rs) fun d=>R d st.au:=by
 simp only[j9]
 cases e7 st rs <;> rfl
theorem abO (rs:List Res)(R:DV->ay->Prop):j9 rs R .ret st=bA (e7 st rs) fun d=>R d st.au:=by
 simp only[j9]
 cases e7 st rs <;> rfl
@[congr] theorem abQ {rs:List Res} {R:DV->ay->Prop} {e:Exit} {st:St} {st':Unit->St} (h:∀u,st=st' u):j9 rs R e st=j9 rs R e (st' ()):=by rw[<-h ()]
theorem XS (r:Res):e7 st [r]=r.ev st:=by
 unfold e7
 simp only[Gu]
 cases r.ev st <;> rfl
theorem XR (r s:Res):e7 st [r,s]=(r.ev st).bind fun a=>(s.ev st).map fun b=> .tup [a,b]:=by
 unfold e7
 simp only[Gu]
 cases r.ev st <;> cases s.ev st <;> rfl
theorem XQ (r s q:Res):e7 st [r,s,q]=(r.ev st).bind fun a=>(s.ev st).bind fun b=>(q.ev st).map fun c=> .tup [a,b,c]:=by
 unfold e7
 simp only[Gu]
 cases r.ev st <;> cases s.ev st <;> cases q.ev st <;> rfl
theorem ad7 (i:Nat):Res.ev st (.t i)=some (st.get i):=ak _
theorem ad8 (i:Nat)(ag:Bool)(sz:Nat):Res.ev st (.c i ag sz)=(rvl E st (.load ag sz (.t i))).map (·.1):=by
 simp only[Res.ev,rvl,Opd.ev]
 cases st.get i <;> try rfl
 ·dsimp only
  rename_i o r j
  generalize st.au[o]?=x
  rcases x with _ | _ | ob <;> try rfl
  simp only[Option.bind]
  generalize ob.rows[r]?=y
  cases y with
  | none=>rfl
  | some row=>simp only;cases rowAt ag sz row j <;> rfl
 ·dsimp only
  rename_i row j
  cases rowAt ag sz row j <;> rfl
theorem ZK (x:nA)(l:List DV)(T:ay)(k:DV->ay->Prop):jy E (some (.h x)) false f l T k=(x.pre T/\k (x.res T).1 (x.res T).2):=by simp[jy,FS.h,nA.toP]
theorem ZJ (x:Bt)(l:List DV)(T:ay)(k:DV->ay->Prop):jy E (some (.p x)) false f l T k=x.wp T k:=by simp[jy]
theorem adF (g:List DV->Option Bt)(a:List DV):Ent.app (.p g) a=(g a).map .p:=ak _
theorem Xr (rf:RFn)(args:List DV)(T:ay)(K:DV->ay->Prop):(rf.spec E F args).wp T K=rf.code.wp E F rf.n (j9 rf.res fun d T'=>T.length<=T'.length/\K d T') ⟨dY 0 args,T⟩:=ak _
theorem adG (g:List DV->Option aS)(a:List DV):Ent.app (.o g) a=(g a).map .o:=ak _
theorem adH (g:List DV->Option nA)(a:List DV):Ent.app (.h g) a=(g a).map .h:=ak _
theorem KY (x:aS)(dr:Bool)(l:List DV)(T:ay)(k:DV->ay->Prop):jy E (some (.o x)) dr f l T k=(x.pre/\k (x.res T.length).1 (T++(x.res T.length).2)):=ak _
theorem aew (i:Nat):Opd.ev E st (.t i)=st.get i:=ak _
theorem aex (d:DV):Opd.ev E st (.c d)=d:=ak _
theorem abK (env:List (Nat × DV))(au:ay)(i:Nat):St.get ⟨env,au⟩ i=St.look i env:=ak _
theorem RT (env:List (Nat × DV))(au:ay)(i:Nat)(d:DV):St.put ⟨env,au⟩ (some i) d=⟨St.ins i d env,au⟩:=ak _
theorem RU (d:DV):St.put st none d=st:=ak _
theorem Yu (env:List (Nat × DV))(au:ay)(i:Nat)(b:Bool):St.xk i b ⟨env,au⟩=⟨St.rep i (.bool b) env,au⟩:=ak _
theorem Ys (i:Nat)(b:Bool):st.Aq (.t i) b=st.xk i b:=ak _
theorem Yt (d:DV)(b:Bool):st.Aq (.c d) b=st:=ak _
def Hu (k:Nat):List Nat->Bool
 | []=>false
 | a::l=>if a=k then true else Hu k l
theorem Mc (k:Nat):∀l:List Nat,Hu k l=l.contains k
 | []=>rfl
 | a::l=>by
  simp only[Hu,Mc k l,List.contains_cons]
  by_cases h:a=k
  ·simp[h]
  ·rw[if_neg h,beq_false_of_ne (fun e=>h e.symm),Bool.false_or]
def HX (keep:List Nat):List (Nat × DV)->List (Nat × DV)
 | []=> []
 | (k,d)::l=>if Hu k keep=true then (k,d)::HX keep l else HX keep l
theorem abV (keep:List Nat)(env:List (Nat × DV))(au:ay):St.cut 0 keep ⟨env,au⟩=⟨HX keep env,au⟩:=by
 unfold St.cut
 congr 1
 induction env with
 | nil=>rfl
 | cons x l ih=>
  obtain ⟨k,d⟩:=x
  simp only[List.filter_cons,HX,Mc,Nat.not_lt_zero,decide_false,Bool.false_or] at ih ⊢
  rw[ih]
theorem Xy (x:Opd):rvl E st (.mov x)=some (x.ev E st,st.au):=ak _
theorem Rq (c a b:Opd):rvl E st (.pick c a b)=match c.ev E st with
  | .bool t=>some (if t then a.ev E st else b.ev E st,st.au)
  | _=>none:=ak _
theorem XH (sz:Nat)(x:Opd):rvl E st (.box sz x)=(x.ev E st).cells.bind fun cs=>if cs.length=sz/\cs.all DV.one=true then some (.ptr st.au.length 0 0,st.au++ [some (.box cs)]) else none:=by
 simp only[rvl,rval]
 cases (x.ev E st).cells <;> rfl
theorem Ny (zero:List DV):rvl E st (.alloc zero)=some (.ptr st.au.length 0 0,st.au++ [some (.box zero)]):=ak _
def xE (E:Prg)(st:St):List (Nat × Nat × Opd)->List DV->Option (List DV)
 | [],cs=>some cs
 | x::l,cs=>(x.2.2.ev E st).cells.bind fun new=>if new.length=x.2.1/\x.1+new.length<=cs.length then xE E st l (ig cs x.1 new) else none
theorem Nx (zero : List DV) (parts : List (Nat × Nat × Opd)) : rvl E st (.build zero parts) = (xE E st parts zero).map fun cs => (.agg cs, st.au) := by
  simp only[rvl, rval]
  congr 1
  have hn : ∀ l : List (Nat × Nat × Opd), l.foldl (fun (acc : Option (List DV)) x => match acc, (x.2.2.ev E st).cells with
      | some cs, some new => if new.length = x.2.1 /\ x.1 + new.length <= cs.length then some (ig cs x.1 new) else none
      | _, _ => none) none = none := fun l => by
    induction l with
    | nil => rfl
    | cons x l ih => exact ih
  induction parts generalizing zero with
  | nil => rfl
  | cons x l ih =>
    simp only[List.foldl_cons, xE]
    cases (x.2.2.ev E st).cells with
    | none => exact hn l
    | some new =>
      simp only[Option.bind]
      split
      · exact ih _
      · exact hn l
def xd (E:Prg)(st:St)(sz:Nat):List (Nat × Opd)->List (List DV)->Option (List (List DV))
 | [],rows=>some rows
 | x::l,rows=>(x.2.ev E st).cells.bind fun new=>if new.length=sz/\x.1<rows.length/\new.all DV.one=true then xd E st sz l (rows.set x.1 new) else none
theorem Ns (sz : Nat) (zero : List DV) (len : Nat) (parts : List (Nat × Opd)) : rvl E st (.bK sz zero len parts) = (xd E st sz parts (List.replicate len zero)).map fun rows => (.own st.au.length 0 len, st.au ++ [some (.arr sz rows)]) := by
  simp only[rvl, rval]
  congr 1
  have hn : ∀ l : List (Nat × Opd), l.foldl (fun (acc : Option (List (List DV))) x => match acc, (x.2.ev E st).cells with
      | some rows, some new => if new.length = sz /\ x.1 < rows.length /\ new.all DV.one = true then some (rows.set x.1 new) else none
      | _, _ => none) none = none := fun l => by
    induction l with
    | nil => rfl
    | cons x l ih => exact ih
  generalize List.replicate len zero = rows
  induction parts generalizing rows with
  | nil => rfl
  | cons x l ih =>
    simp only[List.foldl_cons, xd]
    cases (x.2.ev E st).cells with
    | none => exact hn l
    | some new =>
      simp only[Option.bind]
      split
      · exact ih _
      · exact hn l
theorem Rs (ag:Bool)(sz:Nat)(x:Opd):rvl E st (.load ag sz x)=match x.ev E st with
  | .ptr o i j=>(st.au[o]?).bind fun x=>x.bind fun ob=>(ob.rows[i]?).bind fun row=>(rowAt ag sz row j).map (·,st.au)
  | .rp row j=>(rowAt ag sz row j).map (·,st.au)
  | _=>none:=ak _
theorem Np (sz:Nat)(p x:Opd):rvl E st (.store sz p x)=match p.ev E st with
  | .ptr o i j=>((x.ev E st).cells).bind fun cs=>(st.au[o]?).bind fun x=>x.bind fun ob=>(ob.rows[i]?).bind fun row=>
   if cs.length=sz/\cs.all DV.one=true/\j+sz<=row.length then some (.undef,st.au.set o (some (ob.setRow i (ig row j cs)))) else none
  | _=>none:=ak _
theorem Nr (x:Opd):rvl E st (.aF x)=match x.ev E st with
  | .ptr o i j=>some (.ptr o i j,st.au)
  | .rp row j=>some (.rp row j,st.au)
  | _=>none:=ak _
def lN (op:BinOp):DV->DV->Option DV
 | .int k a,.int k' b=>match op with
  | .shl=>rG .shl k a b
  | .shr=>rG .shr k a b
  | op=>if k=k' then Mw op k a b else none
 | .str a,.str b=>strOf op a b
 | _,_=>none
theorem XI (op:BinOp)(x y:Opd):rvl E st (.bin op x y)=(lN op (x.ev E st) (y.ev E st)).map (·,st.au):=by
 simp only[rvl,rval]
 cases x.ev E st <;> cases y.ev E st <;> rfl
theorem XG (neg:Bool)(x y:Opd):rvl E st (.eqB neg x y)=match x.ev E st,y.ev E st with
  | .bool a,.bool b=>some (.bool (if neg then !decide (a=b) else decide (a=b)),st.au)
  | _,_=>none:=ak _
def SH:SK->Option Bool
 | .nil=>some true
 | .gA=>some false
 | _=>none
theorem Nw (neg:Bool)(x y:Opd):rvl E st (.jM neg x y)=match x.ev E st,y.ev E st with
  | .sl _ _ k,.sl _ _ .nil=>(SH k).map fun b=>(.bool (if neg then !b else b),st.au)
  | .own _ _ n,.sl _ _ .nil=>if 0<n then some (.bool neg,st.au) else none
  | _,_=>none:=by
 simp only[rvl,rval]
 cases x.ev E st <;> cases y.ev E st <;> try rfl
theorem aaM (op:UnOp)(x:Opd):rvl E st (.un op x)=(M5 op (x.ev E st)).map (·,st.au):=ak _
theorem XB (k:IntKind)(x:Opd):rvl E st (.conv (.i2i k) x)=match x.ev E st with
  | .int _ n=>some (.int k (k.wrap n),st.au)
  | _=>none:=by
 simp only[rvl,rval]
 cases x.ev E st <;> rfl
theorem XJ (x:Opd):rvl E st (.conv .b2s x)=match x.ev E st with
  | .str _=>none
  | d=>(rowsOf st d).bind fun y=>if y.1=1\/y.2=[] then (iF y.2).map fun s=>(.str s,st.au) else none:=ak _
theorem Xx (x:Opd):rvl E st (.conv .s2b x)=match x.ev E st with
  | .str s=>if s.length<=4611686018427387904 then some (.own st.au.length 0 s.length,st.au++ [some (.arr 1 (dg s))]) else none
  | _=>none:=by
 simp only[rvl,rval]
 cases x.ev E st <;> rfl
theorem Xz (x:Opd):rvl E st (.conv .lit x)=match x.ev E st with
  | .own o off n=>(st.au[o]?).bind fun x=>x.bind fun ob=>match ob with
   | .arr sz rows=>if 0<n/\0<sz/\off+n<=rows.length then some (.own o off n,st.au) else none
   | _=>none
  | _=>none:=by
 simp only[rvl,rval]
 cases x.ev E st <;> try rfl
 rename_i o off n
 simp only
 cases st.au[o]? with
 | none=>rfl
 | some x=>
  cases x with
  | none=>rfl
  | some ob=>cases ob <;> rfl
theorem Xw (x:Opd):rvl E st (.conv .s2s x)=match x.ev E st with
  | .str s=>some (.str s,st.au)
  | _=>none:=by
 simp only[rvl,rval]
 cases x.ev E st <;> rfl
theorem Nq (sz : Nat) (x : Opd) (lo hi mx : Option Opd) : rvl E st (.slice sz x lo hi mx) = match x.ev E st with
    | .sl s rows k => (mF st E 0 lo).bind fun l => (mF st E rows.length hi).bind fun h => if l <= h /\ h <= rows.length /\ (s = sz \/ rows = []) then (match mx with
        | none => some (.sl s ((rows.drop l).take (h - l)) k, st.au)
        | some m => (mF st E 0 (some m)).bind fun m => if m = h then some (.sl s ((rows.drop l).take (h - l)) (if m = l then (if k = .nil then .nil else .zero) else (if k = .nil then .nil else .any)), st.au) else none) else none
    | .own o off n => match mx with
      | none => (mF st E 0 lo).bind fun l => (mF st E n hi).bind fun h => (st.au[o]?).bind fun x => x.bind fun ob => match ob with
        | .arr s rows => if l <= h /\ h <= n /\ s = sz then some (.own o (off + l) (h - l), st.au) else none
        | _ => none
      | some m => (mF st E 0 lo).bind fun l => (mF st E n hi).bind fun h => (mF st E 0 (some m)).bind fun m => if m = h /\ h = l /\ l <= n then some (.sl sz [] .zero, st.au) else none
    | _ => none := ak _
theorem Ok (d:Nat):mF st E d none=some d:=ak _
theorem Oj (d:Nat)(x:Opd):mF st E d (some x)=match x.ev E st with
  | .int _ n=>if 0<=n then some n.toNat else none
  | _=>none:=ak _
theorem JL (x:Opd)(lo hi:Option Opd):rvl E st (.lC x lo hi)=match x.ev E st with
  | .str s=>(mF st E 0 lo).bind fun l=>(mF st E s.length hi).bind fun h=>if l<=h/\h<=s.length then some (.str ((s.drop l).take (h-l)),st.au) else none
  | _=>none:=ak _
theorem Nv (off:Nat)(x:Opd):rvl E st (.p9 off x)=match x.ev E st with
  | .ptr o i j=>some (.ptr o i (j+off),st.au)
  | .rp row j=>some (.rp row (j+off),st.au)
  | _=>none:=ak _
theorem XC (ag:Bool)(off sz:Nat)(x:Opd):rvl E st (.fld ag off sz x)=match x.ev E st with
  | .agg cs=>(rowAt ag sz cs off).map (·,st.au)
  | _=>none:=ak _
theorem Nu (sz:Nat)(x i:Opd):rvl E st (.aT sz x i)=match x.ev E st,i.ev E st with
  | .sl s rows _,.int _ n=>if 0<=n/\n<(rows.length:Int)/\s=sz then (rows[n.toNat]?).map fun row=>(.rp row 0,st.au) else none
  | .own o off m,.int _ n=>if 0<=n/\n<(m:Int) then (st.au[o]?).bind fun x=>x.bind fun ob=>match ob with
    | .arr s _=>if s=sz then some (.ptr o (off+n.toNat) 0,st.au) else none
    | _=>none
   else none
  | _,_=>none:=ak _
theorem JM (len sz:Nat)(x i:Opd):rvl E st (.iz len sz x i)=match x.ev E st,i.ev E st with
  | .ptr o r j,.int _ n=>if 0<=n/\n<(len:Int) then some (.ptr o r (j+n.toNat*sz),st.au) else none
  | .rp row j,.int _ n=>if 0<=n/\n<(len:Int) then some (.rp row (j+n.toNat*sz),st.au) else none
  | _,_=>none:=ak _
theorem Rv (x i:Opd):rvl E st (.yK x i)=match x.ev E st,i.ev E st with
  | .str s,.int _ n=>if 0<=n then (s[n.toNat]?).map fun b=>(.int .u8 b.toNat,st.au) else none
  | _,_=>none:=ak _
theorem XD (x:Opd)(i:Nat):rvl E st (.ext x i)=match x.ev E st with
  | .tup cs=>(cs[i]?).map fun d=>(d,st.au)
  | _=>none:=by
 simp only[rvl,rval]
 cases x.ev E st <;> try rfl
 dsimp only
 rename_i cs
 cases cs[i]? <;> rfl
theorem XA (x:Opd):rvl E st (.len x)=match x.ev E st with
  | .sl _ rows _=>some (.int .i64 rows.length,st.au)
  | .own _ _ n=>some (.int .i64 n,st.au)
  | _=>none:=ak _
theorem Ru (x:Opd):rvl E st (.BV x)=match x.ev E st with
  | .str s=>some (.int .i64 s.length,st.au)
  | _=>none:=ak _
theorem JN (sz bytes:Nat)(x y:Opd):rvl E st (.append sz bytes x y)=match x.ev E st with
  | .sl _ [] k=>(rowsOf st (y.ev E st)).bind fun a=>if (k=.nil\/k=.zero)/\(a.1=sz\/a.2=[])/\a.2.length*bytes<=140737488355328/\a.2.length<=4611686018427387904 then
    some (.own st.au.length 0 a.2.length,st.au++ [some (.arr sz a.2)]) else none
  | .own o off n=>(rowsOf st (y.ev E st)).bind fun a=>(st.au[o]?).bind fun x=>x.bind fun ob=>match ob with
   | .arr s rows=>if off+n=rows.length/\s=sz/\(a.1=sz\/a.2=[])/\(n+a.2.length)*bytes<=140737488355328/\n+a.2.length<=4611686018427387904 then
     some (.own st.au.length 0 (n+a.2.length),st.au.set o none++ [some (.arr sz (rows.drop off++a.2))]) else none
   | _=>none
  | _=>none:=ak _
theorem aaN (isMax:Bool)(x y:Opd):rvl E st (.mm isMax x y)=match x.ev E st,y.ev E st with
  | .int k a,.int _ b=>some (.int k (if isMax then max a b else min a b),st.au)
  | _,_=>none:=ak _
theorem Gk (sz bytes:Nat)(zero:List DV)(a b:Opd):rvl E st (.fY sz bytes zero a b)=match a.ev E st,b.ev E st with
  | .int _ n,.int _ c=>if 0<=n/\n<=c/\c*bytes<=140737488355328/\c<=4611686018427387904/\zero.length=sz then
    some (.own st.au.length 0 n.toNat,st.au++ [some (.arr sz (List.replicate n.toNat zero))]) else none
  | _,_=>none:=ak _
theorem NG (sz:Nat)(rows:List (List DV))(k:SK):rowsOf st (.sl sz rows k)=some (sz,rows):=ak _
theorem JR (o off m:Nat):rowsOf st (.own o off m)=(st.au[o]?).bind fun x=>x.bind fun ob=>match ob with
  | .arr sz rows=>if off+m<=rows.length then some (sz,(rows.drop off).take m) else none
  | _=>none:=by
 simp only[rowsOf]
 generalize st.au[o]?=x
 rcases x with _ | _ | ob <;> try rfl
 cases ob <;> rfl
theorem JQ (s:List UInt8):rowsOf st (.str s)=some (1,dg s):=ak _
theorem Xe (dr:Bool)(x:Opd):stV E F dr (.mov x) dst z st K=bA (rvl E st (.mov x)) fun p=>eA (nx st p z dst) K:=cI E F K st dst (.mov x) z dr rfl
theorem Q8 (dr:Bool)(c a b:Opd):stV E F dr (.pick c a b) dst z st K=bA (rvl E st (.pick c a b)) fun p=>eA (nx st p z dst) K:=cI E F K st dst (.pick c a b) z dr rfl
theorem Xo (dr:Bool)(sz:Nat)(x:Opd):stV E F dr (.box sz x) dst z st K=bA (rvl E st (.box sz x)) fun p=>eA (nx st p z dst) K:=cI E F K st dst (.box sz x) z dr rfl
theorem Nm (dr:Bool)(zero:List DV):stV E F dr (.alloc zero) dst z st K=bA (rvl E st (.alloc zero)) fun p=>eA (nx st p z dst) K:=cI E F K st dst (.alloc zero) z dr rfl
theorem Nl (dr:Bool)(zero:List DV)(parts:List (Nat × Nat × Opd)):stV E F dr (.build zero parts) dst z st K=bA (rvl E st (.build zero parts)) fun p=>eA (nx st p z dst) K:=cI E F K st dst (.build zero parts) z dr rfl
theorem Ng (dr:Bool)(sz:Nat)(zero:List DV)(len:Nat)(parts:List (Nat × Opd)):stV E F dr (.bK sz zero len parts) dst z st K=bA (rvl E st (.bK sz zero len parts)) fun p=>eA (nx st p z dst) K:=cI E F K st dst (.bK sz zero len parts) z dr rfl
theorem Ra (dr:Bool)(ag:Bool)(sz:Nat)(x:Opd):stV E F dr (.load ag sz x) dst z st K=bA (rvl E st (.load ag sz x)) fun p=>eA (nx st p z dst) K:=cI E F K st dst (.load ag sz x) z dr rfl
theorem Nc (dr:Bool)(sz:Nat)(p x:Opd):stV E F dr (.store sz p x) dst z st K=bA (rvl E st (.store sz p x)) fun p=>eA (nx st p z dst) K:=cI E F K st dst (.store sz p x) z dr rfl
theorem Nf (dr:Bool)(x:Opd):stV E F dr (.aF x) dst z st K=bA (rvl E st (.aF x)) fun p=>eA (nx st p z dst) K:=cI E F K st dst (.aF x) z dr rfl
theorem Xp (dr:Bool)(op:BinOp)(x y:Opd):stV E F dr (.bin op x y) dst z st K=bA (rvl E st (.bin op x y)) fun p=>eA (nx st p z dst) K:=cI E F K st dst (.bin op x y) z dr rfl
theorem Xn (dr:Bool)(neg:Bool)(x y:Opd):stV E F dr (.eqB neg x y) dst z st K=bA (rvl E st (.eqB neg x y)) fun p=>eA (nx st p z dst) K:=cI E F K st dst (.eqB neg x y) z dr rfl
theorem Nk (dr:Bool)(neg:Bool)(x y:Opd):stV E F dr (.jM neg x y) dst z st K=bA (rvl E st (.jM neg x y)) fun p=>eA (nx st p z dst) K:=cI E F K st dst (.jM neg x y) z dr rfl
theorem aaH (dr:Bool)(op:UnOp)(x:Opd):stV E F dr (.un op x) dst z st K=bA (rvl E st (.un op x)) fun p=>eA (nx st p z dst) K:=cI E F K st dst (.un op x) z dr rfl
theorem Xi (dr:Bool)(k:IntKind)(x:Opd):stV E F dr (.conv (.i2i k) x) dst z st K=bA (rvl E st (.conv (.i2i k) x)) fun p=>eA (nx st p z dst) K:=cI E F K st dst (.conv (.i2i k) x) z dr rfl
theorem Xq (dr:Bool)(x:Opd):stV E F dr (.conv .b2s x) dst z st K=bA (rvl E st (.conv .b2s x)) fun p=>eA (nx st p z dst) K:=cI E F K st dst (.conv .b2s x) z dr rfl
theorem Xd (dr:Bool)(x:Opd):stV E F dr (.conv .s2b x) dst z st K=bA (rvl E st (.conv .s2b x)) fun p=>eA (nx st p z dst) K:=cI E F K st dst (.conv .s2b x) z dr rfl
theorem Xf (dr:Bool)(x:Opd):stV E F dr (.conv .lit x) dst z st K=bA (rvl E st (.conv .lit x)) fun p=>eA (nx st p z dst) K:=cI E F K st dst (.conv .lit x) z dr rfl
theorem Xc (dr:Bool)(x:Opd):stV E F dr (.conv .s2s x) dst z st K=bA (rvl E st (.conv .s2s x)) fun p=>eA (nx st p z dst) K:=cI E F K st dst (.conv .s2s x) z dr rfl
theorem Nd (dr:Bool)(sz:Nat)(x:Opd)(lo hi mx:Option Opd):stV E F dr (.slice sz x lo hi mx) dst z st K=bA (rvl E st (.slice sz x lo hi mx)) fun p=>eA (nx st p z dst) K:=cI E F K st dst (.slice sz x lo hi mx) z dr rfl
theorem Jw (dr:Bool)(x:Opd)(lo hi:Option Opd):stV E F dr (.lC x lo hi) dst z st K=bA (rvl E st (.lC x lo hi)) fun p=>eA (nx st p z dst) K:=cI E F K st dst (.lC x lo hi) z dr rfl
theorem Nj (dr:Bool)(off:Nat)(x:Opd):stV E F dr (.p9 off x) dst z st K=bA (rvl E st (.p9 off x)) fun p=>eA (nx st p z dst) K:=cI E F K st dst (.p9 off x) z dr rfl
theorem Xj (dr:Bool)(ag:Bool)(off sz:Nat)(x:Opd):stV E F dr (.fld ag off sz x) dst z st K=bA (rvl E st (.fld ag off sz x)) fun p=>eA (nx st p z dst) K:=cI E F K st dst (.fld ag off sz x) z dr rfl
theorem Ni (dr:Bool)(sz:Nat)(x i:Opd):stV E F dr (.aT sz x i) dst z st K=bA (rvl E st (.aT sz x i)) fun p=>eA (nx st p z dst) K:=cI E F K st dst (.aT sz x i) z dr rfl
theorem Jx (dr:Bool)(len sz:Nat)(x i:Opd):stV E F dr (.iz len sz x i) dst z st K=bA (rvl E st (.iz len sz x i)) fun p=>eA (nx st p z dst) K:=cI E F K st dst (.iz len sz x i) z dr rfl
theorem Rc (dr:Bool)(x i:Opd):stV E F dr (.yK x i) dst z st K=bA (rvl E st (.yK x i)) fun p=>eA (nx st p z dst) K:=cI E F K st dst (.yK x i) z dr rfl
theorem Xk (dr:Bool)(x:Opd)(i:Nat):stV E F dr (.ext x i) dst z st K=bA (rvl E st (.ext x i)) fun p=>eA (nx st p z dst) K:=cI E F K st dst (.ext x i) z dr rfl
theorem Xg (dr:Bool)(x:Opd):stV E F dr (.len x) dst z st K=bA (rvl E st (.len x)) fun p=>eA (nx st p z dst) K:=cI E F K st dst (.len x) z dr rfl
theorem Rb (dr:Bool)(x:Opd):stV E F dr (.BV x) dst z st K=bA (rvl E st (.BV x)) fun p=>eA (nx st p z dst) K:=cI E F K st dst (.BV x) z dr rfl
theorem Jy (dr:Bool)(sz bytes:Nat)(x y:Opd):stV E F dr (.append sz bytes x y) dst z st K=bA (rvl E st (.append sz bytes x y)) fun p=>eA (nx st p z dst) K:=cI E F K st dst (.append sz bytes x y) z dr rfl
theorem aaI (dr:Bool)(isMax:Bool)(x y:Opd):stV E F dr (.mm isMax x y) dst z st K=bA (rvl E st (.mm isMax x y)) fun p=>eA (nx st p z dst) K:=cI E F K st dst (.mm isMax x y) z dr rfl
theorem Gf (dr:Bool)(sz bytes:Nat)(zero:List DV)(a b:Opd):stV E F dr (.fY sz bytes zero a b) dst z st K=bA (rvl E st (.fY sz bytes zero a b)) fun p=>eA (nx st p z dst) K:=cI E F K st dst (.fY sz bytes zero a b) z dr rfl
end
def sR (cs:List DV):List Nat:=cs.filterMap fun
  | .own o _ _=>some o
  | _=>none
def adv (x:Option (Option Ob))(o:Nat)(env:List (Nat × DV))(au:ay):St:=
 match x with
 | some (some (.arr sz rows))=>if o+1=au.length then ⟨env.map (fun x=>(x.1,x.2.lI o sz rows)),au.set o none⟩ else ⟨env.map (fun x=>(x.1,x.2.lI o sz rows)),(au.set o none).map (Option.map (Ob.frz o sz rows))⟩
 | _=>⟨env,au⟩
theorem OV (o:Nat)(env:List (Nat × DV))(au:ay):St.freeze o ⟨env,au⟩=adv au[o]? o env au:=ak _
theorem TT (sz:Nat)(rows:List (List DV))(o:Nat)(env:List (Nat × DV))(au:ay):adv (some (some (.arr sz rows))) o env au=if o+1=au.length then ⟨env.map (fun x=>(x.1,x.2.lI o sz rows)),au.set o none⟩ else ⟨env.map (fun x=>(x.1,x.2.lI o sz rows)),(au.set o none).map (Option.map (Ob.frz o sz rows))⟩:=ak _
theorem HD (k:Nat):dY k []=[]:=ak _
theorem EZ (k:Nat)(d:DV)(l:List DV):dY k (d::l)=(k,d)::dY (k+1) l:=ak _
theorem SV (t:Nat):St.look t []=.undef:=ak _
theorem Oq (t k:Nat)(d:DV)(l:List (Nat × DV)):St.look t ((k,d)::l)=if k=t then d else St.look t l:=ak _
theorem Yz (t:Nat)(d:DV):St.ins t d []=[(t,d)]:=ak _
theorem S1 (t k:Nat)(d x:DV)(l:List (Nat × DV)):St.ins t d ((k,x)::l)=if t<k then (t,d)::(k,x)::l else if k=t then (t,d)::l else (k,x)::St.ins t d l:=ak _
theorem XT (t:Nat)(d:DV):St.rep t d []=[]:=ak _
theorem RO (t k:Nat)(d x:DV)(l:List (Nat × DV)):St.rep t d ((k,x)::l)=if k=t then (t,d)::l else (k,x)::St.rep t d l:=ak _
theorem SS (k:Nat):Hu k []=false:=ak _
theorem Oo (k a:Nat)(l:List Nat):Hu k (a::l)=if a=k then true else Hu k l:=ak _
theorem Ue (keep:List Nat):HX keep []=[]:=ak _
theorem O3 (keep:List Nat)(k:Nat)(d:DV)(l:List (Nat × DV)):HX keep ((k,d)::l)=if Hu k keep=true then (k,d)::HX keep l else HX keep l:=ak _
theorem KZ (E:Prg)(st:St)(cs:List DV):xE E st [] cs=some cs:=ak _
theorem Ih (E:Prg)(st:St)(x:Nat × Nat × Opd)(l:List (Nat × Nat × Opd))(cs:List DV):xE E st (x::l) cs=(x.2.2.ev E st).cells.bind fun new=>if new.length=x.2.1/\x.1+new.length<=cs.length then xE E st l (ig cs x.1 new) else none:=ak _
theorem Kl (E:Prg)(st:St)(sz:Nat)(cs:List (List DV)):xd E st sz [] cs=some cs:=ak _
theorem Hi (E:Prg)(st:St)(sz:Nat)(x:Nat × Opd)(l:List (Nat × Opd))(rows:List (List DV)):xd E st sz (x::l) rows=(x.2.ev E st).cells.bind fun new=>if new.length=sz/\x.1<rows.length/\new.all DV.one=true then xd E st sz l (rows.set x.1 new) else none:=ak _
theorem U6 (k:IntKind)(a b:Int):lN .add (.int k a) (.int k b)=some (.int k (k.wrap (a+b))):=if_pos rfl
theorem UQ (k:IntKind)(a b:Int):lN .sub (.int k a) (.int k b)=some (.int k (k.wrap (a-b))):=if_pos rfl
theorem UX (k:IntKind)(a b:Int):lN .mul (.int k a) (.int k b)=some (.int k (k.wrap (a*b))):=if_pos rfl
theorem UU (k:IntKind)(a b:Int):lN .quo (.int k a) (.int k b)=if b=0 then none else some (.int k (k.wrap (a.tdiv b))):=if_pos rfl
theorem UT (k:IntKind)(a b:Int):lN .rem (.int k a) (.int k b)=if b=0 then none else some (.int k (a.tmod b)):=if_pos rfl
theorem U5 (k:IntKind)(a b:Int):lN .and (.int k a) (.int k b)=some (.int k (k.wrap (BitVec.ofInt k.bits a &&& BitVec.ofInt k.bits b).toNat)):=if_pos rfl
theorem ZN (k:IntKind)(a b:Int):lN .or (.int k a) (.int k b)=some (.int k (k.wrap (BitVec.ofInt k.bits a ||| BitVec.ofInt k.bits b).toNat)):=if_pos rfl
theorem UP (k:IntKind)(a b:Int):lN .xor (.int k a) (.int k b)=some (.int k (k.wrap (BitVec.ofInt k.bits a ^^^ BitVec.ofInt k.bits b).toNat)):=if_pos rfl
theorem Ij (k:IntKind)(a b:Int):lN .andNot (.int k a) (.int k b)=some (.int k (k.wrap (BitVec.ofInt k.bits a &&& ~~~ BitVec.ofInt k.bits b).toNat)):=if_pos rfl
theorem U4 (k:IntKind)(a b:Int):lN .eql (.int k a) (.int k b)=some (.bool (decide (a=b))):=if_pos rfl
theorem UW (k:IntKind)(a b:Int):lN .neq (.int k a) (.int k b)=some (.bool (!decide (a=b))):=if_pos rfl
theorem UY (k:IntKind)(a b:Int):lN .lss (.int k a) (.int k b)=some (.bool (decide (a<b))):=if_pos rfl
theorem UZ (k:IntKind)(a b:Int):lN .leq (.int k a) (.int k b)=some (.bool (decide (a<=b))):=if_pos rfl
theorem U0 (k:IntKind)(a b:Int):lN .gtr (.int k a) (.int k b)=some (.bool (decide (b<a))):=if_pos rfl
theorem U3 (k:IntKind)(a b:Int):lN .geq (.int k a) (.int k b)=some (.bool (decide (b<=a))):=if_pos rfl
theorem US (k k2:IntKind)(a b:Int):lN .shl (.int k a) (.int k2 b)=if b<0 then none else some (.int k (k.wrap (a*2 ^ (min b.toNat k.bits)))):=ak _
theorem UR (k k2:IntKind)(a b:Int):lN .shr (.int k a) (.int k2 b)=if b<0 then none else some (.int k (a.fdiv (2 ^ (min b.toNat k.bits)))):=ak _
theorem Vd (a b:List UInt8):lN .add (.str a) (.str b)=if a.length+b.length<=4611686018427387904 then some (.str (a++b)) else none:=ak _
theorem Vc (a b:List UInt8):lN .eql (.str a) (.str b)=some (.bool (a==b)):=ak _
theorem U7 (a b:List UInt8):lN .neq (.str a) (.str b)=some (.bool (!(a==b))):=ak _
theorem U8 (a b:List UInt8):lN .lss (.str a) (.str b)=some (.bool (Op.bytesLess a b)):=ak _
theorem U9 (a b:List UInt8):lN .leq (.str a) (.str b)=some (.bool (Op.bytesLess a b || a==b)):=ak _
theorem Va (a b:List UInt8):lN .gtr (.str a) (.str b)=some (.bool (!(Op.bytesLess a b || a==b))):=ak _
theorem Vb (a b:List UInt8):lN .geq (.str a) (.str b)=some (.bool (!Op.bytesLess a b)):=ak _
theorem QG (k:IntKind)(n:Int):M5 .neg (.int k n)=some (.int k (k.wrap (0-n))):=ak _
theorem QE (k:IntKind)(n:Int):M5 .xor (.int k n)=some (.int k (k.wrap (BitVec.ofInt k.bits (if k.signed then -1 else k.max) ^^^ BitVec.ofInt k.bits n).toNat)):=ak _
theorem QF (b:Bool):M5 .not (.bool b)=some (.bool (!b)):=ak _
theorem SF:SH .nil=some true:=ak _
theorem Hf:SH .gA=some false:=ak _
theorem SG:SH .any=none:=ak _
theorem Og:SH .zero=none:=ak _
theorem Ph (k:IntKind)(n:Int):DV.cells (.int k n)=some [.int k n]:=ak _
theorem Ya (k:IntKind)(n:Int):DV.one (.int k n)=true:=ak _
theorem KV (b:Bool):DV.cells (.bool b)=some [.bool b]:=ak _
theorem Sn (b:Bool):DV.one (.bool b)=true:=ak _
theorem Pe (s:List UInt8):DV.cells (.str s)=some [.str s]:=ak _
theorem X7 (s:List UInt8):DV.one (.str s)=true:=ak _
theorem Ut (sz:Nat)(rows:List (List DV))(k:SK):DV.cells (.sl sz rows k)=some [.sl sz rows k]:=ak _
theorem aa1 (sz:Nat)(rows:List (List DV))(k:SK):DV.one (.sl sz rows k)=true:=ak _
theorem Pg (o off n:Nat):DV.cells (.own o off n)=some [.own o off n]:=ak _
theorem X9 (o off n:Nat):DV.one (.own o off n)=true:=ak _
theorem Pf (o i j:Nat):DV.cells (.ptr o i j)=some [.ptr o i j]:=ak _
theorem X8 (o i j:Nat):DV.one (.ptr o i j)=true:=ak _
theorem Uu (row:List DV)(j:Nat):DV.cells (.rp row j)=some [.rp row j]:=ak _
theorem aa2 (row:List DV)(j:Nat):DV.one (.rp row j)=true:=ak _
theorem Pj (cs:List DV):DV.cells (.agg cs)=some cs:=ak _
theorem XO (sz:Nat)(row:List DV)(j:Nat):rowAt false sz row j=row[j]?:=ak _
theorem L5 (sz:Nat)(row:List DV)(j:Nat):rowAt true sz row j=if j+sz<=row.length then some (.agg ((row.drop j).take sz)) else none:=ak _
theorem NH (row:List DV)(j:Nat)(cs:List DV):ig row j cs=row.take j++cs++row.drop (j+cs.length):=ak _
theorem RG (cs:List DV):Ob.rows (.box cs)=[cs]:=ak _
theorem RH (sz:Nat)(rows:List (List DV)):Ob.rows (.arr sz rows)=rows:=ak _
theorem JH (cs:List DV)(i:Nat)(row:List DV):Ob.setRow (.box cs) i row=.box row:=ak _
theorem JI (sz:Nat)(rows:List (List DV))(i:Nat)(row:List DV):Ob.setRow (.arr sz rows) i row=.arr sz (rows.set i row):=ak _
theorem HO (st:St):St.fT [] st=st:=ak _
theorem E4 (o:Nat)(l:List Nat)(st:St):St.fT (o::l) st=St.fT l (st.freeze o):=ak _
theorem Ka (o off n:Nat):jZ (.own o off n)=[o]:=ak _
theorem N4 (sz:Nat)(rows:List (List DV))(k:SK):jZ (.sl sz rows k)=[]:=ak _
theorem Kc (cs:List DV):jZ (.agg cs)=sR cs:=ak _
theorem Sj:sR []=[]:=ak _
theorem Sk (k:IntKind)(n:Int)(l:List DV):sR (.int k n::l)=sR l:=ak _
theorem T9 (o sz:Nat)(rows:List (List DV))(k:IntKind)(n:Int):DV.iA o sz rows (.int k n)=.int k n:=ak _
theorem TR (o sz:Nat)(rows:List (List DV))(k:IntKind)(n:Int):DV.lI o sz rows (.int k n)=.int k n:=ak _
theorem N3 (b:Bool)(l:List DV):sR (.bool b::l)=sR l:=ak _
theorem OU (o sz:Nat)(rows:List (List DV))(b:Bool):DV.iA o sz rows (.bool b)=.bool b:=ak _
theorem OQ (o sz:Nat)(rows:List (List DV))(b:Bool):DV.lI o sz rows (.bool b)=.bool b:=ak _
theorem Sg (s:List UInt8)(l:List DV):sR (.str s::l)=sR l:=ak _
theorem TZ (o sz:Nat)(rows:List (List DV))(s:List UInt8):DV.iA o sz rows (.str s)=.str s:=ak _
theorem TO (o sz:Nat)(rows:List (List DV))(s:List UInt8):DV.lI o sz rows (.str s)=.str s:=ak _
theorem X0 (sz:Nat)(rows:List (List DV))(k:SK)(l:List DV):sR (.sl sz rows k::l)=sR l:=ak _
theorem Zc (o sz:Nat)(rows:List (List DV))(sz2:Nat)(kK:List (List DV))(k:SK):DV.iA o sz rows (.sl sz2 kK k)=.sl sz2 kK k:=ak _
theorem Y5 (o sz:Nat)(rows:List (List DV))(sz2:Nat)(kK:List (List DV))(k:SK):DV.lI o sz rows (.sl sz2 kK k)=.sl sz2 kK k:=ak _
theorem Sh (o i j:Nat)(l:List DV):sR (.ptr o i j::l)=sR l:=ak _
theorem T7 (o sz:Nat)(rows:List (List DV))(o2 i j:Nat):DV.iA o sz rows (.ptr o2 i j)=.ptr o2 i j:=ak _
theorem TP (o sz:Nat)(rows:List (List DV))(o2 i j:Nat):DV.lI o sz rows (.ptr o2 i j)=.ptr o2 i j:=ak _
theorem X3 (row:List DV)(j:Nat)(l:List DV):sR (.rp row j::l)=sR l:=ak _
theorem Zd (o sz:Nat)(rows:List (List DV))(row:List DV)(j:Nat):DV.iA o sz rows (.rp row j)=.rp row j:=ak _
theorem Y6 (o sz:Nat)(rows:List (List DV))(row:List DV)(j:Nat):DV.lI o sz rows (.rp row j)=.rp row j:=ak _
theorem Si (o off n:Nat)(l:List DV):sR (.own o off n::l)=o::sR l:=ak _
theorem T8 (o sz:Nat)(rows:List (List DV))(o2 off n:Nat):DV.iA o sz rows (.own o2 off n)=if o2=o/\off+n<=rows.length then .sl sz ((rows.drop off).take n) .any else .own o2 off n:=ak _
theorem TQ (o sz:Nat)(rows:List (List DV))(o2 off n:Nat):DV.lI o sz rows (.own o2 off n)=if o2=o/\off+n<=rows.length then .sl sz ((rows.drop off).take n) .any else .own o2 off n:=ak _
theorem KD (o sz:Nat)(rows:List (List DV)):DV.lI o sz rows .undef=.undef:=ak _
theorem TS (o sz:Nat)(rows:List (List DV))(cs:List DV):DV.lI o sz rows (.agg cs)=.agg (cs.map (DV.iA o sz rows)):=ak _
theorem TN (o sz:Nat)(rows:List (List DV))(cs:List DV):DV.lI o sz rows (.tup cs)=.tup (cs.map (DV.qK o sz rows)):=ak _
theorem Oa (o sz:Nat)(rows:List (List DV))(cs:List DV):Ob.frz o sz rows (.box cs)=.box (cs.map (DV.iA o sz rows)):=ak _
theorem Oc (o sz:Nat)(rows:List (List DV))(s:Nat)(r:List (List DV)):Ob.frz o sz rows (.arr s r)=.arr s r:=ak _
end
end Go.Proofs.YtjmnbpilnneonaaGreatDoor
