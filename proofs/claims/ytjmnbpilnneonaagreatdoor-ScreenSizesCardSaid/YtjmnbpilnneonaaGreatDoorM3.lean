/- Texts Ab19, Ab20, Ab21, Ab22, Ab23, Ab24, Ab25, Ab26, Ab27, Ab28, Ab29, Ab30, Ab31, Ab32, Ab33, Ab34, Ab35, Ab36 in one. -/
import Derived.Test.YtjmnbpilnneonaaGreatDoorM2
import Derived.IntWalk
import Derived.ChangeSlices
import Derived.OpenShut
import Derived.Deep.DeepHandedRow
import Derived.Lib.LaidTab
set_option linter.unusedVariables false
set_option linter.unusedSimpArgs false
set_option maxRecDepth 10000
set_option linter.defProp false
namespace Go.Proofs.YtjmnbpilnneonaaGreatDoor
open Go.RowKit
variable {E:Prg}{T A B:ay}{d:DV}{n f q sz x base m b0 a:Nat}{F:dW}{v:Value}{l:List Int}{ids:List Nat}{w:World}{st:St}{G:Gh}{R K:DV->ay->Prop}{held:Bool}{spare:Nat->Bool}{r:Reach}
def Cl (d:DV):Prop:=∀(G G':Gh) (v:Value),(∀a x,G.rd a=some x->G'.rd a=some x)->Rel G d v->Rel G' d v
theorem Cl.int (k:IntKind)(n:Int):Cl (.int k n):=fun G G' v _ h=>by cases h;exact .int k n
theorem Cl.bool (b:Bool):Cl (.bool b):=fun G G' v _ h=>by cases h;exact .bool b
theorem Cl.str (s:List UInt8):Cl (.str s):=fun G G' v _ h=>by cases h;exact .str s
theorem Cl.undef:Cl .undef:=fun G G' v _ h=>by cases h;exact .undef v
theorem Cl.lit (v:Value):Cl (.lit v):=fun G G' u _ h=>by cases h;exact .lit v
theorem Cl.sl (sz:Nat)(rows:List (List DV))(k:SK)(h:∀row∈rows,∀c∈row,Cl c):Cl (.sl sz rows k):=fun G G' v hle r=>by
 cases r with
 | sl sz rows k p len cap b o vals h1 h2 h3 h4 h5 h6 h7=>
  exact .sl sz rows k p len cap b o vals h1 h2 h3 h4 h5 (fun i j row c a b=>hle _ _ (h6 i j row c a b)) fun i j row c hr hc=>h row (List.mem_of_getElem? hr) c (List.mem_of_getElem? hc) G G' _ hle (h7 i j row c hr hc)
theorem Cl.agg (cs:List DV)(h:∀c∈cs,Cl c):Cl (.agg cs):=fun G G' v hle r=>by
 cases r with
 | agg cs vs h1 h2=>exact .agg cs vs h1 fun i c hc=>h c (List.mem_of_getElem? hc) G G' _ hle (h2 i c hc)
theorem Cl.rp (row:List DV)(j:Nat)(h:∀c∈row,Cl c):Cl (.rp row j):=fun G G' v hle r=>by
 cases r with
 | rp row j b o vals h1 h2=>exact .rp row j b o vals (fun m c hc=>hle _ _ (h1 m c hc)) fun m c hc=>h c (List.mem_of_getElem? hc) G G' _ hle (h2 m c hc)
inductive Ren (f:Nat->Option Nat):DV->DV->Prop where
 | cl (d:DV):Cl d->Ren f d d
 | own (o o' off n:Nat):f o=some o'->Ren f (.own o off n) (.own o' off n)
 | ptr (o o' i j:Nat):f o=some o'->Ren f (.ptr o i j) (.ptr o' i j)
 | agg (cs ds:List DV):cs.length=ds.length->(∀(i:Nat) c d,cs[i]?=some c->ds[i]?=some d->Ren f c d)->Ren f (.agg cs) (.agg ds)
 | tup (cs ds:List DV):cs.length=ds.length->(∀(i:Nat) c d,cs[i]?=some c->ds[i]?=some d->Ren f c d)->Ren f (.tup cs) (.tup ds)
 | wrap (w:WK) (cs ds:List DV):cs.length=ds.length->(∀(i:Nat) c d,cs[i]?=some c->ds[i]?=some d->Ren f c d)->Ren f (.wrap w cs) (.wrap w ds)
theorem Ren.rel {f:Nat->Option Nat}{G':Gh}(hle:∀a x,G.rd a=some x->G'.rd a=some x)(hpl:∀o o' p,f o=some o'->G.pl o=some p->G'.pl o'=some p){d d':DV}(h:Ren f d d'):∀{v:Value},Rel G d v->Rel G' d' v:=by
 induction h with
 | cl d hc=>exact fun r=>hc G G' _ hle r
 | own o o' off n hf=>
  intro v r
  cases r with
  | own o off n pl p c h1 h2 h3 h4=>exact .own o' off n pl p c (hpl o o' pl hf h1) h2 h3 h4
 | ptr o o' i j hf=>
  intro v r
  cases r with
  | ptr o i j pl h1=>exact .ptr o' i j pl (hpl o o' pl hf h1)
 | agg cs ds hl _ ih=>
  intro v r
  cases r with
  | agg cs vs h1 h2=>
   refine .agg ds vs (by rw[h1,hl]) fun i d hd=>?_
   have hi:i<cs.length:=by rw[hl];exact (List.getElem?_eq_some_iff.1 hd).1
   exact ih i cs[i] d (List.getElem?_eq_getElem hi) hd (h2 i cs[i] (List.getElem?_eq_getElem hi))
 | tup cs ds hl _ ih=>
  intro v r
  cases r with
  | tup cs vs h1 h2=>
   refine .tup ds vs (by rw[h1,hl]) fun i d hd=>?_
   have hi:i<cs.length:=by rw[hl];exact (List.getElem?_eq_some_iff.1 hd).1
   exact ih i cs[i] d (List.getElem?_eq_getElem hi) hd (h2 i cs[i] (List.getElem?_eq_getElem hi))
 | wrap w cs ds hl _ ih=>
  intro v r
  cases r with
  | ifc t d v h1=>
   match ds,hl with
   | [d2],_=>exact .ifc t d2 v (ih 0 d d2 rfl rfl h1)
  | ifa t cs vs h1 h2=>
   refine .ifa t ds vs (by rw[h1,hl]) fun i d hd=>?_
   have hi:i<cs.length:=by rw[hl];exact (List.getElem?_eq_some_iff.1 hd).1
   exact ih i cs[i] d (List.getElem?_eq_getElem hi) hd (h2 i cs[i] (List.getElem?_eq_getElem hi))
  | clo g cs vs h1 h2=>
   refine .clo g ds vs (by rw[h1,hl]) fun i d hd=>?_
   have hi:i<cs.length:=by rw[hl];exact (List.getElem?_eq_some_iff.1 hd).1
   exact ih i cs[i] d (List.getElem?_eq_getElem hi) hd (h2 i cs[i] (List.getElem?_eq_getElem hi))
def Bs (f:Nat->Option Nat)(a b:Ob):Prop:=
 a.sz=b.sz/\a.rows.length=b.rows.length/\∀(i:Nat) ra rb,a.rows[i]?=some ra->b.rows[i]?=some rb->ra.length=rb.length/\∀(j:Nat) c d,ra[j]?=some c->rb[j]?=some d->Ren f c d
def Canon (n:Nat)(f:Nat->Option Nat)(d:DV)(T:ay)(d':DV)(os:ay):Prop:=
 Ren f d d'/\(∀(k:Nat) ob',os[k]?=some (some ob')->∃o ob,f o=some (n+k)/\T[o]?=some (some ob)/\Bs f ob ob')/\
  (∀a b x,f a=some x->f b=some x->a=b)/\(∀a x,f a=some x->n<=a/\n<=x/\x<n+os.length)
theorem bP.canon {args:List DV}{R':DV->ay->Prop}(h:bP E f args (List.replicate n none) R)
  (hR:∀r T',R r T'->∃g r' os,Canon n g r T' r' os/\R' r' (List.replicate n none++os)):bP E f args (List.replicate n none) R':=by
 intro G w vs h1 h2 h3 h4
 refine Calls.mono (h G w vs h1 h2 h3 h4) fun e w' ⟨v,r,T',G',a,hr,hl,dh,hh,hf⟩=>?_
 obtain ⟨g,r',os,⟨c1,c2,c3,c4⟩,hR'⟩:=hR r T' hr
 open Classical in
 let G2:Gh:={ rd:=G'.rd,pl:=fun x=>if x<n then G.pl x else if hx:∃o,g o=some x then G'.pl (Classical.choose hx) else none}
 have hpl:∀o o' p,g o=some o'->G'.pl o=some p->G2.pl o'=some p:=fun o o' p ho hp=>by
  have h5:=(c4 o o' ho).2.1
  show (if o'<n then G.pl o' else if hx:∃o,g o=some o' then G'.pl (Classical.choose hx) else none)=some p
  rw[if_neg (by omega),dif_pos ⟨o,ho⟩]
  have:=Classical.choose_spec (⟨o,ho⟩:∃o,g o=some o')
  rw[c3 _ _ _ this ho];exact hp
 have abn:∀x p,G2.pl x=some p->(x<n/\G.pl x=some p)\/(n<=x/\x<n+os.length/\∃o,g o=some x/\G'.pl o=some p):=fun x p hx=>by
  change (if x<n then G.pl x else if hx:∃o,g o=some x then G'.pl (Classical.choose hx) else none)=some p at hx
  by_cases hlt:x<n
  ·rw[if_pos hlt] at hx;exact .inl ⟨hlt,hx⟩
  ·rw[if_neg hlt] at hx
   by_cases he:∃o,g o=some x
   ·rw[dif_pos he] at hx
    have hs:=Classical.choose_spec he
    exact .inr ⟨by omega,(c4 _ _ hs).2.2,_,hs,hx⟩
   ·rw[dif_neg he] at hx;cases hx
 have hT:∀(k:Nat) ob,(List.replicate n (none:Option Ob)++os)[k]?=some (some ob)->n<=k/\os[k-n]?=some (some ob):=fun k ob hk=>by
  by_cases hlt:k<n
  ·rw[List.getElem?_append_left (by simpa using hlt)] at hk;exact (dm hk).elim
  ·rw[List.getElem?_append_right (by simpa using hlt)] at hk
   exact ⟨by omega,by simpa using hk⟩
 have hob:∀(k:Nat) ob',(List.replicate n (none:Option Ob)++os)[k]?=some (some ob')->∃o ob,g o=some k/\T'[o]?=some (some ob)/\Bs g ob ob':=fun k ob' hk=>by
  obtain ⟨h5,h6⟩:=hT k ob' hk
  obtain ⟨o,ob,h7,h8,h9⟩:=c2 _ _ h6
  rw[show n+(k-n)=k by omega] at h7
  exact ⟨o,ob,h7,h8,h9⟩
 have og:∀(k:Nat) ob' p,(List.replicate n (none:Option Ob)++os)[k]?=some (some ob')->G2.pl k=some p->∃o ob,g o=some k/\T'[o]?=some (some ob)/\Bs g ob ob'/\G'.pl o=some p:=fun k ob' p hk hp=>by
  obtain ⟨o,ob,h5,h6,h7⟩:=hob k ob' hk
  obtain ⟨q,hq,_⟩:=hh.live o ob h6
  rw[hpl o k q h5 hq] at hp
  obtain rfl:=sj hp
  exact ⟨o,ob,h5,h6,h7,hq⟩
 refine ⟨v,r',_,G2,a,hR',by simp,c1.rel (G:=G') (G':=G2) (fun _ _ h=>h) hpl dh,⟨?_, ?_, ?_,hh.rdv, ?_⟩,⟨hf.os,hf.tape,hf.output,hf.size,hf.blk,hf.cell,hf.frz, ?_,hf.rdn,⟨hf.le.rd, ?_⟩,hf.mko⟩⟩
 ·intro k p hp
  rcases abn k p hp with ⟨h5,_⟩ | ⟨_,h5,_⟩ <;> simp <;> omega
 ·intro k ob' hk
  obtain ⟨o,ob,h5,h6,h7⟩:=hob k ob' hk
  obtain ⟨q,hq,hl⟩:=hh.live o ob h6
  refine ⟨q,hpl o k q h5 hq,⟨hl.psz.trans h7.1,h7.2.1 ▸ hl.fits,fun row hrow=>?_,hl.there,fun i j row c v hi hj hv=>?_,hl.mko⟩⟩
  ·obtain ⟨i,hi,he⟩:=List.getElem_of_mem hrow
   have hi2:i<ob.rows.length:=by rw[h7.2.1];exact hi
   rw[<-(h7.2.2 i ob.rows[i] row (List.getElem?_eq_getElem hi2) (by rw[List.getElem?_eq_getElem hi,he])).1]
   exact hl.size _ (List.getElem_mem hi2)
  ·have hi2:i<ob.rows.length:=by rw[h7.2.1];exact (List.getElem?_eq_some_iff.1 hi).1
   obtain ⟨h8,h9⟩:=h7.2.2 i ob.rows[i] row (List.getElem?_eq_getElem hi2) hi
   have hj2:j<ob.rows[i].length:=by rw[h8];exact (List.getElem?_eq_some_iff.1 hj).1
   exact (h9 j _ c (List.getElem?_eq_getElem hj2) hj).rel (G:=G') (G':=G2) (fun _ _ h=>h) hpl (hl.holds i j ob.rows[i] ob.rows[i][j] v (List.getElem?_eq_getElem hi2) (List.getElem?_eq_getElem hj2) hv)
 ·intro k k' x x' p p' m m' hk hk' hne hp hp' hm hm' e
  obtain ⟨o,ob,h5,h6,h7,h8⟩:=og k x p hk hp
  obtain ⟨o',ob',h5',h6',h7',h8'⟩:=og k' x' p' hk' hp'
  refine hh.sep o o' ob ob' p p' m m' h6 h6' (fun e2=>?_) h8 h8' hm hm' e
  subst e2
  exact hne (sj (h5.symm.trans h5'))
 ·intro k x p m hk hp hm
  obtain ⟨o,ob,h5,h6,h7,h8⟩:=og k x p hk hp
  exact hh.rds o ob p m h6 h8 hm
 ·intro k x p m hk hp hm
  obtain ⟨o,ob,h5,h6,h7,h8⟩:=og k x p hk hp
  exact hf.mine o ob p m h6 h8 hm
 ·intro k p hp
  have hk:=h2.pls k p hp
  simp at hk
  show (if k<n then G.pl k else _)=some p
  rw[if_pos hk];exact hp
def gW (rows:List (List DV)):Prop:=∀row∈rows,∀c∈row,Cl c
def jR:DV->List Nat
 | .own o _ _=> [o]
 | .ptr o _ _=> [o]
 | _=> []
def pL:DV->List Nat
 | .agg cs=>cs.flatMap jR
 | .wrap _ cs=>cs.flatMap jR
 | d=>jR d
def eu:DV->List Nat
 | .tup cs=>cs.flatMap pL
 | d=>pL d
def pos (o:Nat):List Nat->Nat
 | []=>0
 | a::l=>if a=o then 0 else pos o l+1
def oo (n:Nat)(ids:List Nat):DV->DV
 | .own o off m=> .own (n+pos o ids) off m
 | .ptr o i j=> .ptr (n+pos o ids) i j
 | d=>d
def qO (n:Nat)(ids:List Nat):DV->DV
 | .agg cs=> .agg (cs.map (oo n ids))
 | .wrap w cs=> .wrap w (cs.map (oo n ids))
 | d=>oo n ids d
def lK (n:Nat)(ids:List Nat):DV->DV
 | .tup cs=> .tup (cs.map (qO n ids))
 | d=>qO n ids d
def cl0:DV->Prop
 | .int .. | .bool .. | .str .. | .own .. | .ptr .. | .undef | .lit _=>True
 | .sl _ rows _=>gW rows
 | d=>Cl d
def clA:DV->Prop
 | .agg cs=>∀c∈cs,cl0 c
 | .wrap _ cs=>∀c∈cs,cl0 c
 | d=>cl0 d
def clT:DV->Prop
 | .tup cs=>∀c∈cs,clA c
 | d=>clA d
def AS:Ob->Prop
 | .box cs=>∀c∈cs,Cl c
 | .arr _ rows=>gW rows
def AB (n:Nat)(T:ay):List Nat->(ay->Prop)->Prop
 | [],k=>k []
 | i::l,k=>n<=i/\bA T[i]? fun x=>bA x fun ob=>AS ob/\AB n T l fun os=>k (some ob::os)
def zQ (n:Nat)(d:DV)(T:ay)(K:DV->ay->Prop):Prop:=(eu d).Nodup/\clT d/\AB n T (eu d) fun os=>K (lK n (eu d) d) os
def vA (n:Nat)(ids:List Nat)(x:Nat):Option Nat:=if x∈ids then some (n+pos x ids) else none
theorem Ad {o:Nat}:∀{l:List Nat},o∈l->pos o l<l.length
 | a::l,h=>by
  simp only[pos]
  by_cases e:a=o
  ·simp[e]
  ·rw[if_neg e]
   have:o∈l:=by simpa [Ne.symm (show a≠o from e),fun h:o=a=>e h.symm] using h
   have:=Ad this
   simp;omega
theorem lW {o:Nat}:∀{l:List Nat},o∈l->l[pos o l]?=some o
 | a::l,h=>by
  simp only[pos]
  by_cases e:a=o
  ·simp[e]
  ·rw[if_neg e]
   have:o∈l:=by
    rcases List.mem_cons.1 h with h | h
    ·exact absurd h.symm e
    ·exact h
   simpa using lW this
theorem aaP (h:∀o∈jR d,o∈ids)(hc:cl0 d):Ren (vA n ids) d (oo n ids d):=by
 cases d with
 | own o off m=>exact .own _ _ _ _ (if_pos (h o (by simp[jR])))
 | ptr o i j=>exact .ptr _ _ _ _ (if_pos (h o (by simp[jR])))
 | int k n=>exact .cl _ (Cl.int k n)
 | bool b=>exact .cl _ (Cl.bool b)
 | str s=>exact .cl _ (Cl.str s)
 | undef=>exact .cl _ Cl.undef
 | lit v=>exact .cl _ (Cl.lit v)
 | sl sz rows k=>exact .cl _ (Cl.sl sz rows k hc)
 | agg cs=>exact .cl _ hc
 | tup cs=>exact .cl _ hc
 | rp row j=>exact .cl _ hc
 | wrap w cs=>exact .cl _ hc
theorem acW (h:∀o∈pL d,o∈ids)(hc:clA d):Ren (vA n ids) d (qO n ids d):=by
 cases d with
 | agg cs=>
  refine .agg _ _ (by simp) fun i c d hc' hd=>?_
  rw[List.getElem?_map,hc'] at hd
  obtain rfl:=sj hd
  have hm:=List.mem_of_getElem? hc'
  exact aaP (fun o ho=>h o (List.mem_flatMap.2 ⟨c,hm,ho⟩)) (hc c hm)
 | wrap w cs=>
  refine .wrap _ _ _ (by simp) fun i c d hc' hd=>?_
  rw[List.getElem?_map,hc'] at hd
  obtain rfl:=sj hd
  have hm:=List.mem_of_getElem? hc'
  exact aaP (fun o ho=>h o (List.mem_flatMap.2 ⟨c,hm,ho⟩)) (hc c hm)
 | _=>exact aaP h hc
theorem acV (h:∀o∈eu d,o∈ids)(hc:clT d):Ren (vA n ids) d (lK n ids d):=by
 cases d with
 | tup cs=>
  refine .tup _ _ (by simp) fun i c d hc' hd=>?_
  rw[List.getElem?_map,hc'] at hd
  obtain rfl:=sj hd
  have hm:=List.mem_of_getElem? hc'
  exact acW (fun o ho=>h o (List.mem_flatMap.2 ⟨c,hm,ho⟩)) (hc c hm)
 | _=>exact acW h hc
theorem aab {f:Nat->Option Nat}{ob:Ob}(h:AS ob):Bs f ob ob:=by
 refine ⟨rfl,rfl,fun i ra rb ha hb=>?_⟩
 rw[ha] at hb
 obtain rfl:=sj hb
 refine ⟨rfl,fun j c d hc hd=>?_⟩
 rw[hc] at hd
 obtain rfl:=sj hd
 have h1:=List.mem_of_getElem? ha
 have h2:=List.mem_of_getElem? hc
 cases ob with
 | box cs=>
  simp only[Ob.rows,List.mem_singleton] at h1
  subst h1
  exact .cl _ (h c h2)
 | arr sz rows=>exact .cl _ (h ra h1 c h2)
theorem Az {n:Nat}{T:ay}:∀{ids:List Nat} {K:ay->Prop},AB n T ids K->∃os,K os/\os.length=ids.length/\(∀o∈ids,n<=o)/\∀(k:Nat) (ob':Ob),os[k]?=some (some ob')->∃o,ids[k]?=some o/\T[o]?=some (some ob')/\AS ob'
 | [],K,h=>⟨[],h,rfl,by simp,by simp⟩
 | i::l,K,h=>by
  obtain ⟨h1,h2⟩:=h
  cases hT:T[i]? with
  | none=>rw[hT] at h2;exact h2.elim
  | some x=>cases x with
   | none=>rw[hT] at h2;exact h2.elim
   | some ob=>
    rw[hT] at h2
    obtain ⟨h3,h4⟩:=h2
    obtain ⟨os,h5,h6,h7,h8⟩:=Az h4
    refine ⟨some ob::os,h5,by simp[h6],by simpa using ⟨h1,h7⟩,fun k ob' hk=>?_⟩
    rcases k with _ | k
    ·simp at hk;subst hk;exact ⟨i,rfl,hT,h3⟩
    ·simpa using h8 k ob' (by simpa using hk)
theorem CZ (h:zQ n d T K):∃g r' os,Canon n g d T r' os/\K r' os:=by
 obtain ⟨hn,hc,hg⟩:=h
 obtain ⟨os,h1,h2,h3,h4⟩:=Az hg
 refine ⟨vA n (eu d),_,os,⟨acV (fun _ h=>h) hc,fun k ob' hk=>?_,fun a b x ha hb=>?_,fun a x ha=>?_⟩,h1⟩
 ·obtain ⟨o,h5,h6,h7⟩:=h4 k ob' hk
  have hm:=List.mem_of_getElem? h5
  refine ⟨o,ob', ?_,h6,aab h7⟩
  show (if o∈eu d then some (n+pos o (eu d)) else none)=some (n+k)
  rw[if_pos hm]
  have h8:=lW hm
  have:pos o (eu d)=k:=(List.getElem?_inj (Ad hm) hn).1 (h8.trans h5.symm)
  rw[this]
 ·unfold vA at ha hb
  by_cases hma:a∈eu d
  case neg=>rw[if_neg hma] at ha;cases ha
  by_cases hmb:b∈eu d
  case neg=>rw[if_neg hmb] at hb;cases hb
  rw[if_pos hma] at ha
  rw[if_pos hmb] at hb
  have e:n+pos a (eu d)=n+pos b (eu d):=(sj ha).trans (sj hb).symm
  have h8:=lW hma
  have h9:=lW hmb
  rw[show pos a (eu d)=pos b (eu d) by omega,h9] at h8
  exact (sj h8).symm
 ·unfold vA at ha
  split at ha
  ·rename_i hm
   have:=Ad hm
   obtain rfl:=sj ha
   exact ⟨h3 a hm,by omega,by omega⟩
  ·cases ha
theorem aS.di (hF : FOk E F) {f : Nat} {ann : List Ann} {rf : RFn} {args : List DV} {s : aS} (hc : aK E.P ann f = some rf) (hargs : args.length <= rf.n)
    (h : ∀ n, rf.code.wp E F rf.n (j9 rf.res fun d T' => n <= T'.length /\ zQ n d T' fun d' os => d' = (s.res n).1 /\ os = (s.res n).2) ⟨dY 0 args, List.replicate n none⟩) : av E f args fun n r os => r = (s.res n).1 /\ os = (s.res n).2 := by
  intro n
  have h1 : bP E f args (List.replicate n none) fun r T' => zQ n r T' fun d' os => d' = (s.res n).1 /\ os = (s.res n).2 := by
    refine bP.aE hF hc hargs (RC.wp_mono _ (h n) fun e st hh => ?_)
    have key : ∀ st : St, (match e7 st rf.res with
        | some d => n <= st.au.length /\ zQ n d st.au fun d' os => d' = (s.res n).1 /\ os = (s.res n).2
        | none => False) -> (match e7 st rf.res with
        | some d => (List.replicate n (none : Option Ob)).length <= st.au.length /\ zQ n d st.au fun d' os => d' = (s.res n).1 /\ os = (s.res n).2
        | none => False) := fun st hh => by
      cases hres : e7 st rf.res with
      | none => rw[hres] at hh; exact hh
      | some d => rw[hres] at hh; exact ⟨by simpa using hh.1, hh.2⟩
    cases e with
    | normal => exact key st hh
    | ret => exact key st hh
    | _ => exact hh
  exact (h1.canon fun r T' hr => by
    obtain ⟨g, r', os, hg, hK⟩ := CZ hr
    exact ⟨g, r', os, hg, os, rfl, hK⟩)
theorem acw (n:Nat)(l:ay):(List.replicate n none++l).length=n+l.length:=by simp
theorem VN (n k:Nat)(l:ay):(List.replicate n none++l)[n+k]?=l[k]?:=by
 rw[List.getElem?_append_right (by simp)]
 simp
theorem ZZ (n:Nat)(l:ay):(List.replicate n none++l)[n]?=l[0]?:=VN n 0 l
theorem VM (n k:Nat)(l:ay)(x:Option Ob):(List.replicate n none++l).set (n+k) x=List.replicate n none++l.set k x:=by
 rw[List.set_append_right _ _ (by simp)]
 simp
theorem ZY (n:Nat)(l:ay)(x:Option Ob):(List.replicate n none++l).set n x=List.replicate n none++l.set 0 x:=VM n 0 l x
def af (k:IntKind)(l:List Int):List (List DV):=l.map fun n=> [.int k n]
theorem jI (k:IntKind)(l:List Int):(af k l).length=l.length:=by simp[af]
theorem ng (k:IntKind)(l:List Int)(i:Nat):(af k l)[i]?=(l[i]?).map fun n=> [.int k n]:=by simp[af]
theorem qH (k:IntKind)(a b:List Int):af k a++af k b=af k (a++b):=by simp[af]
theorem bu (k:IntKind):af k []=[]:=rfl
theorem EV (k:IntKind)(l:List Int)(n:Nat):(af k l).take n=af k (l.take n):=by simp[af]
theorem EW (k:IntKind)(l:List Int)(n:Nat):(af k l).drop n=af k (l.drop n):=by simp[af]
theorem HA (k:IntKind)(l:List Int)(i:Nat)(n:Int):(af k l).set i [.int k n]=af k (l.set i n):=by simp[af,List.map_set]
theorem At (k:IntKind)(l:List Int):(af k l=[])=(l=[]):=by simp[af]
theorem uu (k:IntKind)(l:List Int):gW (af k l):=fun row hr c hc=>by
 simp only[af,List.mem_map] at hr
 obtain ⟨n,_,rfl⟩:=hr
 simp only[List.mem_singleton] at hc
 subst hc
 exact Cl.int k n
theorem LL:gW []:=fun row h=>by cases h
theorem sZ (l:List Int):iF (af .u8 l)=some (l.map fun n=>UInt8.ofNat n.toNat):=by
 induction l with
 | nil=>rfl
 | cons a l ih=>
  show iF ([.int .u8 a]::af .u8 l)=_
  simp only[iF,ih,Option.map,List.map_cons]
def ints (rows:List (List DV)):List Int:=rows.map fun
 | [.int _ n]=>n
 | _=>0
theorem eG (k:IntKind)(l:List Int):ints (af k l)=l:=by
 simp only[ints,af,List.map_map]
 exact List.map_id'' (fun _=>rfl) l
def inK (k:IntKind)(l:List Int):Prop:=l.length<=4611686018427387904/\∀n∈l,k.min<=n/\n<=k.max
theorem fQ (k:IntKind):inK k []:=⟨by simp,by simp⟩
theorem inK.u8 (h:inK .u8 l){n:Int}(hn:n∈l):0<=n/\n<=255:=by
 have:=h.2 n hn
 simpa [IntKind.min,IntKind.max,IntKind.signed,IntKind.bits] using this
theorem inK.i32 (h:inK .i32 l){n:Int}(hn:n∈l):-2147483648<=n/\n<=2147483647:=by
 have:=h.2 n hn
 simpa [IntKind.min,IntKind.max,IntKind.signed,IntKind.bits] using this
theorem inK.i64 (h:inK .i64 l){n:Int}(hn:n∈l):-9223372036854775808<=n/\n<=9223372036854775807:=by
 have:=h.2 n hn
 simpa [IntKind.min,IntKind.max,IntKind.signed,IntKind.bits] using this
theorem lG (h:l.length<=4611686018427387904)(hn:∀n∈l,0<=n/\n<=255):inK .u8 l:=⟨h,by simpa [IntKind.min,IntKind.max,IntKind.signed,IntKind.bits] using hn⟩
theorem Mh (h:l.length<=4611686018427387904)(hn:∀n∈l, -2147483648<=n/\n<=2147483647):inK .i32 l:=⟨h,by simpa [IntKind.min,IntKind.max,IntKind.signed,IntKind.bits] using hn⟩
theorem inK.take {k:IntKind}(h:inK k l)(n:Nat):inK k (l.take n):=⟨Nat.le_trans (by simp;omega) h.1,fun x hx=>h.2 x (List.mem_of_mem_take hx)⟩
theorem inK.drop {k:IntKind}(h:inK k l)(n:Nat):inK k (l.drop n):=⟨Nat.le_trans (by simp) h.1,fun x hx=>h.2 x (List.mem_of_mem_drop hx)⟩
theorem inK.append {k:IntKind}{a b:List Int}(ha:inK k a)(hb:inK k b)(h:a.length+b.length<=4611686018427387904):inK k (a++b):=⟨by simpa using h,fun x hx=>(List.mem_append.1 hx).elim (ha.2 x) (hb.2 x)⟩
def aD (k:IntKind):DV->Prop
 | .sl sz rows _=>rows=af k (ints rows)/\(sz=1\/rows=[])/\inK k (ints rows)
 | _=>False
def aG:DV->List Int
 | .sl _ rows _=>ints rows
 | _=> []
theorem fI (k:IntKind)(l:List Int)(s:SK):aD k (.sl 1 (af k l) s)=inK k l:=by simp[aD,eG]
theorem tS (k:IntKind)(sz:Nat)(s:SK):aD k (.sl sz [] s)=True:=by simp[aD,ints,af,inK]
theorem aL (k:IntKind)(sz:Nat)(l:List Int)(s:SK):aG (.sl sz (af k l) s)=l:=eG k l
theorem xm (sz:Nat)(s:SK):aG (.sl sz [] s)=[]:=rfl
theorem aC {k:IntKind}(h:aD k d):∃sz s,d=.sl sz (af k (aG d)) s/\(sz=1\/aG d=[])/\inK k (aG d):=by
 cases d with
 | sl sz rows s=>
  obtain ⟨h1,h2,h3⟩:=h
  refine ⟨sz,s, ?_,h2.imp id fun h=>(by subst h;rfl),h3⟩
  show DV.sl sz rows s=.sl sz (af k (ints rows)) s
  rw[<-h1]
 | _=>exact h.elim
theorem aO {n:Int}(h1:-9223372036854775808<=n)(h2:n<=9223372036854775807):IntKind.i64.wrap n=n:=by rw[IntKind.wrap_i64];omega
theorem Jh {n:Int}(h1:-2147483648<=n)(h2:n<=2147483647):IntKind.i32.wrap n=n:=by rw[IntKind.wrap_i32];omega
theorem wU8 {n:Int}(h1:0<=n)(h2:n<=255):IntKind.u8.wrap n=n:=by rw[IntKind.wrap_u8];omega
def yO (p:DV->Prop):List DV->Prop
 | []=>True
 | c::l=>p c/\yO p l
theorem sK (p:DV->Prop):∀l:List DV,yO p l=∀c∈l,p c
 | []=>by simp[yO]
 | c::l=>by simp[yO,sK p l]
def tf (a:Nat):List Nat->Prop
 | []=>True
 | b::l=> ¬a=b/\tf a l
theorem He (a:Nat):∀l:List Nat,tf a l=(a∉l)
 | []=>by simp[tf]
 | b::l=>by simp[tf,He a l]
def Aj:List Nat->Prop
 | []=>True
 | a::l=>tf a l/\Aj l
theorem EO:∀l:List Nat,Aj l=l.Nodup
 | []=>by simp[Aj]
 | a::l=>by simp[Aj,EO l,He]
theorem Tk (k:IntKind)(v:Int):jR (.int k v)=[]:=ak _
theorem Te (k:IntKind)(v:Int):pL (.int k v)=[]:=ak _
theorem S8 (k:IntKind)(v:Int):eu (.int k v)=[]:=ak _
theorem UK (n:Nat)(ids:List Nat)(k:IntKind)(v:Int):oo n ids (.int k v)=.int k v:=ak _
theorem UF (n:Nat)(ids:List Nat)(k:IntKind)(v:Int):qO n ids (.int k v)=.int k v:=ak _
theorem Uz (n:Nat)(ids:List Nat)(k:IntKind)(v:Int):lK n ids (.int k v)=.int k v:=ak _
theorem ZB (k:IntKind)(v:Int):cl0 (.int k v)=True:=ak _
theorem Zw (k:IntKind)(v:Int):clA (.int k v)=True:=ak _
theorem Zr (k:IntKind)(v:Int):clT (.int k v)=True:=ak _
theorem OC (b:Bool):jR (.bool b)=[]:=ak _
theorem OB (b:Bool):pL (.bool b)=[]:=ak _
theorem Oz (b:Bool):eu (.bool b)=[]:=ak _
theorem Pr (n:Nat)(ids:List Nat)(b:Bool):oo n ids (.bool b)=.bool b:=ak _
theorem Pq (n:Nat)(ids:List Nat)(b:Bool):qO n ids (.bool b)=.bool b:=ak _
theorem Pk (n:Nat)(ids:List Nat)(b:Bool):lK n ids (.bool b)=.bool b:=ak _
theorem Us (b:Bool):cl0 (.bool b)=True:=ak _
theorem Ur (b:Bool):clA (.bool b)=True:=ak _
theorem Uo (b:Bool):clT (.bool b)=True:=ak _
theorem Th (s:List UInt8):jR (.str s)=[]:=ak _
theorem Tb (s:List UInt8):pL (.str s)=[]:=ak _
theorem S5 (s:List UInt8):eu (.str s)=[]:=ak _
theorem UH (n:Nat)(ids:List Nat)(s:List UInt8):oo n ids (.str s)=.str s:=ak _
theorem UC (n:Nat)(ids:List Nat)(s:List UInt8):qO n ids (.str s)=.str s:=ak _
theorem Uw (n:Nat)(ids:List Nat)(s:List UInt8):lK n ids (.str s)=.str s:=ak _
theorem Zy (s:List UInt8):cl0 (.str s)=True:=ak _
theorem Zt (s:List UInt8):clA (.str s)=True:=ak _
theorem Zo (s:List UInt8):clT (.str s)=True:=ak _
theorem YI (sz:Nat)(rows:List (List DV))(k:SK):jR (.sl sz rows k)=[]:=ak _
theorem YH (sz:Nat)(rows:List (List DV))(k:SK):pL (.sl sz rows k)=[]:=ak _
theorem YF (sz:Nat)(rows:List (List DV))(k:SK):eu (.sl sz rows k)=[]:=ak _
theorem ZI (n:Nat)(ids:List Nat)(sz:Nat)(rows:List (List DV))(k:SK):oo n ids (.sl sz rows k)=.sl sz rows k:=ak _
theorem ZH (n:Nat)(ids:List Nat)(sz:Nat)(rows:List (List DV))(k:SK):qO n ids (.sl sz rows k)=.sl sz rows k:=ak _
theorem ZC (n:Nat)(ids:List Nat)(sz:Nat)(rows:List (List DV))(k:SK):lK n ids (.sl sz rows k)=.sl sz rows k:=ak _
theorem ab7 (sz:Nat)(rows:List (List DV))(k:SK):cl0 (.sl sz rows k)=gW rows:=ak _
theorem ab6 (sz:Nat)(rows:List (List DV))(k:SK):clA (.sl sz rows k)=gW rows:=ak _
theorem ab5 (sz:Nat)(rows:List (List DV))(k:SK):clT (.sl sz rows k)=gW rows:=ak _
theorem Tj (o off m:Nat):jR (.own o off m)=[o]:=ak _
theorem Td (o off m:Nat):pL (.own o off m)=[o]:=ak _
theorem S7 (o off m:Nat):eu (.own o off m)=[o]:=ak _
theorem UJ (n:Nat)(ids:List Nat)(o off m:Nat):oo n ids (.own o off m)=.own (n+pos o ids) off m:=ak _
theorem UE (n:Nat)(ids:List Nat)(o off m:Nat):qO n ids (.own o off m)=.own (n+pos o ids) off m:=ak _
theorem Uy (n:Nat)(ids:List Nat)(o off m:Nat):lK n ids (.own o off m)=.own (n+pos o ids) off m:=ak _
theorem ZA (o off m:Nat):cl0 (.own o off m)=True:=ak _
theorem Zv (o off m:Nat):clA (.own o off m)=True:=ak _
theorem Zq (o off m:Nat):clT (.own o off m)=True:=ak _
theorem Ti (o i j:Nat):jR (.ptr o i j)=[o]:=ak _
theorem Tc (o i j:Nat):pL (.ptr o i j)=[o]:=ak _
theorem S6 (o i j:Nat):eu (.ptr o i j)=[o]:=ak _
theorem UI (n:Nat)(ids:List Nat)(o i j:Nat):oo n ids (.ptr o i j)=.ptr (n+pos o ids) i j:=ak _
theorem UD (n:Nat)(ids:List Nat)(o i j:Nat):qO n ids (.ptr o i j)=.ptr (n+pos o ids) i j:=ak _
theorem Ux (n:Nat)(ids:List Nat)(o i j:Nat):lK n ids (.ptr o i j)=.ptr (n+pos o ids) i j:=ak _
theorem Zz (o i j:Nat):cl0 (.ptr o i j)=True:=ak _
theorem Zu (o i j:Nat):clA (.ptr o i j)=True:=ak _
theorem Zp (o i j:Nat):clT (.ptr o i j)=True:=ak _
theorem Tf (cs:List DV):pL (.agg cs)=cs.flatMap jR:=ak _
theorem S9 (cs:List DV):eu (.agg cs)=cs.flatMap jR:=ak _
theorem S4 (cs:List DV):eu (.tup cs)=cs.flatMap pL:=ak _
theorem UG (n:Nat)(ids:List Nat)(cs:List DV):qO n ids (.agg cs)=.agg (cs.map (oo n ids)):=ak _
theorem UA (n:Nat)(ids:List Nat)(cs:List DV):lK n ids (.agg cs)=.agg (cs.map (oo n ids)):=ak _
theorem Uv (n:Nat)(ids:List Nat)(cs:List DV):lK n ids (.tup cs)=.tup (cs.map (qO n ids)):=ak _
theorem Zx (cs:List DV):clA (.agg cs)=yO cl0 cs:=by simp[clA,sK]
theorem Zs (cs:List DV):clT (.agg cs)=yO cl0 cs:=by simp[clT,clA,sK]
theorem Zn (cs:List DV):clT (.tup cs)=yO clA cs:=by simp[clT,sK]
theorem XZ (o:Nat):pos o []=0:=ak _
theorem Sb (o a:Nat)(l:List Nat):pos o (a::l)=if a=o then 0 else pos o l+1:=ak _
theorem Uq (sz:Nat)(rows:List (List DV)):AS (.arr sz rows)=gW rows:=ak _
theorem Up (cs:List DV):AS (.box cs)=yO Cl cs:=by simp[AS,sK]
theorem Vl (p:DV->Prop):yO p []=True:=ak _
theorem PC (p:DV->Prop)(c:DV)(l:List DV):yO p (c::l)=(p c/\yO p l):=ak _
theorem SO:Aj []=True:=ak _
theorem Oi (a:Nat)(l:List Nat):Aj (a::l)=(tf a l/\Aj l):=ak _
theorem Of (a:Nat):tf a []=True:=ak _
theorem Kj (a b:Nat)(l:List Nat):tf a (b::l)=(¬a=b/\tf a l):=ak _
theorem OK (n:Nat)(T:ay)(k:ay->Prop):AB n T [] k=k []:=ak _
theorem KB (n:Nat)(T:ay)(i:Nat)(l:List Nat)(k:ay->Prop):AB n T (i::l) k=(n<=i/\bA T[i]? fun x=>bA x fun ob=>AS ob/\AB n T l fun os=>k (some ob::os)):=ak _
theorem XP (n:Nat)(d:DV)(T:ay)(K:DV->ay->Prop):zQ n d T K=(Aj (eu d)/\clT d/\AB n T (eu d) fun os=>K (lK n (eu d) d) os):=by simp[zQ,EO]
theorem I8 (row:List DV)(l:List (List DV)):gW (row::l)=(yO Cl row/\gW l):=by simp[gW,sK]
theorem CD:gW []=True:=eq_true LL
theorem CE (k:IntKind)(l:List Int):gW (af k l)=True:=eq_true (uu k l)
theorem CC (k:IntKind)(v:Int):gW [[.int k v]]=True:=eq_true (uu k [v])
theorem PV (k:IntKind)(v:Int):Cl (.int k v)=True:=eq_true (Cl.int k v)
theorem LK (b:Bool):Cl (.bool b)=True:=eq_true (Cl.bool b)
theorem PU (s:List UInt8):Cl (.str s)=True:=eq_true (Cl.str s)
theorem acM (e e2:List (Nat × DV))(o o2:ay):St.wk ⟨e,o⟩ ⟨e2,o2⟩=(AL e e2/\fu o o2):=ak _
theorem OZ (e:List (Nat × DV)):AL e []=True:=by simp[AL]
theorem KI {e:List (Nat × DV)}{t:Nat}{l:List (Nat × DV)}:AL e ((t,d)::l)=((d=.undef\/wkT (St.look t e) d)/\AL e l):=by
 simp[AL]
theorem K7 (l:List Int)(n:Nat)(f:Int->Prop):bA l[n]? f=(n<l.length/\f (l.getD n 0)):=by
 by_cases h:n<l.length
 ·simp[List.getElem?_eq_getElem h,bA,h]
 ·simp[List.getElem?_eq_none (Nat.le_of_not_lt h),bA,h]
theorem K6 (l:List UInt8)(n:Nat)(f:UInt8->Prop):bA l[n]? f=(n<l.length/\f (l.getD n 0)):=by
 by_cases h:n<l.length
 ·simp[List.getElem?_eq_getElem h,bA,h]
 ·simp[List.getElem?_eq_none (Nat.le_of_not_lt h),bA,h]
theorem GZ (o:ay):fu o o=True:=eq_true (aH o)
theorem Ki:fu [] []=True:=ak _
theorem ya (a:Option Ob)(l m:ay):fu (a::l) (none::m)=fu l m:=by simp[fu]
theorem GY (a b:Ob)(l m:ay):fu (some a::l) (some b::m)=(a=b/\fu l m):=by simp[fu]
theorem js (w:Nat)(a:Int):(((BitVec.ofInt w a).toNat:Nat):Int)=a % (2 ^ w:Int):=by
 rw[BitVec.toNat_ofInt,Int.toNat_of_nonneg (Int.emod_nonneg _ (by exact_mod_cast Nat.ne_of_gt (Nat.two_pow_pos w)))]
 simp
theorem Kg (w m:Nat)(h:m<=w):(BitVec.ofInt w (2 ^ m-1)).toNat=2 ^ m-1:=by
 have h2:(2:Nat) ^ m<=2 ^ w:=Nat.pow_le_pow_right (by omega) h
 have h3:=Nat.two_pow_pos m
 have h4:=js w (2 ^ m-1)
 have h6:(1:Int)<=2 ^ m:=by exact_mod_cast h3
 have h7:(2:Int) ^ m<=2 ^ w:=by exact_mod_cast h2
 rw[Int.emod_eq_of_lt (by omega) (by omega)] at h4
 have:((2 ^ m-1:Nat):Int)=2 ^ m-1:=by rw[Int.natCast_sub h3];simp
 omega
theorem ZR (w m:Nat)(a:Int)(h:m<=w):(((BitVec.ofInt w a &&& BitVec.ofInt w (2 ^ m-1)).toNat:Nat):Int)=a % (2 ^ m:Int):=by
 rw[BitVec.toNat_and,Kg w m h,Nat.and_two_pow_sub_one_eq_mod]
 have h2:=js w a
 rw[Int.natCast_emod,h2]
 simp only[Int.natCast_pow,Int.cast_ofNat_Int]
 exact Int.emod_emod_of_dvd a (by exact_mod_cast Nat.pow_dvd_pow 2 h)
theorem wrap_small (k:IntKind)(m:Nat)(x:Int)(h:m<k.bits):k.wrap (x % (2 ^ m:Int))=x % (2 ^ m:Int):=by
 have h0:(0:Int)<2 ^ m:=by exact_mod_cast Nat.two_pow_pos m
 have h1:=Int.emod_nonneg x (Int.ne_of_gt h0)
 have h2:=Int.emod_lt_of_pos x h0
 have h3:(2:Int) ^ m<=2 ^ (k.bits-1):=by exact_mod_cast Nat.pow_le_pow_right (by omega) (by omega)
 have h4:(2:Int) ^ (k.bits-1)<=2 ^ k.bits:=by exact_mod_cast Nat.pow_le_pow_right (by omega) (by omega)
 unfold IntKind.wrap
 simp only
 rw[Int.emod_eq_of_lt h1 (by omega)]
 rw[if_neg]
 simp
 intro _
 omega
theorem we (k:IntKind)(m:Nat)(a:Int)(h:m<k.bits):k.wrap ((BitVec.ofInt k.bits a &&& BitVec.ofInt k.bits (2 ^ m-1)).toNat:Nat)=a % (2 ^ m:Int):=by
 rw[ZR k.bits m a (Nat.le_of_lt h),wrap_small k m a h]
theorem Fe (a:Int):IntKind.u8.wrap ((BitVec.ofInt IntKind.u8.bits a &&& BitVec.ofInt IntKind.u8.bits 7).toNat:Nat)=a % 8:=we .u8 3 a (by decide)
theorem A7 (a:Int):IntKind.u8.wrap ((BitVec.ofInt IntKind.u8.bits a &&& BitVec.ofInt IntKind.u8.bits 15).toNat:Nat)=a % 16:=we .u8 4 a (by decide)
theorem A6 (a:Int):IntKind.u8.wrap ((BitVec.ofInt IntKind.u8.bits a &&& BitVec.ofInt IntKind.u8.bits 31).toNat:Nat)=a % 32:=we .u8 5 a (by decide)
theorem wg (a:Int):IntKind.u8.wrap ((BitVec.ofInt IntKind.u8.bits a &&& BitVec.ofInt IntKind.u8.bits 63).toNat:Nat)=a % 64:=we .u8 6 a (by decide)
theorem aa0 (w m:Nat)(x y:Int)(hx:x % 2 ^ m=0)(h0:0<=x)(hy:0<=y)(hy2:y<2 ^ m)(hw:x+y<2 ^ w):(((BitVec.ofInt w x ||| BitVec.ofInt w y).toNat:Nat):Int)=x+y:=by
 have h1:=js w x
 have h2:=js w y
 rw[Int.emod_eq_of_lt h0 (by omega)] at h1
 rw[Int.emod_eq_of_lt hy (by omega)] at h2
 rw[BitVec.toNat_or]
 generalize (BitVec.ofInt w x).toNat=a at h1 ⊢
 generalize (BitVec.ofInt w y).toNat=b at h2 ⊢
 subst h1 h2
 have hb:b<2 ^ m:=by exact_mod_cast hy2
 have ha:a % 2 ^ m=0:=by exact_mod_cast hx
 have:a=2 ^ m*(a / 2 ^ m):=by
  have:=Nat.div_add_mod a (2 ^ m)
  omega
 rw[this,<-Nat.two_pow_add_eq_or_of_lt hb]
 simp
theorem tL (m:Nat)(x y:Int)(hx:x % 2 ^ m=0)(h0:0<=x)(hy:0<=y)(hy2:y<2 ^ m)(hw:x+y<=2147483647):IntKind.i32.wrap ((BitVec.ofInt IntKind.i32.bits x ||| BitVec.ofInt IntKind.i32.bits y).toNat:Nat)=x+y:=by
 rw[aa0 IntKind.i32.bits m x y hx h0 hy hy2 (by simp only[IntKind.bits];omega),Jh (by omega) (by omega)]
theorem DK (a:Int):IntKind.u8.wrap ((BitVec.ofInt IntKind.u8.bits a &&& BitVec.ofInt IntKind.u8.bits 192).toNat:Nat)=a % 256 / 64*64:=by
 have h1:=js 8 a
 have key:∀b:Fin 256,(b.val &&& 192)=b.val / 64*64:=by decide +kernel
 rw[BitVec.toNat_and]
 have h2:(BitVec.ofInt IntKind.u8.bits 192).toNat=192:=by decide
 rw[h2]
 change (((BitVec.ofInt IntKind.u8.bits a).toNat:Nat):Int)=a % 256 at h1
 have h3:(BitVec.ofInt IntKind.u8.bits a).toNat<256:=(BitVec.ofInt IntKind.u8.bits a).isLt
 generalize (BitVec.ofInt IntKind.u8.bits a).toNat=b at h1 h3 ⊢
 have h4:=key ⟨b,h3⟩
 simp only at h4
 rw[h4,wU8] <;> omega
theorem CQ (a:Int):IntKind.i32.wrap (a*2 ^ min (6:Int).toNat IntKind.i32.bits)=IntKind.i32.wrap (a*64):=rfl
theorem av.weaken {args:List DV}{R R2:Nat->DV->ay->Prop}(h:av E f args R)(hR:∀n r os,R n r os->∃r2,wkT r r2/\R2 n r2 os):av E f args R2:=by
 intro n G w vs h1 h2 h3 h4
 refine Calls.mono (h n G w vs h1 h2 h3 h4) fun e w' ⟨v,r,T',G',a,⟨os,ho,hr⟩,hl,dh,hh,hf⟩=>?_
 obtain ⟨r2,hw,hr2⟩:=hR n r os hr
 exact ⟨v,r2,T',G',a,⟨os,ho,hr2⟩,hl,ru hw dh,hh,hf⟩
theorem av.args {args args2:List DV}{R:Nat->DV->ay->Prop}(h:av E f args R)(hl:args2.length=args.length)(hw:∀(G:Gh) (i:Nat) d2 v,args2[i]?=some d2->Rel G d2 v->∃d,args[i]?=some d/\Rel G d v):av E f args2 R:=by
 intro n G w vs h1 h2 h3 h4
 refine h n G w vs h1 h2 (h3.trans hl) fun i d hd=>?_
 have hi:i<args2.length:=by rw[hl];exact (List.getElem?_eq_some_iff.1 hd).1
 obtain ⟨d',hd',hr⟩:=hw G i args2[i] _ (List.getElem?_eq_getElem hi) (h4 i _ (List.getElem?_eq_getElem hi))
 rw[hd] at hd'
 obtain rfl:=sj hd'
 exact hr
theorem Rel.PB {rows:List (List DV)}{k:SK}(h:Rel G (.sl sz rows k) v):(rows=[]/\Rel G (.sl sz rows .nil) v)\/Rel G (.sl sz rows .gA) v:=by
 cases h with
 | sl sz rows k p len cap b o vals a1 a2 a3 a4 a5 a6 a7=>
  cases p with
  | none=>
   have hr:rows=[]:=by
    by_cases hr:rows=[]
    ·exact hr
    ·cases a4 hr
   have hc:cap=0:=by
    cases k with
    | any=>exact a2 rfl
    | nil=>exact a2.2
    | gA=>cases a2
    | zero=>exact a2
   exact .inl ⟨hr,.sl sz rows .nil none len cap b o vals a1 ⟨rfl,hc⟩ a3 a4 a5 a6 a7⟩
  | some x=>exact .inr (.sl sz rows .gA _ len cap b o vals a1 rfl a3 a4 a5 a6 a7)
theorem av.pS {i:Nat}{args:List DV}{rows:List (List DV)}{k:SK}{R:Nat->DV->ay->Prop}(hi:args[i]?=some (.sl sz rows k))(h1:rows=[]->av E f (args.set i (.sl sz rows .nil)) R)(h2:av E f (args.set i (.sl sz rows .gA)) R):av E f args R:=by
 intro n G w vs g1 g2 g3 g4
 have hlt:i<args.length:=(List.getElem?_eq_some_iff.1 hi).1
 have rest:∀x,Rel G x (vs.getD i undef)->∀(j:Nat) d,(args.set i x)[j]?=some d->Rel G d (vs.getD j undef):=fun x hx j d hd=>by
  by_cases e:i=j
  ·subst e
   rw[List.getElem?_set_self hlt] at hd
   obtain rfl:=sj hd
   exact hx
  ·rw[List.getElem?_set_ne e] at hd
   exact g4 j d hd
 rcases (g4 i _ hi).PB with ⟨hr,h⟩ | h
 ·exact h1 hr n G w vs g1 g2 (by simpa using g3) (rest _ h)
 ·exact h2 n G w vs g1 g2 (by simpa using g3) (rest _ h)
theorem av.di (hF : FOk E F) {f : Nat} {ann : List Ann} {rf : RFn} {args : List DV} {res : Nat -> DV × ay} (hc : aK E.P ann f = some rf) (hargs : args.length <= rf.n)
    (h : ∀ n, rf.code.wp E F rf.n (j9 rf.res fun d T' => n <= T'.length /\ zQ n d T' fun d' os => wkT d' (res n).1 /\ os = (res n).2) ⟨dY 0 args, List.replicate n none⟩) : av E f args fun n r os => r = (res n).1 /\ os = (res n).2 := by
  have h1 : av E f args fun n r os => wkT r (res n).1 /\ os = (res n).2 := by
    intro n
    have h1 : bP E f args (List.replicate n none) fun r T' => zQ n r T' fun d' os => wkT d' (res n).1 /\ os = (res n).2 := by
      refine bP.aE hF hc hargs (RC.wp_mono _ (h n) fun e st hh => ?_)
      have key : ∀ st : St, (match e7 st rf.res with
          | some d => n <= st.au.length /\ zQ n d st.au fun d' os => wkT d' (res n).1 /\ os = (res n).2
          | none => False) -> (match e7 st rf.res with
          | some d => (List.replicate n (none : Option Ob)).length <= st.au.length /\ zQ n d st.au fun d' os => wkT d' (res n).1 /\ os = (res n).2
          | none => False) := fun st hh => by
        cases hres : e7 st rf.res with
        | none => rw[hres] at hh; exact hh
        | some d => rw[hres] at hh; exact ⟨by simpa using hh.1, hh.2⟩
      cases e with
      | normal => exact key st hh
      | ret => exact key st hh
      | _ => exact hh
    exact (h1.canon fun r T' hr => by
      obtain ⟨g, r', os, hg, hK⟩ := CZ hr
      exact ⟨g, r', os, hg, os, rfl, hK⟩)
  exact h1.weaken fun n r os ⟨h1, h2⟩ => ⟨_, h1, rfl, h2⟩
theorem BY (k:IntKind)(a:Int):[[DV.int k a]]=af k [a]:=ak _
theorem BX (k:IntKind)(a:Int)(l:List Int):[DV.int k a]::af k l=af k (a::l):=ak _
theorem dH (a b:List DV):wkT (.tup a) (.tup b)=wkL wkA a b:=ak _
theorem LO (a b:List DV):wkT (.agg a) (.agg b)=wkL wk0 a b:=ak _
theorem dJ (a b:List DV):wkA (.agg a) (.agg b)=wkL wk0 a b:=ak _
theorem dI (p:DV->DV->Prop):wkL p [] []=True:=ak _
theorem cL (p:DV->DV->Prop)(x y:DV)(a b:List DV):wkL p (x::a) (y::b)=(p x y/\wkL p a b):=ak _
theorem aax (sz:Nat)(rows:List (List DV))(k:SK)(sz2:Nat)(kK:List (List DV))(k2:SK):wkT (.sl sz rows k) (.sl sz2 kK k2)=(rows=kK/\(k2=.any\/k=k2)/\(sz=sz2\/rows=[])):=ak _
theorem fe (sz:Nat)(rows:List (List DV))(k:SK)(sz2:Nat)(kK:List (List DV))(k2:SK):wkA (.sl sz rows k) (.sl sz2 kK k2)=(rows=kK/\(k2=.any\/k=k2)/\(sz=sz2\/rows=[])):=ak _
theorem ff (sz:Nat)(rows:List (List DV))(k:SK)(sz2:Nat)(kK:List (List DV))(k2:SK):wk0 (.sl sz rows k) (.sl sz2 kK k2)=(rows=kK/\(k2=.any\/k=k2)/\(sz=sz2\/rows=[])):=ak _
theorem Wh (k:IntKind)(n:Int)(d:DV):wkT (.int k n) d=(DV.int k n=d):=ak _
theorem Wl (k:IntKind)(n:Int)(d:DV):wkA (.int k n) d=(DV.int k n=d):=ak _
theorem dA (k:IntKind)(n:Int)(d:DV):wk0 (.int k n) d=(DV.int k n=d):=ak _
theorem Qn (b:Bool)(d:DV):wkT (.bool b) d=(DV.bool b=d):=ak _
theorem Qp (b:Bool)(d:DV):wkA (.bool b) d=(DV.bool b=d):=ak _
theorem Qr (b:Bool)(d:DV):wk0 (.bool b) d=(DV.bool b=d):=ak _
theorem We (s:List UInt8)(d:DV):wkT (.str s) d=(DV.str s=d):=ak _
theorem Wi (s:List UInt8)(d:DV):wkA (.str s) d=(DV.str s=d):=ak _
theorem Wm (s:List UInt8)(d:DV):wk0 (.str s) d=(DV.str s=d):=ak _
theorem Wg (o off n:Nat)(d:DV):wkT (.own o off n) d=(DV.own o off n=d):=ak _
theorem Wk (o off n:Nat)(d:DV):wkA (.own o off n) d=(DV.own o off n=d):=ak _
theorem Wn (o off n:Nat)(d:DV):wk0 (.own o off n) d=(DV.own o off n=d):=ak _
theorem Wf (o i j:Nat)(d:DV):wkT (.ptr o i j) d=(DV.ptr o i j=d):=ak _
theorem Wj (o i j:Nat)(d:DV):wkA (.ptr o i j) d=(DV.ptr o i j=d):=ak _
section
open Go.RowKit Go.ChangeShapes Go.WideShapes
inductive CS where
 | int (k:IntKind)
 | bool
 | str
 | sl (row:List CS)
def Gi (P:Program)(sh:TypeId->Option (List CS)):List Field->Nat->Option (List CS)
 | [],_=>some []
 | f::fs,off=>match sh f.type with
  | some l=>if f.offset=off/\P.cellsOf f.type=l.length then (Gi P sh fs (off+l.length)).map (l++·) else none
  | none=>none
def uE (P:Program):Nat->TypeId->Option (List CS)
 | 0,_=>none
 | n+1,t=>match P.underlying t with
  | some .bool=>some [.bool]
  | some (.int k)=>some [.int k]
  | some .string=>some [.str]
  | some (.slice e)=>match uE P n e with
   | some row=>if row.length=P.cellsOf e/\0<row.length then some [.sl row] else none
   | none=>none
  | some (.struct fs)=>match Gi P (uE P n) fs.toList 0 with
   | some l=>if l.length=P.cellsOf t then some l else none
   | none=>none
  | _=>none
inductive yP:CS->DV->Prop where
 | int (k:IntKind) (n:Int):k.min<=n->n<=k.max->yP (.int k) (.int k n)
 | bool (b:Bool):yP .bool (.bool b)
 | str (s:List UInt8):s.length<=9223372036854775807->yP .str (.str s)
 | sl (row:List CS) (rows:List (List DV)):rows.length<=9223372036854775807->(∀r∈rows,r.length=row.length)->
   (∀r∈rows,∀(i:Nat) c d,row[i]?=some c->r[i]?=some d->yP c d)->yP (.sl row) (.sl row.length rows .any)
def Gh.all (w:World):Gh:={ rd:=fun a=>match w.cell? a with | some v=>if v.oneCell'=true then some v else none | none=>none,pl:=fun _=>none}
theorem Gh.Vj {a:Addr}(h:w.cell? a=some v)(h1:v.oneCell'=true):(Gh.all w).rd a=some v:=by simp[Gh.all,h,h1]
theorem Gh.Vk (w:World):sU (Gh.all w) [] w where
 pls:=fun k p h=>by simp[Gh.all] at h
 live:=fun k ob h=>by simp at h
 sep:=fun k k' rows dD p p' m m' h=>by simp at h
 rdv:=fun a v h=>by
  simp only[Gh.all] at h
  split at h
  ·rename_i x hx
   split at h
   ·rename_i h1;obtain rfl:=sj h;exact ⟨hx,h1⟩
   ·cases h
  ·cases h
 rds:=fun k rows p m h=>by simp at h
section
variable {H:Type} {enc:TypeId × Value->H} {P:Program} {w:World}
theorem Ff (a:Addr)(m n:Nat):(a.add m).add n=a.add (m+n):=by
 simp only[Addr.add]
 by_cases hm:m=0
 ·subst hm;simp
 ·by_cases hn:n=0
  ·subst hn;simp
  ·simp[hm,hn,Nat.add_assoc]
theorem A9 {a:Addr}(h:a.spot=none)(n:Nat):a.add n=⟨a.block,a.off+n,none⟩:=by
 cases a
 simp at h
 subst h
 simp only[Addr.add]
 split
 ·rename_i h;subst h;rfl
 ·rfl
def wu (w:World)(l:List CS)(cs:List Value):Prop:=
 cs.length=l.length/\∃ds:List DV,ds.length=l.length/\∀(i:Nat) c d v,l[i]?=some c->ds[i]?=some d->cs[i]?=some v->yP c d/\Rel (Gh.all w) d v/\v.oneCell'=true
theorem wu.one {c:CS}(h:yP c d)(h2:Rel (Gh.all w) d v)(h3:v.oneCell'=true):wu w [c] [v]:=by
 refine ⟨rfl,[d],rfl,fun i c' d' v' hc hd hv=>?_⟩
 rcases i with _ | i
 ·simp at hc hd hv;subst hc hd hv;exact ⟨h,h2,h3⟩
 ·simp at hc
theorem wu.append {l l':List CS}{cs cs':List Value}(h:wu w l cs)(h':wu w l' cs'):wu w (l++l') (cs++cs'):=by
 obtain ⟨h1,ds,h2,h3⟩:=h
 obtain ⟨h1',ds',h2',h3'⟩:=h'
 refine ⟨by simp[h1,h1'],ds++ds',by simp[h2,h2'],fun i c d v hc hd hv=>?_⟩
 by_cases hi:i<l.length
 ·rw[List.getElem?_append_left (by omega)] at hc hd hv
  exact h3 i c d v hc hd hv
 ·rw[List.getElem?_append_right (by omega)] at hc hd hv
  rw[h2] at hd;rw[h1] at hv
  exact h3' _ c d v hc hd hv
theorem Gg {sh:TypeId->Option (List CS)}{base m:Nat}{held:Bool}{spare:Nat->Bool}
  (ih:∀t l,sh t=some l->∀cs x,DataW.trod enc P w base spare held m t cs=some x->wu w l cs):∀(fs:List Field) (off:Nat) (l:List CS) (cs:List Value),Gi P sh fs off=some l->cs.length=off+l.length->
  (∀f∈fs,∃x,DataW.trod enc P w base spare held m f.type ((cs.drop f.offset).take (P.cellsOf f.type))=some x)->wu w l (cs.drop off)
 | [],off,l,cs,h,hl,hx=>by
  obtain rfl:=sj h
  have:cs.drop off=[]:=List.drop_eq_nil_of_le (by simp at hl;omega)
  rw[this]
  exact ⟨rfl,[],rfl,fun i c d v hc=>by simp at hc⟩
 | f::fs,off,l,cs,h,hl,hx=>by
  simp only[Gi] at h
  split at h
  ·rename_i lf hlf
   split at h
   ·rename_i hc
    cases hr:Gi P sh fs (off+lf.length) with
    | none=>rw[hr] at h;cases h
    | some lr=>
     rw[hr] at h
     obtain rfl:=sj h
     obtain ⟨x,hx1⟩:=hx f (by simp)
     rw[hc.1,hc.2] at hx1
     have h1:=ih _ _ hlf _ _ hx1
     have h2:=Gg ih fs (off+lf.length) lr cs hr (by simp at hl;omega) fun f hf=>hx f (by simp[hf])
     have:cs.drop off=(cs.drop off).take lf.length++cs.drop (off+lf.length):=by rw[<-List.drop_drop,List.take_append_drop]
     rw[this]
     exact h1.append h2
   ·cases h
  ·cases h
theorem zA {base:Nat}{held:Bool}{spare:Nat->Bool}:∀(n:Nat) (t:TypeId) (l:List CS),uE P n t=some l->∀(fuel:Nat) (cs:List Value) (x:DataW H × List MemPlace),
  DataW.trod enc P w base spare held fuel t cs=some x->wu w l cs
 | 0,t,l,h,_,_,_,_=>by cases h
 | n+1,t,l,h,fuel,cs,x,hx=>by
  simp only[uE] at h
  split at h
  ·rename_i ht;obtain rfl:=sj h
   obtain ⟨b,rfl,rfl⟩:=DataW.trod_bool ht hx
   exact .one (.bool b) (.bool b) rfl
  ·rename_i k ht;obtain rfl:=sj h
   obtain ⟨n,rfl,rfl,hw⟩:=DataW.trod_int ht hx
   have:k.min<=n/\n<=k.max:=by simpa [Lit.wf] using hw
   exact .one (.int k n this.1 this.2) (.int k n) rfl
  ·rename_i ht;obtain rfl:=sj h
   obtain ⟨s,rfl,rfl,hw⟩:=DataW.trod_string ht hx
   have e:s=⟨s.data.toList.toArray⟩:=by cases s;rfl
   refine .one (d:=.str s.data.toList) (.str _ (by have:s.size=s.data.toList.length:=(by cases s;rfl);rw[<-this];have h2:maxLen=9223372036854775807:=(by decide);omega)) ?_ rfl
   rw[e];exact .str _
  ·rename_i e ht
   split at h
   ·rename_i row hrow
    split at h
    ·rename_i hc
     obtain rfl:=sj h
     rcases DataW.trod_slice ht hx with ⟨rfl,rfl⟩ | ⟨a,len,cap,elems,rest,m,_,rfl,rfl,hb,hl,hm,hlen,hel,_,_⟩
     ·refine .one (d:=.sl row.length [] .any) (.sl row [] (by simp) (by simp) (by simp)) ?_ rfl
      exact .sl _ _ _ _ _ _ 0 0 (fun _ _=>Go.undef) rfl (fun _=>rfl) (Nat.le_refl _) (by simp) (by simp) (by simp) (by simp)
     ·have key:∀i,∃cs':List Value,∃ds:List DV,i<len->ds.length=row.length/\cs'.length=row.length/\(∀j,j<row.length->w.cell? (a.add (i*row.length+j))=cs'[j]?)/\
        ∀(j:Nat) c d v,row[j]?=some c->ds[j]?=some d->cs'[j]?=some v->yP c d/\Rel (Gh.all w) d v/\v.oneCell'=true:=by
       intro i
       by_cases hi:i<len
       ·have h1:=hel i hi
        rw[List.getElem?_eq_getElem (by omega),Option.bind_eq_some_iff] at h1
        obtain ⟨cs',h2,h3⟩:=h1
        obtain ⟨h4,ds,h5,h6⟩:=zA n e row hrow m cs' _ h3
        obtain ⟨_,h7,h8⟩:=World.cells?_some h2
        refine ⟨cs',ds,fun _=>⟨h5,h4,fun j hj=>?_,h6⟩⟩
        have:=h8 j (by omega)
        rw[<-hc.1] at this
        rw[<-this]
        rw[Ff]
       ·exact ⟨[],[],fun h=>absurd h hi⟩
      have abi:=Classical.axiomOfChoice key
      obtain ⟨cf,abi⟩:=abi
      have Hx:=Classical.axiomOfChoice abi
      obtain ⟨df,Hx⟩:=Hx
      have ada:maxLen=9223372036854775807:=by decide
      have aag:0<len->a.spot=none:=fun h0=>by
       obtain ⟨k1,k2,k3,_⟩:=Hx 0 h0
       have:=k3 0 hc.2
       rw[List.getElem?_eq_getElem (by omega)] at this
       simp only[Nat.zero_mul,Nat.add_zero] at this
       rw[Addr.add,if_pos rfl] at this
       unfold World.cell? at this
       split at this
       ·split at this
        ·cases this
        ·rename_i hs
         cases hsp:a.spot with
         | none=>rfl
         | some s=>rw[hsp] at hs;simp at hs
       ·cases this
      have hrow?:∀(i:Nat) (r:List DV),((List.range len).map df)[i]?=some r->i<len/\r=df i:=fun i r hr=>by
       simp only[List.getElem?_map,Option.map_eq_some_iff] at hr
       obtain ⟨i',hi',rfl⟩:=hr
       have:=List.getElem?_range (n:=len) (i:=i)
       by_cases hi:i<len
       ·rw[List.getElem?_range hi] at hi';obtain rfl:=sj hi';exact ⟨hi,rfl⟩
       ·rw[List.getElem?_eq_none (by simp;omega)] at hi';cases hi'
      refine .one (d:=.sl row.length ((List.range len).map df) .any) (.sl row _ (by rw[List.length_map,List.length_range];exact Nat.le_trans hl (ada ▸ hm)) ?_ ?_) ?_ rfl
      ·intro r hr
       obtain ⟨i,hi⟩:=List.getElem?_of_mem hr
       obtain ⟨hi2,rfl⟩:=hrow? i r hi
       exact (Hx i hi2).1
      ·intro r hr j c d h1 h2
       obtain ⟨i,hi⟩:=List.getElem?_of_mem hr
       obtain ⟨hi2,rfl⟩:=hrow? i r hi
       obtain ⟨k1,k2,k3,k4⟩:=Hx i hi2
       have hj:j<row.length:=(List.getElem?_eq_some_iff.1 h1).1
       exact (k4 j c d _ h1 h2 (List.getElem?_eq_getElem (by omega))).1
      ·refine .sl _ _ _ _ _ _ a.block a.off (fun i j=>(cf i).getD j Go.undef) (by simp) (fun h=>by cases h) hl ?_ ?_ ?_ ?_
       ·intro hne
        have h0:0<len:=by
         rcases Nat.eq_zero_or_pos len with h0 | h0
         ·subst h0;simp at hne
         ·exact h0
        have:=aag h0
        cases a;simp at this;subst this;rfl
       ·intro i r hi
        obtain ⟨hi2,rfl⟩:=hrow? i r hi
        exact (Hx i hi2).1
       ·intro i j r c hi hj
        obtain ⟨hi2,rfl⟩:=hrow? i r hi
        obtain ⟨k1,k2,k3,k4⟩:=Hx i hi2
        have hj':j<row.length:=by have:=(List.getElem?_eq_some_iff.1 hj).1;omega
        have h1:=k3 j hj'
        have h2:(cf i)[j]?=some ((cf i).getD j Go.undef):=by rw[List.getD_eq_getElem?_getD,List.getElem?_eq_getElem (by omega)];rfl
        have hs:=aag (by omega)
        rw[h2] at h1
        have h3:a.add (i*row.length+j)=⟨a.block,a.off+(i*row.length+j),none⟩:=A9 hs _
        rw[h3] at h1
        exact Gh.Vj h1 (k4 j _ c _ (List.getElem?_eq_getElem hj') hj h2).2.2
       ·intro i j r c hi hj
        obtain ⟨hi2,rfl⟩:=hrow? i r hi
        obtain ⟨k1,k2,k3,k4⟩:=Hx i hi2
        have hj':j<row.length:=by have:=(List.getElem?_eq_some_iff.1 hj).1;omega
        have h2:(cf i)[j]?=some ((cf i).getD j Go.undef):=by rw[List.getD_eq_getElem?_getD,List.getElem?_eq_getElem (by omega)];rfl
        exact (k4 j _ c _ (List.getElem?_eq_getElem hj') hj h2).2.1
    ·cases h
   ·cases h
  ·rename_i fs ht
   split at h
   ·rename_i l' hl'
    split at h
    ·rename_i hc
     obtain rfl:=sj h
     obtain ⟨xs,m,rfl,rfl,h1,h2,h3⟩:=DataW.trod_struct ht hx
     have:=Gg (enc:=enc) (P:=P) (w:=w) (base:=base) (held:=held) (spare:=spare) (m:=m) (fun t l h cs x=>zA n t l h m cs x) fs.toList 0 l' cs hl' (by omega) fun f hf=>by
      obtain ⟨i,hi⟩:=List.getElem?_of_mem hf
      have hi':fs[i]?=some f:=by simpa using hi
      have:=h3 i f hi'
      have hlt:i<xs.length:=by have:=(Array.getElem?_eq_some_iff.1 hi').1;omega
      rw[List.getElem?_eq_getElem hlt] at this
      exact ⟨_,this⟩
     simpa using this
    ·cases h
   ·cases h
  ·cases h
end
end
section
open Go.RowKit Go.ChangeShapes Go.WideShapes
def isStruct (P:Program)(t:TypeId):Bool:=match P.underlying t with | some (.struct _)=>true | _=>false
def ZO (P:Program)(t:TypeId):Option (Bool × List CS):=(uE P 8 t).map fun l=>(isStruct P t,l)
def I7:Bool × List CS->DV->Prop
 | (false,l),d=>∃c,l=[c]/\yP c d
 | (true,l),d=>∃ds,d=.agg ds/\ds.length=l.length/\∀(i:Nat) c x,l[i]?=some c->ds[i]?=some x->yP c x
def A4 (P:Program):List TypeId->Option (List (Bool × List CS))
 | []=>some []
 | t::ts=>match ZO P t,A4 P ts with
  | some a,some l=>some (a::l)
  | _,_=>none
def wE:List (Bool × List CS)->List DV->Prop
 | [],[]=>True
 | a::l,d::ds=>I7 a d/\wE l ds
 | _,_=>False
theorem wE.nil {ds:List DV}(h:wE [] ds):ds=[]:=by
 cases ds with
 | nil=>rfl
 | cons=>exact h.elim
theorem wE.cons {a:Bool × List CS}{l:List (Bool × List CS)}{ds:List DV}(h:wE (a::l) ds):∃d r,ds=d::r/\I7 a d/\wE l r:=by
 cases ds with
 | nil=>exact h.elim
 | cons d r=>exact ⟨d,r,rfl,h.1,h.2⟩
section
variable {H:Type} {enc:TypeId × Value->H} {P:Program} {w:World}
theorem EM {t:TypeId}{l:List CS}(h:Value.okWide P w r b0 t v)(hs:uE P 8 t=some l)(hn:isStruct P t=false):v.cells.toList=[v]:=by
 unfold isStruct at hn
 have key:∀cs,v≠ .agg cs:=by
  intro cs e
  subst e
  rw[uE] at hs
  unfold Value.okWide Cell.okWide Cell.ok at h
  split at hs <;> rename_i ht <;> first | (rw[ht] at h;exact h.elim) | (rw[ht] at hn;cases hn) | cases hs
 cases v <;> first | rfl | exact absurd rfl (key _)
theorem Kf {t:TypeId}(h:Value.okWide P w r b0 t v)(hn:isStruct P t=true):∃cs,v=.agg cs:=by
 unfold isStruct at hn
 split at hn
 ·rename_i ht
  unfold Value.okWide at h
  rw[ht] at h
  obtain ⟨cs,h,_⟩:=h
  exact ⟨cs,h⟩
 ·cases hn
theorem ZP {t:TypeId}{d:DataW H}{ps:List MemPlace}{a:Bool × List CS}(ha:ZO P t=some a)(hv:Value.okWide P w r b0 t v)
  (hd:DataW.Trod enc P w base spare held t v d ps):∃x,I7 a x/\Rel (Gh.all w) x v:=by
 unfold ZO at ha
 cases hl:uE P 8 t with
 | none=>rw[hl] at ha;cases ha
 | some l=>
  rw[hl] at ha
  obtain rfl:=sj ha
  obtain ⟨fuel,hf⟩:=hd
  obtain ⟨h1,ds,h2,h3⟩:=zA 8 t l hl fuel _ _ hf
  cases hn:isStruct P t with
  | false=>
   rw[EM hv hl hn] at h1 h3
   match l,h1 with
   | [c],_=>
    match ds,h2 with
    | [x],_=>
     obtain ⟨k1,k2,_⟩:=h3 0 c x v rfl rfl rfl
     exact ⟨x,⟨c,rfl,k1⟩,k2⟩
  | true=>
   obtain ⟨cs,rfl⟩:=Kf hv hn
   simp only[Value.cells] at h1 h3
   refine ⟨.agg ds,⟨ds,rfl,h2,fun i c x hc hx=>?_⟩,.agg ds cs (by simpa using h1.trans h2.symm) fun i c hc=>?_⟩
   ·have hi:i<cs.toList.length:=by have:=(List.getElem?_eq_some_iff.1 hc).1;omega
    exact (h3 i c x _ hc hx (List.getElem?_eq_getElem hi)).1
   ·have hi:i<ds.length:=(List.getElem?_eq_some_iff.1 hc).1
    have hi2:i<cs.toList.length:=by omega
    have hi3:i<cs.size:=by simpa using hi2
    have:=(h3 i _ c _ (List.getElem?_eq_getElem (by omega)) hc (List.getElem?_eq_getElem hi2)).2.1
    simpa [Array.getD,hi3] using this
theorem Ik {base b0:Nat}{spare:Nat->Bool}{held:Bool}{r:Reach}:∀{ts:List TypeId} {vs:List Value} {ds:List (DataW H)} {ps:List MemPlace} {l:List (Bool × List CS)},A4 P ts=some l->
  (∀(j:Nat) t v,ts[j]?=some t->vs[j]?=some v->Value.okWide P w r b0 t v)->DataW.TrodAll enc P w base spare held ts vs ds ps->
  ∃dv:List DV,wE l dv/\dv.length=vs.length/\∀(i:Nat) d,dv[i]?=some d->Rel (Gh.all w) d (vs.getD i Go.undef)
 | [],[],[],ps,l,hl,hv,h=>by
  obtain rfl:=sj hl
  exact ⟨[],trivial,rfl,by simp⟩
 | t::ts,v::vs,d::ds,ps,l,hl,hv,⟨p,q,h1,h2,h3⟩=>by
  simp only[A4] at hl
  split at hl
  ·rename_i a l' ha hl'
   obtain rfl:=sj hl
   obtain ⟨x,hx,hr⟩:=ZP ha (hv 0 t v rfl rfl) h1
   obtain ⟨dv,k1,k2,k3⟩:=Ik hl' (fun j t v ht hv'=>hv (j+1) t v (by simpa using ht) (by simpa using hv')) h2
   refine ⟨x::dv,⟨hx,k1⟩,by simp[k2],fun i d hd=>?_⟩
   rcases i with _ | i
   ·simp at hd;subst hd;simpa using hr
   ·have:=k3 i d (by simpa using hd)
    simpa using this
  ·cases hl
theorem E7 {w':World}{a:Addr}{cs:List Value}(hb:∀b:Nat,b<w.heap.size->w'.heap[b]?=w.heap[b]?)(h:w.cells? 0 a n=some cs):w'.cells? 0 a n=some cs:=by
 rw[<-h]
 have hl:=(World.cells?_some h).2
 unfold World.cells?
 simp only[Nat.zero_le,if_true]
 have:∀i,i<n->w'.cell? (a.add i)=w.cell? (a.add i):=fun i hi=>by
  have h1:=hl.2 i hi
  rw[List.getElem?_eq_getElem (by omega)] at h1
  have h2:(a.add i).block<w.heap.size:=by
   unfold World.cell? at h1
   split at h1
   ·rename_i h2
    exact (Array.getElem?_eq_some_iff.1 h2).1
   ·cases h1
  unfold World.cell?
  rw[hb _ h2]
 have key:∀l:List Nat,(∀i∈l,i<n)->l.mapM (fun i=>w'.cell? (a.add i))=l.mapM (fun i=>w.cell? (a.add i)):=by
  intro l
  induction l with
  | nil=>intro _;rfl
  | cons x l ih=>intro hx;rw[List.mapM_cons,List.mapM_cons,this x (hx x (by simp)),ih fun i hi=>hx i (by simp[hi])]
 exact key _ fun i hi=>by simpa using hi
theorem pJ {α β:Type}{f g:α->Option β}:∀{l:List α} {r:List β},l.mapM f=some r->(∀(i:Nat) x y,l[i]?=some x->r[i]?=some y->f x=some y->g x=some y)->l.mapM g=some r
 | [],r,h,_=>h
 | x::l,r,h,hg=>by
  rw[List.mapM_cons] at h ⊢
  cases hx:f x with
  | none=>rw[hx] at h;cases h
  | some y=>
   cases hl:l.mapM f with
   | none=>rw[hx,hl] at h;cases h
   | some ys=>
    rw[hx,hl] at h
    obtain rfl:=sj h
    rw[hg 0 x y rfl rfl hx,pJ hl fun i x y h1 h2=>hg (i+1) x y (by simpa using h1) (by simpa using h2)]
    rfl
theorem tA {w':World}{sp:Nat->Bool}(hb:∀b:Nat,b<w.heap.size->w'.heap[b]?=w.heap[b]?):∀(n:Nat) (t:TypeId) (l:List CS),uE P n t=some l->∀(fuel:Nat) (cs:List Value) (x:DataW H × List MemPlace),
  DataW.trod enc P w 0 (fun _=>true) true fuel t cs=some x->(∀p∈x.2,sp p.block=true)->DataW.trod enc P w' 0 sp true fuel t cs=some x
 | 0,t,l,h,_,_,_,_=>by cases h
 | n+1,t,l,h,fuel,cs,x,hx=>by
  intro hsp
  cases fuel with
  | zero=>simp[DataW.trod] at hx
  | succ m=>
   simp only[uE] at h
   split at h
   ·rename_i ht
    obtain ⟨b,rfl,rfl⟩:=DataW.trod_bool ht hx
    simp[DataW.trod,ht]
   ·rename_i k ht
    obtain ⟨b,rfl,rfl,hw⟩:=DataW.trod_int ht hx
    simp[DataW.trod,ht,hw]
   ·rename_i ht
    obtain ⟨b,rfl,rfl,hw⟩:=DataW.trod_string ht hx
    simp[DataW.trod,ht,hw]
   ·rename_i e ht
    split at h
    ·rename_i row hrow
     split at h
     ·rename_i hc
      unfold DataW.trod at hx ⊢
      rw[ht] at hx ⊢
      split at hx
      all_goals (rename_i hA;first | cases hA | skip)
      all_goals first
       | exact hx
       | cases hx
       | skip
      rename_i a len cap
      simp only[if_true] at hx
      split at hx
      ·rename_i iO
       rw[if_pos iO]
       cases he:(List.range len).mapM fun i=>(w.cells? 0 (a.add (i*P.cellsOf e)) (P.cellsOf e)).bind (DataW.trod enc P w 0 (fun _=>true) true m e) with
       | none=>rw[he] at hx;cases hx
       | some elems=>
        rw[he] at hx
        simp only[Option.bind_some] at hx
        cases hr:(List.range (cap-len)).mapM fun j=>(w.cells? 0 (a.add ((len+j)*P.cellsOf e)) (P.cellsOf e)).bind (DataW.trod enc P w 0 (fun _=>true) true m e) with
        | none=>rw[hr] at hx;cases hx
        | some rest=>
         rw[hr] at hx
         obtain rfl:=sj hx
         have hel:elems.length=len:=by simpa using mapM_some_length he
         have hrl:rest.length=cap-len:=by simpa using mapM_some_length hr
         have step:∀(k:Nat) (y:DataW H × List MemPlace),(∀p∈y.2,sp p.block=true)->(w.cells? 0 (a.add (k*P.cellsOf e)) (P.cellsOf e)).bind (DataW.trod enc P w 0 (fun _=>true) true m e)=some y->
           (w'.cells? 0 (a.add (k*P.cellsOf e)) (P.cellsOf e)).bind (DataW.trod enc P w' 0 sp true m e)=some y:=by
          intro k y hy h1
          rw[Option.bind_eq_some_iff] at h1
          obtain ⟨cs',h2,h3⟩:=h1
          rw[E7 hb h2,Option.bind_some]
          exact tA hb n e row hrow m cs' y h3 hy
         have hmem:∀y∈elems++rest,∀p∈y.2,sp p.block=true:=fun y hy p hp=>hsp p (by
          simp only[List.mem_append]
          exact Or.inr (List.mem_flatMap.2 ⟨y,hy,hp⟩))
         rw[pJ he fun i k y h1 h2 h3=>step k y (hmem y (List.mem_append_left _ (List.mem_of_getElem? h2))) h3,Option.bind_some]
         have hr2:=pJ hr fun i k y h1 h2 h3=>step (len+k) y (hmem y (List.mem_append_right _ (List.mem_of_getElem? h2))) h3
         by_cases hz:cap-len=0
         ·have hrn:rest=[]:=List.eq_nil_of_length_eq_zero (by omega)
          subst hrn
          rw[hz]
          split <;> rfl
         ·have hsa:sp a.block=true:=by
           have:MemPlace.cell a.block (a.off+0)∈MemPlace.row a ((elems.length+rest.length)*P.cellsOf e):=by
            unfold MemPlace.row
            refine List.mem_map.2 ⟨0, ?_,rfl⟩
            rw[List.mem_range]
            exact Nat.mul_pos (by omega) (by omega)
           exact hsp (.cell a.block (a.off+0)) (by simp only[List.mem_append];exact Or.inl this)
          rw[if_pos hsa,hr2]
          rfl
      ·cases hx
     ·cases h
    ·cases h
   ·rename_i fs ht
    split at h
    ·rename_i l' hl'
     split at h
     ·rename_i hc
      unfold DataW.trod at hx ⊢
      rw[ht] at hx ⊢
      split at hx
      all_goals (rename_i hA;first | cases hA | skip)
      all_goals first
       | cases hx
       | (exfalso;simp_all;done)
       | skip
      rename_i cs _ _
      split at hx
      ·rename_i hcl
       rw[if_pos hcl]
       cases he:fs.toList.mapM fun f=>DataW.trod enc P w 0 (fun _=>true) true m f.type ((cs.drop f.offset).take (P.cellsOf f.type)) with
       | none=>rw[he] at hx;cases hx
       | some xs=>
        rw[he] at hx
        obtain rfl:=sj hx
        have hfs:∀(L:List Field) (off:Nat) (r:List CS),Gi P (uE P n) L off=some r->∀f∈L,∃lf,uE P n f.type=some lf:=by
         intro L
         induction L with
         | nil=>intro _ _ _ f hf;cases hf
         | cons g L ih=>
          intro off r h f hf
          simp only[Gi] at h
          split at h
          ·rename_i lf hlf
           split at h
           ·cases hr:Gi P (uE P n) L (off+lf.length) with
            | none=>rw[hr] at h;cases h
            | some lr=>
             rcases List.mem_cons.1 hf with rfl | hf
             ·exact ⟨_,hlf⟩
             ·exact ih _ _ hr f hf
           ·cases h
          ·cases h
        rw[pJ he fun i f y h1 h2 h3=>by
         obtain ⟨lf,hlf⟩:=hfs _ _ _ hl' f (List.mem_of_getElem? h1)
         exact tA hb n f.type lf hlf m _ y h3 fun p hp=>hsp p (List.mem_flatMap.2 ⟨y,List.mem_of_getElem? h2,hp⟩)]
        rfl
      ·cases hx
     ·cases h
    ·cases h
   ·cases h
theorem sW {w':World}{sp:Nat->Bool}(hb:∀b:Nat,b<w.heap.size->w'.heap[b]?=w.heap[b]?):∀{ts:List TypeId} {vs:List Value} {ds:List (DataW H)} {ps:List MemPlace} {l:List (Bool × List CS)},A4 P ts=some l->
  DataW.TrodAll enc P w 0 (fun _=>true) true ts vs ds ps->(∀p∈ps,sp p.block=true)->DataW.TrodAll enc P w' 0 sp true ts vs ds ps
 | [],[],[],ps,l,hl,h,_=>h
 | t::ts,v::vs,d::ds,ps,l,hl,⟨p,q,⟨f,h1⟩,h2,h3⟩,hs=>by
  subst h3
  simp only[A4] at hl
  split at hl
  ·rename_i a l' ha hl'
   unfold ZO at ha
   cases hl8:uE P 8 t with
   | none=>rw[hl8] at ha;cases ha
   | some lt=>
    exact ⟨p,q,⟨f,tA hb 8 t lt hl8 f _ _ h1 fun x hx=>hs x (List.mem_append_left _ hx)⟩,sW hb hl' h2 fun x hx=>hs x (List.mem_append_right _ hx),rfl⟩
  ·cases hl
end
end
section
open Go.RowKit Go.ChangeShapes Go.WideShapes
def flat {H:Type}:Nat->DataW H->List Value
 | n+1,.lit (.int k z)=> [.int k z]
 | n+1,.lit (.bool b)=> [.bool b]
 | n+1,.agg l=>l.flatMap (flat n)
 | _,_=> []
def xx (P:Program)(ok:TypeId->Bool):List Field->Nat->Option Nat
 | [],off=>some off
 | f::fs,off=>if ok f.type=true/\f.offset=off then xx P ok fs (off+P.cellsOf f.type) else none
def vX (P:Program):Nat->TypeId->Bool
 | 0,_=>false
 | n+1,t=>match P.underlying t with
  | some (.int _)=>true
  | some .bool=>true
  | some (.array k e)=>vX P n e && decide (P.cellsOf t=k*P.cellsOf e)
  | some (.struct fs)=>xx P (vX P n) fs.toList 0==some (P.cellsOf t)
  | _=>false
section
variable {H:Type} {enc:TypeId × Value->H} {P:Program} {w:World} {base:Nat} {spare:Nat->Bool} {held:Bool}
theorem pieces {α:Type}(sz:Nat):∀(k:Nat) (cs:List α),cs.length=k*sz->cs=(List.range k).flatMap fun i=>(cs.drop (i*sz)).take sz
 | 0,cs,h=>by
  have:cs=[]:=List.eq_nil_of_length_eq_zero (by simpa using h)
  subst this;rfl
 | k+1,cs,h=>by
  rw[List.range_succ_eq_map,List.flatMap_cons,List.flatMap_map]
  have h1:=pieces sz k (cs.drop sz) (by rw[List.length_drop,h,Nat.succ_mul];omega)
  simp only[List.drop_drop] at h1
  have h2:∀i,sz+i*sz=(i+1)*sz:=fun i=>by rw[Nat.succ_mul];omega
  simp only[h2] at h1
  simp only[Nat.zero_mul,List.drop_zero]
  conv=>lhs;rw[<-List.take_append_drop sz cs,h1]
theorem jK {α β γ:Type}{f:α->List γ}{g:β->List γ}:∀{l:List α} {m:List β},l.length=m.length->(∀(i:Nat) a b,l[i]?=some a->m[i]?=some b->f a=g b)->l.flatMap f=m.flatMap g
 | [],[],_,_=>rfl
 | a::l,b::m,h,hg=>by
  rw[List.flatMap_cons,List.flatMap_cons,hg 0 a b rfl rfl,jK (by simpa using h) fun i a b h1 h2=>hg (i+1) a b (by simpa using h1) (by simpa using h2)]
theorem Du {ok:TypeId->Bool}{m:Nat}{cs:List Value}:∀(fs:List Field) (off e:Nat),xx P ok fs off=some e->e=cs.length->off<=cs.length/\cs.drop off=fs.flatMap fun f=>(cs.drop f.offset).take (P.cellsOf f.type)
 | [],off,e,h,he=>by
  obtain rfl:=sj h
  refine ⟨by omega, ?_⟩
  rw[he];simp
 | f::fs,off,e,h,he=>by
  simp only[xx] at h
  split at h
  ·rename_i hc
   obtain ⟨h1,h2⟩:=Du (m:=m) (cs:=cs) fs _ _ h he
   refine ⟨by omega, ?_⟩
   rw[List.flatMap_cons,<-h2,hc.2,<-List.drop_drop,List.take_append_drop]
  ·cases h
theorem wH:∀(n:Nat) (t:TypeId),vX P n t=true->∀(fuel:Nat) (cs:List Value) (x:DataW H × List MemPlace),DataW.trod enc P w base spare held fuel t cs=some x->cs=flat n x.1
 | 0,t,h,_,_,_,_=>by cases h
 | n+1,t,h,fuel,cs,x,hx=>by
  simp only[vX] at h
  split at h
  ·rename_i k ht
   obtain ⟨z,rfl,rfl,_⟩:=DataW.trod_int ht hx
   rfl
  ·rename_i ht
   obtain ⟨z,rfl,rfl⟩:=DataW.trod_bool ht hx
   rfl
  ·rename_i k e ht
   simp only[Bool.and_eq_true,decide_eq_true_eq] at h
   obtain ⟨xs,m,rfl,rfl,h1,h2,h3⟩:=DataW.trod_array ht hx
   simp only[flat,List.flatMap_map]
   conv=>lhs;rw[pieces (P.cellsOf e) k cs (by rw[h1,h.2])]
   refine jK (by simp[h2]) fun i a b ha hb=>?_
   have hi:i<k:=by have:=(List.getElem?_eq_some_iff.1 ha).1;simpa using this
   rw[List.getElem?_range hi] at ha
   obtain rfl:=sj ha
   exact wH n e h.1 m _ _ ((h3 i hi).trans hb)
  ·rename_i fs ht
   obtain ⟨xs,m,rfl,rfl,h1,h2,h3⟩:=DataW.trod_struct ht hx
   simp only[flat,List.flatMap_map]
   have h4:=(Du (m:=0) (cs:=cs) fs.toList 0 (P.cellsOf t) (by simpa using h) h1.symm).2
   rw[List.drop_zero] at h4
   conv=>lhs;rw[h4]
   have hok:∀(L:List Field) (off e:Nat),xx P (vX P n) L off=some e->∀f∈L,vX P n f.type=true:=by
    intro L
    induction L with
    | nil=>intro _ _ _ f hf;cases hf
    | cons g L ih=>
     intro off e h f hf
     simp only[xx] at h
     split at h
     ·rename_i hc
      rcases List.mem_cons.1 hf with rfl | hf
      ·exact hc.1
      ·exact ih _ _ h f hf
     ·cases h
   refine jK (by simp[h2]) fun i a b ha hb=>?_
   have ha':fs[i]?=some a:=by simpa using ha
   exact wH n a.type (hok _ _ _ (by simpa using h) a (List.mem_of_getElem? ha)) m _ _ ((h3 i a ha').trans hb)
  ·cases h
theorem laid_cells {laid:List (String × DataW Unit)}(h:laidMetH P laid w)(hn:laid.all (fun x=>x.2.handleName?.isNone)=true){name:String}{d:DataW Unit}(hm:(name,d)∈laid){g:Nat}{t:TypeId}{n:Nat}
  (hg:P.globalNamed name=some g) (hty:(P.globals[g]?).map (·.type)=some t) (hf:vX P n t=true):∀i,w.cell? ⟨g,i,none⟩=(flat n d)[i]?:=by
 have h0:laidMet P laid w:=by
  unfold laidMetH at h
  have:laid.filter (fun x=>x.2.handleName?.isSome)=[]:=by
   rw[List.filter_eq_nil_iff]
   intro x hx
   have:=List.all_eq_true.1 hn x hx
   simp at this
   simp[this]
  rw[this] at h
  exact h
 obtain ⟨ps,h1,h2⟩:=h0
 clear h hn h2
 induction laid generalizing ps with
 | nil=>cases hm
 | cons x r ih=>
  obtain ⟨n0,d0⟩:=x
  obtain ⟨g',t',cs,fuel,p,q,hg',aee,aed,hd,hr,_⟩:=h1
  rcases List.mem_cons.1 hm with e | hm
  ·obtain ⟨rfl,rfl⟩:=Prod.mk.injEq .. ▸ e
   obtain rfl:=sj (hg.symm.trans hg')
   obtain rfl:=sj (hty.symm.trans aee)
   intro i
   rw[World.var?_cell hg aed i,<-wH n t hf fuel _ _ hd]
   simp
  ·exact ih hm q hr
theorem Gn {g:Nat}{row:List DV}{vs:List Value}(h:∀i,w.cell? ⟨g,i,none⟩=vs[i]?)(hl:row.length=vs.length)(hr:∀(i:Nat) d v,row[i]?=some d->vs[i]?=some v->Rel (Gh.all w) d v/\v.oneCell'=true) :
  Rel (Gh.all w) (.rp row 0) (.pointer (some ⟨g,0,none⟩)):=by
 have:=Rel.rp (G:=Gh.all w) row 0 g 0 (fun m=>vs.getD m Go.undef) (fun m c hm=>?_) (fun m c hm=>?_)
 ·exact this
 ·have hi:m<vs.length:=by have:=(List.getElem?_eq_some_iff.1 hm).1;omega
  have h1:vs[m]?=some (vs.getD m Go.undef):=by rw[List.getD_eq_getElem?_getD,List.getElem?_eq_getElem hi];rfl
  rw[Nat.zero_add]
  exact Gh.Vj ((h m).trans h1) (hr m c _ hm h1).2
 ·have hi:m<vs.length:=by have:=(List.getElem?_eq_some_iff.1 hm).1;omega
  have h1:vs[m]?=some (vs.getD m Go.undef):=by rw[List.getD_eq_getElem?_getD,List.getElem?_eq_getElem hi];rfl
  exact (hr m c _ hm h1).1
theorem xM:∀{ts:List TypeId} {vs:List Value} {ds:List (DataW H)} {ps:List MemPlace},DataW.TrodAll enc P w base spare held ts vs ds ps->ds.length=ts.length
 | [],[],[],_,_=>rfl
 | _::_,_::_,_::_,_,⟨_,_,_,h,_⟩=>by simp[xM h]
end
end
section
def qc (a:Nat):List Nat->List Nat
 | []=> [a]
 | b::l=>if a=b then b::l else b::qc a l
def lO:List Nat->List Nat->List Nat
 | [],acc=>acc
 | a::l,acc=>lO l (qc a acc)
def oe:List (Nat × DV)->List Nat->List Nat
 | [],acc=>acc
 | (_,d)::l,acc=>oe l (lO (eu d) acc)
def E8 (m:Nat)(ids:List Nat):List (Nat × DV)->List (Nat × DV)
 | []=> []
 | (t,d)::l=>(t,lK m ids d)::E8 m ids l
def pQ:Option (Option Ob)->List Nat->List Nat
 | some (some (.box cs)),acc=>lO (cs.flatMap jR) acc
 | _,acc=>acc
def mK (T:ay):List Nat->List Nat->List Nat
 | [],acc=>acc
 | i::l,acc=>mK T l (pQ T[i]? acc)
def qa (m:Nat)(ids:List Nat):Ob->Ob
 | .box cs=> .box (cs.map (oo m ids))
 | ob=>ob
def inL (a:Nat):List Nat->Prop
 | []=>False
 | b::l=>a=b\/inL a l
theorem Mg {a:Nat}:∀{l:List Nat},inL a l->a∈l
 | b::l,h=>by
  rcases h with rfl | h
  ·simp
  ·exact List.mem_cons_of_mem _ (Mg h)
def wj (all:List Nat):List Nat->Prop
 | []=>True
 | a::l=>inL a all/\wj all l
theorem DM {all:List Nat}:∀{l:List Nat},wj all l->∀a∈l,a∈all
 | b::l,h,a,ha=>by
  rcases List.mem_cons.1 ha with rfl | ha
  ·exact Mg h.1
  ·exact DM h.2 a ha
def Dg:Ob->List Nat
 | .box cs=>cs.flatMap jR
 | _=> []
def yj (T:ay)(all:List Nat):List Nat->(ay->Prop)->Prop
 | [],k=>k []
 | i::l,k=>bA T[i]? fun x=>bA x fun ob=>wj all (Dg ob)/\yj T all l fun os=>k (some (qa T.length all ob)::os)
def ab8 (T:ay)(ids:List Nat)(e:List (Nat × DV))(K:Nat->St->Prop):Prop:=yj T ids ids fun os=>K T.length ⟨E8 T.length ids e,List.replicate T.length none++os⟩
def ZF (st:St)(K:Nat->St->Prop):Prop:=ab8 st.au (mK st.au (oe st.env []) (oe st.env [])) st.env K
theorem xh {a x:Nat}:∀{l:List Nat},x∈qc a l↔x=a\/x∈l
 | []=>by simp[qc]
 | b::l=>by
  simp only[qc]
  split
  ·rename_i h;subst h;simp
  ·rw[List.mem_cons,xh (l:=l),List.mem_cons];grind
theorem yb {a:Nat}:∀{l:List Nat},l.Nodup->(qc a l).Nodup
 | [],_=>by simp[qc]
 | b::l,h=>by
  simp only[qc]
  split
  ·exact h
  ·rename_i hab
   have h2:=List.nodup_cons.1 h
   refine List.nodup_cons.2 ⟨fun hm=>?_,yb h2.2⟩
   rcases xh.1 hm with e | e
   ·exact hab e.symm
   ·exact h2.1 e
theorem tQ {x:Nat}:∀{l acc:List Nat},x∈lO l acc↔x∈l\/x∈acc
 | [],acc=>by simp[lO]
 | a::l,acc=>by
  simp only[lO]
  rw[tQ (l:=l),xh,List.mem_cons];grind
theorem pI:∀{l acc:List Nat},acc.Nodup->(lO l acc).Nodup
 | [],acc,h=>h
 | a::l,acc,h=>pI (l:=l) (yb h)
theorem Ht {x:Nat}:∀{e:List (Nat × DV)} {acc:List Nat},x∈oe e acc↔(∃y∈e,x∈eu y.2)\/x∈acc
 | [],acc=>by simp[oe]
 | (t,d)::e,acc=>by
  simp only[oe]
  rw[Ht (e:=e),tQ]
  simp only[List.mem_cons]
  grind
theorem Ah:∀{e:List (Nat × DV)} {acc:List Nat},acc.Nodup->(oe e acc).Nodup
 | [],acc,h=>h
 | (t,d)::e,acc,h=>Ah (e:=e) (pI h)
theorem Kt {o:Option (Option Ob)}{acc:List Nat}(h:x∈acc):x∈pQ o acc:=by
 unfold pQ
 split
 ·exact tQ.2 (.inr h)
 ·exact h
theorem EN {o:Option (Option Ob)}{acc:List Nat}(h:acc.Nodup):(pQ o acc).Nodup:=by
 unfold pQ
 split
 ·exact pI h
 ·exact h
theorem Am {T:ay}{x:Nat}:∀{l acc:List Nat},x∈acc->x∈mK T l acc
 | [],acc,h=>h
 | i::l,acc,h=>Am (l:=l) (Kt h)
theorem vD {T:ay}:∀{l acc:List Nat},acc.Nodup->(mK T l acc).Nodup
 | [],acc,h=>h
 | i::l,acc,h=>vD (l:=l) (EN h)
theorem w9 {a:Nat}:∀{l:List Nat} {i j:Nat},l.Nodup->l[i]?=some a->l[j]?=some a->i=j
 | [],i,j,_,h,_=>by simp at h
 | b::l,i,j,hn,h1,h2=>by
  have hn2:=List.nodup_cons.1 hn
  rcases i with _ | i <;> rcases j with _ | j
  ·rfl
  ·simp at h1 h2;subst h1;exact absurd (List.mem_of_getElem? h2) hn2.1
  ·simp at h1 h2;subst h2;exact absurd (List.mem_of_getElem? h1) hn2.1
  ·have:=w9 hn2.2 (i:=i) (j:=j) (by simpa using h1) (by simpa using h2)
   omega
theorem AZ {T:ay}{all:List Nat}:∀{ids:List Nat} {K:ay->Prop},yj T all ids K->∃os,K os/\os.length=ids.length/\∀(k:Nat) (ob':Ob),os[k]?=some (some ob')->∃o ob,ids[k]?=some o/\T[o]?=some (some ob)/\ob'=qa T.length all ob/\wj all (Dg ob)
 | [],K,h=>⟨[],h,rfl,by simp⟩
 | i::l,K,h=>by
  simp only[yj] at h
  cases h1:T[i]? with
  | none=>rw[h1] at h;exact h.elim
  | some x=>
   rw[h1] at h
   cases x with
   | none=>exact h.elim
   | some ob=>
    obtain ⟨h0,h⟩:=h
    obtain ⟨os,h2,h3,h4⟩:=AZ h
    refine ⟨some (qa T.length all ob)::os,h2,by simp[h3],fun k ob' hk=>?_⟩
    rcases k with _ | k
    ·simp at hk;subst hk;exact ⟨i,ob,rfl,h1,rfl,h0⟩
    ·exact h4 k ob' (by simpa using hk)
section
variable {G G':Gh} {m:Nat} {ids:List Nat} (hle:G.le G') (hpl:∀o p,o∈ids->G.pl o=some p->G'.pl (m+pos o ids)=some p)
include hle hpl
theorem iD (h:∀o∈jR d,o∈ids)(r:Rel G d v):Rel G' (oo m ids d) v:=by
 cases r with
 | own o off n pl p c h1 h2 h3 h4=>exact .own _ off n pl p c (hpl o pl (h o (by simp[jR])) h1) h2 h3 h4
 | ptr o i j pl h1=>exact .ptr _ i j pl (hpl o pl (h o (by simp[jR])) h1)
 | undef v=>exact (Rel.undef v).mono hle
 | int k n=>exact .int k n
 | bool b=>exact .bool b
 | str s=>exact .str s
 | lit v=>exact .lit v
 | agg cs vs h1 h2=>exact (Rel.agg cs vs h1 h2).mono hle
 | tup cs vs h1 h2=>exact (Rel.tup cs vs h1 h2).mono hle
 | sl sz rows k p len cap b o vals h1 h2 h3 h4 h5 h6 h7=>exact (Rel.sl sz rows k p len cap b o vals h1 h2 h3 h4 h5 h6 h7).mono hle
 | rp row j b o vals h1 h2=>exact (Rel.rp row j b o vals h1 h2).mono hle
 | ifc t d v h1=>exact (Rel.ifc t d v h1).mono hle
 | ifa t cs vs h1 h2=>exact (Rel.ifa t cs vs h1 h2).mono hle
 | clo g cs vs h1 h2=>exact (Rel.clo g cs vs h1 h2).mono hle
theorem qN (h:∀o∈pL d,o∈ids)(r:Rel G d v):Rel G' (qO m ids d) v:=by
 cases r with
 | agg cs vs h1 h2=>
  refine .agg _ vs (by simpa using h1) fun i c hc=>?_
  rw[List.getElem?_map,Option.map_eq_some_iff] at hc
  obtain ⟨c0,h3,rfl⟩:=hc
  exact iD hle hpl (fun o ho=>h o (List.mem_flatMap.2 ⟨c0,List.mem_of_getElem? h3,ho⟩)) (h2 i c0 h3)
 | own o off n pl p c h1 h2 h3 h4=>exact iD (d:=.own o off n) hle hpl h (.own o off n pl p c h1 h2 h3 h4)
 | ptr o i j pl h1=>exact iD (d:=.ptr o i j) hle hpl h (.ptr o i j pl h1)
 | undef v=>exact iD (d:=.undef) hle hpl h (.undef v)
 | int k n=>exact .int k n
 | bool b=>exact .bool b
 | str s=>exact .str s
 | lit v=>exact .lit v
 | tup cs vs h1 h2=>exact (Rel.tup cs vs h1 h2).mono hle
 | sl sz rows k p len cap b o vals h1 h2 h3 h4 h5 h6 h7=>exact (Rel.sl sz rows k p len cap b o vals h1 h2 h3 h4 h5 h6 h7).mono hle
 | rp row j b o vals h1 h2=>exact (Rel.rp row j b o vals h1 h2).mono hle
 | ifc t d v h1=>exact .ifc t _ v (iD hle hpl (fun o ho=>h o (by simpa [pL] using ho)) h1)
 | ifa t cs vs h1 h2=>
  refine .ifa t _ vs (by simpa using h1) fun i c hc=>?_
  rw[List.getElem?_map,Option.map_eq_some_iff] at hc
  obtain ⟨c0,h3,rfl⟩:=hc
  exact iD hle hpl (fun o ho=>h o (List.mem_flatMap.2 ⟨c0,List.mem_of_getElem? h3,ho⟩)) (h2 i c0 h3)
 | clo g cs vs h1 h2=>
  refine .clo g _ vs (by simpa using h1) fun i c hc=>?_
  rw[List.getElem?_map,Option.map_eq_some_iff] at hc
  obtain ⟨c0,h3,rfl⟩:=hc
  exact iD hle hpl (fun o ho=>h o (List.mem_flatMap.2 ⟨c0,List.mem_of_getElem? h3,ho⟩)) (h2 i c0 h3)
theorem Ie (h:∀o∈eu d,o∈ids)(r:Rel G d v):Rel G' (lK m ids d) v:=by
 cases r with
 | tup cs vs h1 h2=>
  refine .tup _ vs (by simpa using h1) fun i c hc=>?_
  rw[List.getElem?_map,Option.map_eq_some_iff] at hc
  obtain ⟨c0,h3,rfl⟩:=hc
  exact qN hle hpl (fun o ho=>h o (List.mem_flatMap.2 ⟨c0,List.mem_of_getElem? h3,ho⟩)) (h2 i c0 h3)
 | agg cs vs h1 h2=>exact qN (d:=.agg cs) hle hpl h (.agg cs vs h1 h2)
 | own o off n pl p c h1 h2 h3 h4=>exact iD (d:=.own o off n) hle hpl h (.own o off n pl p c h1 h2 h3 h4)
 | ptr o i j pl h1=>exact iD (d:=.ptr o i j) hle hpl h (.ptr o i j pl h1)
 | undef v=>exact iD (d:=.undef) hle hpl h (.undef v)
 | int k n=>exact .int k n
 | bool b=>exact .bool b
 | str s=>exact .str s
 | lit v=>exact .lit v
 | sl sz rows k p len cap b o vals h1 h2 h3 h4 h5 h6 h7=>exact (Rel.sl sz rows k p len cap b o vals h1 h2 h3 h4 h5 h6 h7).mono hle
 | rp row j b o vals h1 h2=>exact (Rel.rp row j b o vals h1 h2).mono hle
 | ifc t d v h1=>exact qN (d:=.wrap (.ifc t) [d]) hle hpl h (.ifc t d v h1)
 | ifa t cs vs h1 h2=>exact qN (d:=.wrap (.ifa t) cs) hle hpl h (.ifa t cs vs h1 h2)
 | clo g cs vs h1 h2=>exact qN (d:=.wrap (.clo g) cs) hle hpl h (.clo g cs vs h1 h2)
end
theorem Mt (m:Nat)(ids:List Nat):∀e:List (Nat × DV),E8 m ids e=e.map fun x=>(x.1,lK m ids x.2)
 | []=>rfl
 | (t,d)::l=>by simp[E8,Mt m ids l]
theorem KW {G':Gh}{p:Place}{ob:Ob}(hle:G.le G')(hpl:∀o p,o∈ids->G.pl o=some p->G'.pl (m+pos o ids)=some p)
  (hb:∀cs,ob=.box cs->∀c∈cs,∀o∈jR c,o∈ids) (hl:gV G w p ob):gV G' w p (qa m ids ob):=by
 cases ob with
 | arr sz rows=>exact hl.mono hle (fun _ _=>rfl) (fun _ _=>rfl) (fun _ h=>h)
 | box cs=>
  refine ⟨by have:=hl.psz;simpa [qa,Ob.sz] using this,by have:=hl.fits;simpa [qa,Ob.rows] using this,fun row hrow=>?_,hl.there,fun i j row c v hi hj hv=>?_,hl.mko⟩
  ·have:=hl.size cs (by simp[Ob.rows])
   simp[Ob.rows,qa] at hrow
   subst hrow
   simpa using this
  ·simp only[Ob.rows,qa] at hi
   rcases i with _ | i
   ·simp at hi
    subst hi
    rw[List.getElem?_map,Option.map_eq_some_iff] at hj
    obtain ⟨c0,h1,rfl⟩:=hj
    exact iD hle hpl (hb cs rfl c0 (List.mem_of_getElem? h1)) (hl.holds 0 j cs c0 v rfl h1 hv)
   ·simp at hi
theorem AY {C:Ctx}{a:Act}{K:Nat->St->Prop}(h:ei E C st a w)(hk:ZF st K):∃st',K st.au.length st'/\ei E C st' a w:=by
 obtain ⟨G,hr⟩:=h
 obtain ⟨os,hK,hlen,hos⟩:=AZ hk
 refine ⟨_,hK, ?_⟩
 have hnd:(mK st.au (oe st.env []) (oe st.env [])).Nodup:=vD (Ah List.nodup_nil)
 have hsub:∀x,x∈oe st.env []->x∈mK st.au (oe st.env []) (oe st.env []):=fun x hx=>Am hx
 have hold:∀t,∀o∈eu (St.look t st.env),o∈oe st.env []:=fun t o ho=>by
  rcases Ao t st.env with h1 | h1
  ·rw[h1] at ho;simp[eu,pL,jR] at ho
  ·exact Ht.2 (.inl ⟨_,h1,ho⟩)
 generalize adg:mK st.au (oe st.env []) (oe st.env [])=ids at *
 let G':Gh:={ rd:=G.rd,pl:=fun x=>if x<st.au.length then G.pl x else match ids[x-st.au.length]? with | some o=>G.pl o | none=>none}
 have hle:G.le G':=⟨fun _ _ h=>h,fun k p h=>by
  have:=hr.heap.pls k p h
  simp only[G']
  rw[if_pos this];exact h⟩
 have hpl:∀o p,o∈ids->G.pl o=some p->G'.pl (st.au.length+pos o ids)=some p:=fun o p ho hp=>by
  simp only[G']
  rw[if_neg (by omega),Nat.add_sub_cancel_left,lW ho]
  exact hp
 have hnew:∀(k:Nat) (ob':Ob),(List.replicate st.au.length none++os)[k]?=some (some ob')->st.au.length<=k/\∃o ob,ids[k-st.au.length]?=some o/\st.au[o]?=some (some ob)/\ob'=qa st.au.length ids ob/\wj ids (Dg ob)/\G'.pl k=G.pl o:=fun k ob' h=>by
  by_cases hk:k<st.au.length
  ·rw[List.getElem?_append_left (by simpa using hk),List.getElem?_replicate,if_pos hk] at h
   cases h
  ·rw[List.getElem?_append_right (by simpa using hk)] at h
   simp only[List.length_replicate] at h
   obtain ⟨o,ob,h1,h2,h3,h4⟩:=hos _ _ h
   refine ⟨by omega,o,ob,h1,h2,h3,h4, ?_⟩
   simp only[G']
   rw[if_neg hk,h1]
 refine ⟨G',⟨fun t=>?_,hr.num,hr.defs,⟨fun k p hp=>?_,fun k ob hob=>?_, ?_,hr.heap.rdv, ?_⟩, ?_,fun g row hg=>(hr.qf g row hg).mono hle⟩⟩
 ·show Rel G' (St.look t (E8 st.au.length ids st.env)) _
  rw[Mt,St.vL (lK st.au.length ids) rfl]
  exact Ie hle hpl (fun o ho=>hsub _ (hold t o ho)) (hr.env t)
 ·simp only[G'] at hp
  simp only[List.length_append,List.length_replicate,hlen]
  split at hp
  ·omega
  ·split at hp
   ·rename_i o ho
    have:=(List.getElem?_eq_some_iff.1 ho).1
    omega
   ·cases hp
 ·obtain ⟨_,o,ob0,_,h2,rfl,h3,h4⟩:=hnew k ob hob
  obtain ⟨p,hp,hl⟩:=hr.heap.live o ob0 h2
  refine ⟨p,h4.trans hp,KW hle hpl (fun cs e c hc x hx=>?_) hl⟩
  subst e
  exact DM h3 x (List.mem_flatMap.2 ⟨c,hc,hx⟩)
 ·intro k k' r r' p p' i i' h1 h2 hne hp hp' hi hi'
  obtain ⟨k1,o,ob0,k2,k3,_,_,k4⟩:=hnew k r h1
  obtain ⟨l1,o',ad9,l2,l3,_,_,l4⟩:=hnew k' r' h2
  refine hr.heap.sep o o' ob0 ad9 p p' i i' k3 l3 (fun e=>?_) (k4.symm.trans hp) (l4.symm.trans hp') hi hi'
  subst e
  have:=w9 hnd k2 l2
  omega
 ·intro k r p i hk hp hi
  obtain ⟨_,o,ob0,_,h2,_,_,h3⟩:=hnew k r hk
  exact hr.heap.rds o ob0 p i h2 (h3.symm.trans hp) hi
 ·refine ⟨hr.frm.os,hr.frm.tape,hr.frm.output,hr.frm.size,hr.frm.blk,hr.frm.cell,hr.frm.frz,fun k r p i hk hp hi=>?_,hr.frm.rdn,hr.frm.le.trans hle,hr.frm.mko⟩
  obtain ⟨_,o,ob0,_,h2,_,_,h3⟩:=hnew k r hk
  exact hr.frm.mine o ob0 p i h2 (h3.symm.trans hp) hi
theorem bk.ac1 (hF : FOk E F) {n : Nat} {b : RC} {Q : Exit -> St -> Prop} {st : St} {σ : Type} (S : Nat -> σ -> St) (I : σ -> Prop) (μ : σ -> Nat) (n0 : Nat) (s0 : σ) (h0 : I s0)
    (hw : n0 <= st.au.length /\ ZF st fun m st' => st'.wk (S m s0))
    (round : ∀ m s, n0 <= m -> I s -> b.wp E F n (fun e st' => match e with
      | .normal => n0 <= st'.au.length /\ ZF st' fun m acR => ∃ s', acR.wk (S m s') /\ I s' /\ μ s' < μ s
      | e => Q e st') (S m s)) : bk E n b Q st := by
  intro c ann hc C a w hn hr
  let J : Act -> World -> Nat -> Prop := fun a w k => ∃ m s, n0 <= m /\ I s /\ ei E C (S m s) a w /\ μ s = k
  have hex : ∀ a w, (∃ m, J a w m) -> ∃ m, J a w m /\ ∀ k, J a w k -> m <= k := fun a w ⟨m, hm⟩ => vY _ m hm
  open Classical in
  let f : Act -> World -> Nat := fun a w => if h : ∃ m, J a w m then Classical.choose (hex a w h) else 0
  have hf : ∀ a w, (∃ m, J a w m) -> J a w (f a w) /\ ∀ k, J a w k -> f a w <= k := fun a w h => by
    simp only[f, dif_pos h]
    exact Classical.choose_spec (hex a w h)
  have hstart : ∃ m, J a w m := by
    obtain ⟨st', h1, h2⟩ := AY hr hw.2
    exact ⟨μ s0, st.au.length, s0, hw.1, h0, h2.wk h1, rfl⟩
  refine wp_loop (fun a w => ∃ m, J a w m) f hstart (fun a w hJ => ?_)
  obtain ⟨⟨m, s, hm0, hI, hrs, hm⟩, hmin⟩ := hf a w hJ
  refine Code.wp_mono ?_ (RC.sound hF c ann b _ (S m s) hc (round m s hm0 hI) C a w hn hrs)
  rintro e a' w' ⟨st', h1, h2⟩
  cases e with
  | normal =>
    obtain ⟨acR, ⟨s', hw', hI', hlt⟩, h3⟩ := AY h2 h1.2
    have hJ' : J a' w' (μ s') := ⟨_, s', h1.1, hI', h3.wk hw', rfl⟩
    refine ⟨⟨_, hJ'⟩, ?_⟩
    have := (hf a' w' ⟨_, hJ'⟩).2 _ hJ'
    omega
  | _ => exact ⟨st', h1, h2⟩
theorem bk.own {b:RC}{Q:Exit->St->Prop}(t sz:Nat){s:Nat}{k:SK}(h:st.get t=.sl s [] k)(hk:k=.nil\/k=.zero)
  (h2:bk E n b Q ⟨St.rep t (.own st.au.length 0 0) st.env,st.au++ [some (.arr sz [])]⟩):bk E n b Q st:=by
 intro c ann hc C a w hn ⟨G,hr⟩
 have hr2:=hr.Ai sz
 refine h2 c ann hc C a w hn ⟨G.more st.au.length ⟨0,0,sz,0⟩,⟨fun u=>?_,hr2.num,hr2.defs,hr2.heap,hr2.frm,hr2.qf⟩⟩
 by_cases e:u=t
 ·subst e
  have h3:Rel (G.more st.au.length ⟨0,0,sz,0⟩) (st.get u) _:=hr2.env u
  rw[h] at h3
  have h4:St.look u (St.rep u (.own st.au.length 0 0) st.env)=.own st.au.length 0 0\/St.look u (St.rep u (.own st.au.length 0 0) st.env)=.undef:=by
   clear h h2 hr hr2 h3
   induction st.env with
   | nil=>exact .inr rfl
   | cons x l ih=>
    obtain ⟨k,d⟩:=x
    simp only[St.rep]
    split
    ·rename_i e;simp[St.look]
    ·rename_i e;simp only[St.look];rw[if_neg e];exact ih
  show Rel _ (St.look u (St.rep u (.own st.au.length 0 0) st.env)) _
  rcases h4 with h4 | h4
  ·rw[h4]
   generalize a.tmps.getD u Go.undef=v at h3
   cases h3 with
   | sl _ _ _ p len cap b' o vals h5 h6 h7 h8 _ _ _=>
    have hl:len=0:=by simpa using h5
    subst hl
    have hc0:cap=0:=by
     rcases hk with rfl | rfl
     ·exact h6.2
     ·exact h6
    subst hc0
    exact .own _ 0 0 ⟨0,0,sz,0⟩ p 0 (by simp[Gh.more]) rfl (Nat.le_refl _) (fun h=>by omega)
  ·rw[h4];exact .undef _
 ·have h3:St.look u (St.rep t (.own st.au.length 0 0) st.env)=St.look u st.env:=by
   clear h h2 hr hr2
   induction st.env with
   | nil=>rfl
   | cons x l ih=>
    obtain ⟨k,d⟩:=x
    simp only[St.rep]
    split
    ·rename_i e2;subst e2;simp only[St.look];rw[if_neg (fun h=>e h.symm),if_neg (fun h=>e h.symm)]
    ·simp only[St.look];rw[ih]
  show Rel _ (St.look u (St.rep t (.own st.au.length 0 0) st.env)) _
  rw[h3]
  exact hr2.env u
theorem Kh (n:Nat)(a b:ay):fu (List.replicate n none++a) (List.replicate n none++b)=fu a b:=by
 induction n with
 | zero=>rfl
 | succ n ih=>simp only[List.replicate_succ,List.cons_append,ya,ih]
theorem PE (a:Nat):qc a []=[a]:=ak _
theorem Lg (a b:Nat)(l:List Nat):qc a (b::l)=if a=b then b::l else b::qc a l:=ak _
theorem Lf (acc:List Nat):lO [] acc=acc:=ak _
theorem Im (a:Nat)(l acc:List Nat):lO (a::l) acc=lO l (qc a acc):=ak _
theorem Ta (acc:List Nat):oe [] acc=acc:=ak _
theorem OA (t:Nat)(d:DV)(l:List (Nat × DV))(acc:List Nat):oe ((t,d)::l) acc=oe l (lO (eu d) acc):=ak _
theorem UB (m:Nat)(ids:List Nat):E8 m ids []=[]:=ak _
theorem Pp (m:Nat)(ids:List Nat)(t:Nat)(d:DV)(l:List (Nat × DV)):E8 m ids ((t,d)::l)=(t,lK m ids d)::E8 m ids l:=ak _
theorem Po (T:ay)(all:List Nat)(k:ay->Prop):yj T all [] k=k []:=ak _
theorem KL (T:ay)(acc:List Nat):mK T [] acc=acc:=ak _
theorem Ia (T:ay)(i:Nat)(l acc:List Nat):mK T (i::l) acc=mK T l (pQ T[i]? acc):=ak _
theorem K0 (cs:List DV)(acc:List Nat):pQ (some (some (.box cs))) acc=lO (cs.flatMap jR) acc:=ak _
theorem K1 (sz:Nat)(rows:List (List DV))(acc:List Nat):pQ (some (some (.arr sz rows))) acc=acc:=ak _
theorem Ii (acc:List Nat):pQ (some none) acc=acc:=ak _
theorem Pm (m:Nat)(ids:List Nat)(cs:List DV):qa m ids (.box cs)=.box (cs.map (oo m ids)):=ak _
theorem Pn (m:Nat)(ids:List Nat)(sz:Nat)(rows:List (List DV)):qa m ids (.arr sz rows)=.arr sz rows:=ak _
theorem KX (T:ay)(all:List Nat)(i:Nat)(l:List Nat)(k:ay->Prop):yj T all (i::l) k=(bA T[i]? fun x=>bA x fun ob=>wj all (Dg ob)/\yj T all l fun os=>k (some (qa T.length all ob)::os)):=ak _
theorem YA (a:Nat):inL a []=False:=ak _
theorem S2 (a b:Nat)(l:List Nat):inL a (b::l)=(a=b\/inL a l):=ak _
theorem PD (all:List Nat):wj all []=True:=ak _
theorem Le (all:List Nat)(a:Nat)(l:List Nat):wj all (a::l)=(inL a all/\wj all l):=ak _
theorem Od (cs:List DV):Dg (.box cs)=cs.flatMap jR:=ak _
theorem Oe (sz:Nat)(rows:List (List DV)):Dg (.arr sz rows)=[]:=ak _
theorem ZG (T:ay)(ids:List Nat)(e:List (Nat × DV))(K:Nat->St->Prop):ab8 T ids e K=yj T ids ids fun os=>K T.length ⟨E8 T.length ids e,List.replicate T.length none++os⟩:=ak _
theorem ZE (e:List (Nat × DV))(T:ay)(K:Nat->St->Prop):ZF ⟨e,T⟩ K=ab8 T (mK T (oe e []) (oe e [])) e K:=ak _
theorem YG (row:List DV)(j:Nat):eu (.rp row j)=[]:=ak _
theorem Ky:eu .undef=[]:=ak _
theorem ZD (m:Nat)(ids:List Nat)(row:List DV)(j:Nat):lK m ids (.rp row j)=.rp row j:=ak _
end
theorem TX (o sz:Nat)(rows:List (List DV))(k:IntKind)(n:Int):DV.qK o sz rows (.int k n)=.int k n:=ak _
theorem OS (o sz:Nat)(rows:List (List DV))(b:Bool):DV.qK o sz rows (.bool b)=.bool b:=ak _
theorem TU (o sz:Nat)(rows:List (List DV))(s:List UInt8):DV.qK o sz rows (.str s)=.str s:=ak _
theorem Za (o sz:Nat)(rows:List (List DV))(s:Nat)(r:List (List DV))(k:SK):DV.qK o sz rows (.sl s r k)=.sl s r k:=ak _
theorem TW (o sz:Nat)(rows:List (List DV))(o' off n:Nat):DV.qK o sz rows (.own o' off n)=DV.iA o sz rows (.own o' off n):=ak _
theorem TV (o sz:Nat)(rows:List (List DV))(o' i j:Nat):DV.qK o sz rows (.ptr o' i j)=.ptr o' i j:=ak _
theorem Zb (o sz:Nat)(rows:List (List DV))(r:List DV)(j:Nat):DV.qK o sz rows (.rp r j)=.rp r j:=ak _
theorem KE (o sz:Nat)(rows:List (List DV)):DV.qK o sz rows .undef=.undef:=ak _
theorem TY (o sz:Nat)(rows:List (List DV))(cs:List DV):DV.qK o sz rows (.agg cs)=.agg (cs.map (DV.iA o sz rows)):=ak _
def adY:=J @KL<|J @Ia<|J @K0<|J @K1<|J @Ii<|J @Pm<|J @Pn<|J @YA<|J @S2<|J @PD<|J @Le<|J @Od<|J @Oe<|J @adG<|J @adH<|J @TX<|J @OS<|J @TU<|J @Za<|J @TW<|J @TV<|J @Zb<|J @KE<|@TY
def ad4:=J @XS<|J @XR<|J @XQ<|J @ad7<|J @ad8<|J @aew<|J @aex<|J @abK<|J @RT<|J @RU<|J @Yu<|J @Ys<|J @Yt<|J @abV<|J @aec<|J @aeb<|J @aea<|J @Zm<|J @Zl<|J @Xy<|J @Rq<|J @XH<|J @Ny<|J @Nx<|J @Ns<|J @Rs<|J @Np<|J @Nr<|J @XI<|J @XG<|J @Nw<|J @aaM<|J @XB<|J @XJ<|J @Xx<|J @Xw<|J @Xz<|J @Nq<|J @Ok<|J @Oj<|J @JL<|J @Nv<|J @XC<|J @Nu<|J @JM<|J @Rv<|J @XD<|J @XA<|J @Ru<|J @JN<|J @aaN<|J @Gk<|J @NG<|J @JR<|J @JQ<|J @Y2<|J @OV<|J @TT<|J @HD<|@EZ
def ad3:=J @SV<|J @Oq<|J @Yz<|J @S1<|J @XT<|J @RO<|J @SS<|J @Oo<|J @Ue<|J @O3<|J @KZ<|J @Ih<|J @Kl<|J @Hi<|J @U6<|J @UQ<|J @UX<|J @UU<|J @UT<|J @U5<|J @ZN<|J @UP<|J @Ij<|J @U4<|J @UW<|J @UY<|J @UZ<|J @U0<|J @U3<|J @US<|J @UR<|J @Vd<|J @Vc<|J @U7<|J @U8<|J @U9<|J @Va<|J @Vb<|J @QG<|J @QE<|J @QF<|J @SF<|J @Hf<|J @SG<|J @Og<|J @Ph<|J @Ya<|J @KV<|J @Sn<|J @Pe<|J @X7<|J @Ut<|J @aa1<|J @Pg<|J @X9<|J @Pf<|J @X8<|J @Uu<|J @aa2<|@Pj
def ad2:=J @XO<|J @L5<|J @NH<|J @RG<|J @RH<|J @JH<|J @JI<|J @HO<|J @E4<|J @Ka<|J @N4<|J @Kc<|J @Sj<|J @Sk<|J @T9<|J @TR<|J @N3<|J @OU<|J @OQ<|J @Sg<|J @TZ<|J @TO<|J @X0<|J @Zc<|J @Y5<|J @Sh<|J @T7<|J @TP<|J @X3<|J @Zd<|J @Y6<|J @Si<|J @T8<|J @TQ<|J @KD<|J @TS<|J @TN<|J @Oa<|J @Oc<|J @Tk<|J @Te<|J @S8<|J @UK<|J @UF<|J @Uz<|J @ZB<|J @Zw<|J @Zr<|J @OC<|J @OB<|J @Oz<|J @Pr<|J @Pq<|J @Pk<|J @Us<|J @Ur<|J @Uo<|J @Th<|J @Tb<|@S5
def ad1:=J @UH<|J @UC<|J @Uw<|J @Zy<|J @Zt<|J @Zo<|J @YI<|J @YH<|J @YF<|J @ZI<|J @ZH<|J @ZC<|J @ab7<|J @ab6<|J @ab5<|J @Tj<|J @Td<|J @S7<|J @UJ<|J @UE<|J @Uy<|J @ZA<|J @Zv<|J @Zq<|J @Ti<|J @Tc<|J @S6<|J @UI<|J @UD<|J @Ux<|J @Zz<|J @Zu<|J @Zp<|J @Tf<|J @S9<|J @S4<|J @UG<|J @UA<|J @Uv<|J @Zx<|J @Zs<|J @Zn<|J @XZ<|J @Sb<|J @Uq<|J @Up<|J @OK<|J @KB<|J @XP<|J @CD<|J @CE<|J @CC<|J @PV<|J @LK<|J @PU<|J @acM<|J @OZ<|J @KI<|J @GZ<|@Ki
def ad0:=J @ya<|J @GY<|J @acw<|J @VN<|J @ZZ<|J @VM<|J @ZY<|J @jI<|J @ng<|J @qH<|J @bu<|J @EV<|J @EW<|J @sZ<|J @fI<|J @tS<|J @aL<|J @xm<|J @Vl<|J @PC<|J @SO<|J @Oi<|J @Of<|J @Kj<|J @I8<|J @dH<|J @LO<|J @dJ<|J @dI<|J @cL<|J @aax<|J @fe<|J @ff<|J @Wh<|J @Wl<|J @dA<|J @Qn<|J @Qp<|J @Qr<|J @We<|J @Wi<|J @Wm<|J @Wg<|J @Wk<|J @Wn<|J @Wf<|J @Wj<|J @BY<|J @BX<|J @HA<|J @PE<|J @Lg<|J @Lf<|J @Im<|J @Ta<|J @OA<|J @UB<|J @Pp<|J @ZG<|@ZE
def adZ:=J @YG<|J @Ky<|J @ZD<|@Kh
def adW:=J @N5<|J @Kd<|J @Nl<|J @Ng<|J @Re<|J @Xe<|J @Q8<|J @Xo<|J @Nm<|J @Ra<|J @Nc<|J @Nf<|J @Xp<|J @Xn<|J @Nk<|J @aaH<|J @Xi<|J @Xq<|J @Xd<|J @Xc<|J @Xf<|J @Nd<|J @Jw<|J @Nj<|J @Xj<|J @Ni<|J @Jx<|J @Rc<|J @Xk<|J @Xg<|J @Rb<|J @Jy<|J @aaI<|J @Gf<|J @GV<|J @X6<|J @aaZ<|J @acX<|J @Sm<|J @X4<|J @Sl<|J @XV<|J @aaU<|J @XW<|J @aaS<|J @XY<|J @aaW<|J @XX<|J @aaV<|J @aaT<|J @WG<|J @WE<|J @WH<|J @YC<|J @YB<|J @YD<|J @abP<|J @abO<|J @La<|@K3
def adV:=J @K4<|J @Pw<|J @K8<|J @Px<|J @iB<|J @gm<|J @KY<|J @ZK<|J @K9<|J @UO<|J @K7<|J @K6<|J @Po<|@KX
def vcQ:=J @adW @adV
def vcR:=J @ad4<|J @ad3<|J @ad2<|J @ad1<|J @ad0<|J @adZ<|J @adY<|J @Option.map_some.{0,0}<|J @Option.map_none.{0,0}<|J @Option.bind_some.{0,0}<|J @Option.bind_none.{0,0}<|J @beq_true<|J @beq_false<|J @Bool.not_true<|J @Bool.not_false<|J @BEq.rfl.{0}<|J @Bool.true_beq<|J @Bool.false_beq<|J @and_true<|J @true_and<|J @and_self<|J @decide_true<|J @decide_false<|J @List.length_cons.{0}<|J @List.length_nil.{0}<|J @List.all_cons.{0}<|J @List.all_nil.{0}<|J @Bool.and_true<|J @Bool.and_self<|J @List.getElem?_cons_zero.{0}<|J @List.getElem?_cons_succ.{0}<|J @List.set_cons_zero.{0}<|J @List.set_cons_succ.{0}<|J @List.nil_append.{0}<|J @List.cons_append.{0}<|J @List.append_nil.{0}<|J @List.map_cons.{0,0}<|J @List.map_nil.{0,0}<|J @not_true_eq_false<|J @not_false_eq_true<|J @false_implies<|J @true_implies<|J @List.take_succ_cons.{0}<|J @List.take_zero.{0}<|J @List.take_nil.{0}<|J @List.drop_succ_cons.{0}<|J @List.drop_zero.{0}<|J @List.drop_nil.{0}<|J @List.replicate_zero.{0}<|J @List.replicate_succ.{0}<|J @List.flatMap_cons.{0,0}<|J @List.flatMap_nil.{0,0}<|J @List.length_replicate.{0}<|J @List.length_append.{0}<|J @Nat.le_refl<|J @Nat.le_add_right<|J @Nat.add_assoc<|J @List.append_assoc.{0}<|J @or_true<|J @true_or<|J @or_false<|J @false_or<|J @and_false<|J @false_and<|J @Option.some.injEq.{0}<|J @DV.int.injEq<|J @DV.bool.injEq<|J @DV.sl.injEq<|J @DV.own.injEq<|J @DV.tup.injEq<|J @List.cons.injEq.{0}<|J @Ob.arr.injEq<|J @Ob.box.injEq<|J @Option.map_map.{0,0,0}<|J @Int.toNat_natCast<|J @Int.toNat_zero<|J @Int.toNat_one<|J @Nat.mul_one<|J @Nat.zero_add<|J @Nat.add_zero<|J @List.map_append.{0,0}<|J @List.map_replicate.{0,0}<|J @Int.cast_ofNat_Int<|J @Nat.left_eq_add<|J @Nat.add_eq_left<|@Nat.add_left_cancel_iff
def VQ (n:Nat)(f:Nat->Option Nat)(d:DV)(T:ay)(d':DV)(os:ay):Prop:=
 Ren f d d'/\(∀(k:Nat) ob',os[k]?=some (some ob')->∃o ob,f o=some (n+k)/\T[o]?=some (some ob)/\Bs f ob ob')/\
  (∀a b x,f a=some x->f b=some x->a=b)/\(∀a x,f a=some x->n<=x/\x<n+os.length)
theorem bP.AX {args:List DV}{R':DV->ay->Prop}{T0:ay}(hn:T0.length=n)(h:bP E f args T0 R)
  (hR:∀r T',R r T'->∃g r' os,VQ n g r T' r' os/\R' r' (List.replicate n none++os)):bP E f args T0 R':=by
 intro G w vs h1 h2 h3 h4
 refine Calls.mono (h G w vs h1 h2 h3 h4) fun e w' ⟨v,r,T',G',a,hr,hl,dh,hh,hf⟩=>?_
 obtain ⟨g,r',os,⟨c1,c2,c3,c4⟩,hR'⟩:=hR r T' hr
 open Classical in
 let G2:Gh:={ rd:=G'.rd,pl:=fun x=>if x<n then G.pl x else if hx:∃o,g o=some x then G'.pl (Classical.choose hx) else none}
 have hpl:∀o o' p,g o=some o'->G'.pl o=some p->G2.pl o'=some p:=fun o o' p ho hp=>by
  have h5:=(c4 o o' ho).1
  show (if o'<n then G.pl o' else if hx:∃o,g o=some o' then G'.pl (Classical.choose hx) else none)=some p
  rw[if_neg (by omega),dif_pos ⟨o,ho⟩]
  have:=Classical.choose_spec (⟨o,ho⟩:∃o,g o=some o')
  rw[c3 _ _ _ this ho];exact hp
 have abn:∀x p,G2.pl x=some p->(x<n/\G.pl x=some p)\/(n<=x/\x<n+os.length/\∃o,g o=some x/\G'.pl o=some p):=fun x p hx=>by
  change (if x<n then G.pl x else if hx:∃o,g o=some x then G'.pl (Classical.choose hx) else none)=some p at hx
  by_cases hlt:x<n
  ·rw[if_pos hlt] at hx;exact .inl ⟨hlt,hx⟩
  ·rw[if_neg hlt] at hx
   by_cases he:∃o,g o=some x
   ·rw[dif_pos he] at hx
    have hs:=Classical.choose_spec he
    exact .inr ⟨by omega,(c4 _ _ hs).2,_,hs,hx⟩
   ·rw[dif_neg he] at hx;cases hx
 have hT:∀(k:Nat) ob,(List.replicate n (none:Option Ob)++os)[k]?=some (some ob)->n<=k/\os[k-n]?=some (some ob):=fun k ob hk=>by
  by_cases hlt:k<n
  ·rw[List.getElem?_append_left (by simpa using hlt)] at hk;exact (dm hk).elim
  ·rw[List.getElem?_append_right (by simpa using hlt)] at hk
   exact ⟨by omega,by simpa using hk⟩
 have hob:∀(k:Nat) ob',(List.replicate n (none:Option Ob)++os)[k]?=some (some ob')->∃o ob,g o=some k/\T'[o]?=some (some ob)/\Bs g ob ob':=fun k ob' hk=>by
  obtain ⟨h5,h6⟩:=hT k ob' hk
  obtain ⟨o,ob,h7,h8,h9⟩:=c2 _ _ h6
  rw[show n+(k-n)=k by omega] at h7
  exact ⟨o,ob,h7,h8,h9⟩
 have og:∀(k:Nat) ob' p,(List.replicate n (none:Option Ob)++os)[k]?=some (some ob')->G2.pl k=some p->∃o ob,g o=some k/\T'[o]?=some (some ob)/\Bs g ob ob'/\G'.pl o=some p:=fun k ob' p hk hp=>by
  obtain ⟨o,ob,h5,h6,h7⟩:=hob k ob' hk
  obtain ⟨q,hq,_⟩:=hh.live o ob h6
  rw[hpl o k q h5 hq] at hp
  obtain rfl:=sj hp
  exact ⟨o,ob,h5,h6,h7,hq⟩
 refine ⟨v,r',_,G2,a,hR',by simp[hn],c1.rel (G:=G') (G':=G2) (fun _ _ h=>h) hpl dh,⟨?_, ?_, ?_,hh.rdv, ?_⟩,⟨hf.os,hf.tape,hf.output,hf.size,hf.blk,hf.cell,hf.frz, ?_,hf.rdn,⟨hf.le.rd, ?_⟩,hf.mko⟩⟩
 ·intro k p hp
  rcases abn k p hp with ⟨h5,_⟩ | ⟨_,h5,_⟩ <;> simp <;> omega
 ·intro k ob' hk
  obtain ⟨o,ob,h5,h6,h7⟩:=hob k ob' hk
  obtain ⟨q,hq,hl⟩:=hh.live o ob h6
  refine ⟨q,hpl o k q h5 hq,⟨hl.psz.trans h7.1,h7.2.1 ▸ hl.fits,fun row hrow=>?_,hl.there,fun i j row c v hi hj hv=>?_,hl.mko⟩⟩
  ·obtain ⟨i,hi,he⟩:=List.getElem_of_mem hrow
   have hi2:i<ob.rows.length:=by rw[h7.2.1];exact hi
   rw[<-(h7.2.2 i ob.rows[i] row (List.getElem?_eq_getElem hi2) (by rw[List.getElem?_eq_getElem hi,he])).1]
   exact hl.size _ (List.getElem_mem hi2)
  ·have hi2:i<ob.rows.length:=by rw[h7.2.1];exact (List.getElem?_eq_some_iff.1 hi).1
   obtain ⟨h8,h9⟩:=h7.2.2 i ob.rows[i] row (List.getElem?_eq_getElem hi2) hi
   have hj2:j<ob.rows[i].length:=by rw[h8];exact (List.getElem?_eq_some_iff.1 hj).1
   exact (h9 j _ c (List.getElem?_eq_getElem hj2) hj).rel (G:=G') (G':=G2) (fun _ _ h=>h) hpl (hl.holds i j ob.rows[i] ob.rows[i][j] v (List.getElem?_eq_getElem hi2) (List.getElem?_eq_getElem hj2) hv)
 ·intro k k' x x' p p' m m' hk hk' hne hp hp' hm hm' e
  obtain ⟨o,ob,h5,h6,h7,h8⟩:=og k x p hk hp
  obtain ⟨o',ob',h5',h6',h7',h8'⟩:=og k' x' p' hk' hp'
  refine hh.sep o o' ob ob' p p' m m' h6 h6' (fun e2=>?_) h8 h8' hm hm' e
  subst e2
  exact hne (sj (h5.symm.trans h5'))
 ·intro k x p m hk hp hm
  obtain ⟨o,ob,h5,h6,h7,h8⟩:=og k x p hk hp
  exact hh.rds o ob p m h6 h8 hm
 ·intro k x p m hk hp hm
  obtain ⟨o,ob,h5,h6,h7,h8⟩:=og k x p hk hp
  exact hf.mine o ob p m h6 h8 hm
 ·intro k p hp
  have hk:=h2.pls k p hp
  rw[hn] at hk
  show (if k<n then G.pl k else _)=some p
  rw[if_pos hk];exact hp
def lH (T:ay):List Nat->(ay->Prop)->Prop
 | [],k=>k []
 | i::l,k=>bA T[i]? fun x=>bA x fun ob=>AS ob/\lH T l fun os=>k (some ob::os)
theorem ye {T:ay}:∀{ids:List Nat} {K:ay->Prop},lH T ids K->∃os,K os/\os.length=ids.length/\∀(k:Nat) (ob':Ob),os[k]?=some (some ob')->∃o,ids[k]?=some o/\T[o]?=some (some ob')/\AS ob'
 | [],K,h=>⟨[],h,rfl,by simp⟩
 | i::l,K,h=>by
  simp only[lH] at h
  cases h1:T[i]? with
  | none=>rw[h1] at h;exact h.elim
  | some x=>
   rw[h1] at h
   cases x with
   | none=>exact h.elim
   | some ob=>
    obtain ⟨h0,h⟩:=h
    obtain ⟨os,h2,h3,h4⟩:=ye h
    refine ⟨some ob::os,h2,by simp[h3],fun k ob' hk=>?_⟩
    rcases k with _ | k
    ·simp at hk;subst hk;exact ⟨i,rfl,h1,h0⟩
    ·exact h4 k ob' (by simpa using hk)
def tG (n:Nat)(d:DV)(T:ay)(K:DV->ay->Prop):Prop:=Aj (eu d)/\clT d/\lH T (eu d) fun os=>K (lK n (eu d) d) os
theorem nS (h:tG n d T K):∃g r' os,VQ n g d T r' os/\K r' os:=by
 obtain ⟨hn,hc,hg⟩:=h
 rw[EO] at hn
 obtain ⟨os,h1,h2,h4⟩:=ye hg
 refine ⟨vA n (eu d),_,os,⟨acV (fun _ h=>h) hc,fun k ob' hk=>?_,fun a b x ha hb=>?_,fun a x ha=>?_⟩,h1⟩
 ·obtain ⟨o,h5,h6,h7⟩:=h4 k ob' hk
  have hm:=List.mem_of_getElem? h5
  refine ⟨o,ob', ?_,h6,aab h7⟩
  show (if o∈eu d then some (n+pos o (eu d)) else none)=some (n+k)
  rw[if_pos hm]
  have h8:=lW hm
  have:pos o (eu d)=k:=(List.getElem?_inj (Ad hm) hn).1 (h8.trans h5.symm)
  rw[this]
 ·unfold vA at ha hb
  by_cases hma:a∈eu d
  case neg=>rw[if_neg hma] at ha;cases ha
  by_cases hmb:b∈eu d
  case neg=>rw[if_neg hmb] at hb;cases hb
  rw[if_pos hma] at ha
  rw[if_pos hmb] at hb
  have e:n+pos a (eu d)=n+pos b (eu d):=(sj ha).trans (sj hb).symm
  have h8:=lW hma
  have h9:=lW hmb
  rw[show pos a (eu d)=pos b (eu d) by omega,h9] at h8
  exact (sj h8).symm
 ·unfold vA at ha
  split at ha
  ·rename_i hm
   have:=Ad hm
   obtain rfl:=sj ha
   exact ⟨by omega,by omega⟩
  ·cases ha
def eZ (E:Prg)(f:Nat)(args:Nat->List DV)(obs:List Ob)(res:Nat->DV × ay):Prop:=
 ∀n,bP E f (args n) (List.replicate n none++obs.map some) fun r T'=>r=(res (n+obs.length)).1/\T'=List.replicate (n+obs.length) none++(res (n+obs.length)).2
theorem eZ.di (hF:FOk E F){f:Nat}{ann:List Ann}{rf:RFn}{args:Nat->List DV}{obs:List Ob}{res:Nat->DV × ay}(hc:aK E.P ann f=some rf)(hargs:∀n,(args n).length<=rf.n)
  (h:∀n,rf.code.wp E F rf.n (j9 rf.res fun d T'=>n+obs.length<=T'.length/\tG (n+obs.length) d T' fun d' os=>wkT d' (res (n+obs.length)).1/\os=(res (n+obs.length)).2) ⟨dY 0 (args n),List.replicate n none++obs.map some⟩):eZ E f args obs res:=by
 intro n
 have hlen:(List.replicate n (none:Option Ob)++obs.map some).length=n+obs.length:=by simp
 have h1:bP E f (args n) (List.replicate n none++obs.map some) fun d T'=>tG (n+obs.length) d T' fun d' os=>wkT d' (res (n+obs.length)).1/\os=(res (n+obs.length)).2:=by
  refine bP.aE hF hc (hargs n) ?_
  refine RC.wp_mono _ (h n) fun e st hh=>?_
  cases e with
  | normal=>
   simp only[j9] at hh ⊢
   split at hh
   ·exact ⟨by rw[hlen];exact hh.1,hh.2⟩
   ·exact hh.elim
  | ret=>
   simp only[j9] at hh ⊢
   split at hh
   ·exact ⟨by rw[hlen];exact hh.1,hh.2⟩
   ·exact hh.elim
  | _=>exact hh
 have h2:bP E f (args n) (List.replicate n none++obs.map some) fun d T'=>wkT d (res (n+obs.length)).1/\T'=List.replicate (n+obs.length) none++(res (n+obs.length)).2:=
  bP.AX hlen h1 fun r T' hr=>by
   obtain ⟨g,r',os,hc,hk1,hk2⟩:=nS hr
   exact ⟨g,r',os,hc,hk1,by rw[hk2]⟩
 intro G w vs g1 g2 g3 g4
 refine Calls.mono (h2 G w vs g1 g2 g3 g4) fun e w' ⟨v,r,T',G',a,⟨hr,hT⟩,hl,dh,hh,hf⟩=>?_
 exact ⟨v,_,T',G',a,⟨rfl,hT⟩,hl,ru hr dh,hh,hf⟩
def pY:List Nat->ay->ay
 | [],T=>T
 | i::l,T=>pY l (T.set i none)
theorem mo:∀(l:List Nat) (T:ay),(pY l T).length=T.length
 | [],T=>rfl
 | i::l,T=>by simp[pY,mo l]
theorem xl:∀(l:List Nat) (T:ay) (k:Nat) (ob:Ob),(pY l T)[k]?=some (some ob)->k∉l/\T[k]?=some (some ob)
 | [],T,k,ob,h=>⟨by simp,h⟩
 | i::l,T,k,ob,h=>by
  obtain ⟨h1,h2⟩:=xl l _ k ob h
  rw[getElem?_set] at h2
  by_cases e:i=k
  ·rw[if_pos e] at h2
   split at h2
   ·simp at h2
   ·cases h2
  ·rw[if_neg e] at h2
   exact ⟨by simp[h1];exact fun h=>e h.symm,h2⟩
def pH (ids:List Nat)(T:ay):ay:=(List.range T.length).map fun k=>if k∈ids then (T[k]?).getD none else none
theorem kQ (ids:List Nat)(T:ay):(pH ids T).length=T.length:=by simp[pH]
theorem nc {k:Nat}{ob:Ob}:(pH ids T)[k]?=some (some ob)↔k∈ids/\T[k]?=some (some ob):=by
 by_cases hk:k<T.length
 ·simp only[pH,List.getElem?_map,List.getElem?_range hk,Option.map_some,Option.some.injEq,List.getElem?_eq_getElem hk,Option.getD_some]
  by_cases hm:k∈ids
  ·simp[hm]
  ·simp[hm]
 ·rw[List.getElem?_eq_none (by rw[kQ];omega),List.getElem?_eq_none (by omega)]
  simp
theorem aj.hand {args:List DV}(ids:List Nat)(obs:List Ob)(hnd:ids.Nodup)(hlen:obs.length=ids.length)
  (hT:∀(i:Nat) o ob,ids[i]?=some o->obs[i]?=some ob->T[o]?=some (some ob)) (adg:∀d∈args,∀o∈eu d,o∈ids) {aao:Nat->List DV} (hargs:args.map (lK T.length ids)=aao T.length) {res:Nat->DV × ay}
  (h:eZ E f aao obs res) (hK:K (res (T.length+ids.length)).1 (pY ids T++(List.replicate ids.length none++(res (T.length+ids.length)).2))):aj E f args T K:=by
 have h0:=h T.length
 rw[<-hargs,hlen] at h0
 refine ⟨pH ids T,fun r T'=>r=(res (T.length+ids.length)).1/\T'=List.replicate (T.length+ids.length) none++(res (T.length+ids.length)).2,kQ _ _,fun k ob hk=>(nc.1 hk).2, ?_, ?_⟩
 ·intro G w vs g1 g2 g3 g4
  let G0:Gh:={ rd:=G.rd,pl:=fun x=>if x<T.length then G.pl x else match ids[x-T.length]? with | some o=>G.pl o | none=>none}
  have hle:G.le G0:=⟨fun _ _ h=>h,fun k p hp=>by
   have:=g2.pls k p hp
   rw[kQ] at this
   simp only[G0]
   rw[if_pos this];exact hp⟩
  have hpl:∀o p,o∈ids->G.pl o=some p->G0.pl (T.length+pos o ids)=some p:=fun o p ho hp=>by
   simp only[G0]
   rw[if_neg (by omega),Nat.add_sub_cancel_left,lW ho]
   exact hp
  have hnew:∀(k:Nat) (ob:Ob),(List.replicate T.length none++obs.map some)[k]?=some (some ob)->∃o,ids[k-T.length]?=some o/\T.length<=k/\(pH ids T)[o]?=some (some ob)/\G0.pl k=G.pl o:=fun k ob hk=>by
   by_cases hlt:k<T.length
   ·rw[List.getElem?_append_left (by simpa using hlt)] at hk;exact (dm hk).elim
   ·rw[List.getElem?_append_right (by simpa using hlt)] at hk
    simp only[List.length_replicate,List.getElem?_map,Option.map_eq_some_iff,Option.some.injEq] at hk
    obtain ⟨ob2,hk,rfl⟩:=hk
    have B0:k-T.length<ids.length:=by rw[<-hlen];exact (List.getElem?_eq_some_iff.1 hk).1
    refine ⟨ids[k-T.length],List.getElem?_eq_getElem B0,by omega,nc.2 ⟨List.getElem_mem _,hT _ _ _ (List.getElem?_eq_getElem B0) hk⟩, ?_⟩
    simp only[G0]
    rw[if_neg hlt,List.getElem?_eq_getElem B0]
  have hH:sU G0 (List.replicate T.length none++obs.map some) w:=by
   refine ⟨fun k p hp=>?_,fun k ob hob=>?_, ?_,g2.rdv, ?_⟩
   ·simp only[G0] at hp
    simp only[List.length_append,List.length_replicate,List.length_map,hlen]
    split at hp
    ·omega
    ·split at hp
     ·rename_i o ho
      have:=(List.getElem?_eq_some_iff.1 ho).1
      omega
     ·cases hp
   ·obtain ⟨o,h1,h2,h3,h4⟩:=hnew k ob hob
    obtain ⟨p,hp,hl⟩:=g2.live o ob h3
    exact ⟨p,h4.trans hp,hl.mono hle (fun _ _=>rfl) (fun _ _=>rfl) (fun _ h=>h)⟩
   ·intro k k' r r' p p' i i' h1 h2 hne hp hp' hi hi'
    obtain ⟨o,a1,a2,a3,a4⟩:=hnew k r h1
    obtain ⟨o',b1,b2,b3,b4⟩:=hnew k' r' h2
    refine g2.sep o o' r r' p p' i i' a3 b3 (fun e=>?_) (a4.symm.trans hp) (b4.symm.trans hp') hi hi'
    subst e
    have:=w9 hnd a1 b1
    omega
   ·intro k r p i hk hp hi
    obtain ⟨o,a1,a2,a3,a4⟩:=hnew k r hk
    exact g2.rds o r p i a3 (a4.symm.trans hp) hi
  have hsub:∀x,cellsOf G0 (List.replicate T.length none++obs.map some) x->cellsOf G (pH ids T) x:=fun x ⟨k,ob,p,m,h1,h2,h3,h4⟩=>by
   obtain ⟨o,a1,a2,a3,a4⟩:=hnew k ob h1
   exact ⟨o,ob,p,m,a3,a4.symm.trans h2,h3,h4⟩
  refine Calls.mono (h0 G0 w vs (fun g row hg=>(g1 g row hg).mono hle) hH (by simpa using g3) (fun i d hd=>?_)) fun e w' ⟨v,r,T',G',a,hr,hl,dh,hh,hf⟩=>?_
  ·rw[List.getElem?_map,Option.map_eq_some_iff] at hd
   obtain ⟨d0,hd0,rfl⟩:=hd
   exact Ie hle hpl (fun o ho=>adg d0 (List.mem_of_getElem? hd0) o ho) (g4 i d0 hd0)
  ·refine ⟨v,r,T',G',a,hr,by rw[kQ];rw[hr.2];simp;omega,dh,hh,⟨hf.os,hf.tape,hf.output,hf.size,fun b hb hn=>hf.blk b hb fun o ho=>hn o (hsub _ ho),fun x hx hn=>hf.cell x hx fun ho=>hn (hsub _ ho),
    fun x v hx hn=>hf.frz x v hx fun ho=>hn (hsub _ ho),fun k ob p m h1 h2 h3=>?_,fun x v hx=>?_,hle.trans hf.le,hf.mko⟩⟩
   ·rcases hf.mine k ob p m h1 h2 h3 with h4 | h4
    ·exact .inl h4
    ·exact .inr (hsub _ h4)
   ·rcases hf.rdn x v hx with h4 | h4 | h4
    ·exact .inl h4
    ·exact .inr (.inl h4)
    ·exact .inr (.inr (hsub _ h4))
 ·rintro r T1' ⟨rfl,rfl⟩ _
  refine ⟨_,⟨by simp[mo];omega,kQ _ _,fun k ob hk=>(nc.1 hk).2,fun k ob ob' h1 h2=>?_,fun k ob' hlt _ h2=>?_,fun k ob' hge h2=>?_⟩,hK⟩
  ·obtain ⟨h3,h4⟩:=nc.1 h1
   have hlt:=(List.getElem?_eq_some_iff.1 h4).1
   rw[List.getElem?_append_left (by rw[mo];exact hlt)] at h2
   exact absurd h3 (xl _ _ _ _ h2).1
  ·rw[List.getElem?_append_left (by rw[mo];exact hlt)] at h2
   exact .inl (xl _ _ _ _ h2).2
  ·rw[List.getElem?_append_right (by rw[mo];exact hge),mo] at h2
   rw[<-List.replicate_append_replicate,List.append_assoc,List.getElem?_append_right (by simpa using hge)]
   simpa using h2
def pZ (k:IntKind)(n:Nat):Option (Option Ob)->Prop
 | some (some (.arr sz rows))=>sz=1/\rows=af k (ints rows)/\rows.length=n/\inK k (ints rows)
 | _=>False
def cK:Option (Option Ob)->List Int
 | some (some (.arr _ rows))=>ints rows
 | _=> []
theorem sH {k:IntKind}{x:Option (Option Ob)}(h:pZ k n x):x=some (some (.arr 1 (af k (cK x))))/\(cK x).length=n/\inK k (cK x):=by
 unfold pZ at h
 split at h
 ·obtain ⟨rfl,h1,h2,h3⟩:=h
  refine ⟨by simp only[cK];rw[<-h1], ?_,h3⟩
  simp only[cK]
  rw[<-h2];simp[ints]
 ·exact h.elim
theorem Ov (k:IntKind)(n:Nat)(l:List Int):pZ k n (some (some (.arr 1 (af k l))))=(l.length=n/\inK k l):=by simp[pZ,eG,jI]
theorem G9 (k:IntKind)(sz:Nat)(l:List Int):cK (some (some (.arr sz (af k l))))=l:=by simp[cK,eG]
theorem KC (T:ay)(k:ay->Prop):lH T [] k=k []:=ak _
theorem HJ (T:ay)(i:Nat)(l:List Nat)(k:ay->Prop):lH T (i::l) k=(bA T[i]? fun x=>bA x fun ob=>AS ob/\lH T l fun os=>k (some ob::os)):=ak _
theorem L6 (n:Nat)(d:DV)(T:ay)(K:DV->ay->Prop):tG n d T K=(Aj (eu d)/\clT d/\lH T (eu d) fun os=>K (lK n (eu d) d) os):=ak _
theorem Ou (T:ay):pY [] T=T:=ak _
theorem Kv (i:Nat)(l:List Nat)(T:ay):pY (i::l) T=pY l (T.set i none):=ak _
theorem av.zk {args:List DV}{s:Nat}(h:av E f args fun n r os=>r=.sl s [] .nil/\os=[]):av E f args fun n r os=>r=.own n 0 0/\os=[some (.arr sz [])]:=by
 intro n G w vs g1 g2 g3 g4
 refine Calls.mono (h n G w vs g1 g2 g3 g4) fun e w' ⟨v,r,T',G',a,⟨os,hT,hr,hos⟩,hl,dh,hh,hf⟩=>?_
 subst hr hos
 rw[List.append_nil] at hT
 subst hT
 have hr:dz E ⟨w,G,cellsOf G (List.replicate n none),1⟩ G' ⟨[(0,.sl s [] .nil)],List.replicate n none⟩ ⟨#[v],[]⟩ w':=by
  refine ⟨fun t=>?_,rfl,rfl,hh,hf.ctx,fun g row hg=>(g1 g row hg).mono hf.le⟩
  by_cases e:t=0
  ·subst e;exact dh
  ·have:St.get ⟨[(0,.sl s [] .nil)],List.replicate n none⟩ t=.undef:=by
    simp only[St.get,St.look]
    rw[if_neg (fun h=>e h.symm)]
   rw[this];exact .undef _
 have h2:=hr.Ai sz
 refine ⟨v,.own n 0 0,List.replicate n none++ [some (.arr sz [])],G'.more n ⟨0,0,sz,0⟩,a,⟨_,rfl,rfl,rfl⟩,by simp, ?_, ?_, ?_⟩
 ·cases dh with
  | sl _ _ _ p len cap b' o vals h5 h6 h7 h8 _ _ _=>
   have hl:len=0:=by simpa using h5
   subst hl
   have hc0:cap=0:=h6.2
   subst hc0
   exact .own _ 0 0 ⟨0,0,sz,0⟩ p 0 (by simp[Gh.more]) rfl (Nat.le_refl _) (fun h=>by omega)
 ·have:=h2.heap
  simpa using this
 ·have:=h2.frm.ctx (m:=0)
  simpa using this
def ldV (ag:Bool)(sz:Nat)(T:ay):DV->Option DV
 | .ptr o i j=>(T[o]?).bind fun x=>x.bind fun ob=>(ob.rows[i]?).bind fun row=>rowAt ag sz row j
 | .rp row j=>rowAt ag sz row j
 | _=>none
theorem acU (st:St)(i:Nat)(ag:Bool)(sz:Nat):Res.ev st (.c i ag sz)=ldV ag sz st.au (st.get i):=by
 simp only[Res.ev,ldV]
 generalize st.get i=d
 cases d <;> try rfl
 rename_i o r j
 simp only
 cases st.au[o]? with
 | none=>rfl
 | some x=>
  cases x with
  | none=>rfl
  | some ob=>
   simp only[Option.bind_some]
   cases ob.rows[r]? <;> rfl
theorem Yr (ag:Bool)(sz:Nat)(T:ay)(o i j:Nat):ldV ag sz T (.ptr o i j)=(T[o]?).bind fun x=>x.bind fun ob=>(ob.rows[i]?).bind fun row=>rowAt ag sz row j:=ak _
theorem abh (ag:Bool)(sz:Nat)(T:ay)(row:List DV)(j:Nat):ldV ag sz T (.rp row j)=rowAt ag sz row j:=ak _
def vC:DV->List Nat
 | .tup cs=>cs.flatMap jZ
 | d=>jZ d
def Y9 (st:St)(K:DV->ay->Prop):Prop:=K (st.get 0) st.au
def Y7 (d:DV)(T:ay)(K:DV->ay->Prop):Prop:=Y9 (St.fT (vC d) ⟨[(0,d)],T⟩) K
theorem Mm (d:DV)(T:ay)(K:DV->ay->Prop):Y7 d T K=Y9 (St.fT (vC d) ⟨[(0,d)],T⟩) K:=ak _
theorem Y8 (d:DV)(T:ay)(K:DV->ay->Prop):Y9 ⟨[(0,d)],T⟩ K=K d T:=ak _
theorem N0 (cs:List DV):vC (.tup cs)=cs.flatMap jZ:=ak _
theorem N1 (o off n:Nat):vC (.own o off n)=[o]:=ak _
theorem N2 (cs:List DV):vC (.agg cs)=jZ (.agg cs):=ak _
theorem Sf (sz:Nat)(rows:List (List DV))(k:SK):vC (.sl sz rows k)=[]:=ak _
theorem Kb (k:IntKind)(n:Int):jZ (.int k n)=[]:=ak _
theorem GU (b:Bool):jZ (.bool b)=[]:=ak _
theorem J8 (b:List UInt8):jZ (.str b)=[]:=ak _
theorem J9 (o i j:Nat):jZ (.ptr o i j)=[]:=ak _
theorem KF (o:Nat)(st:St):(st.freeze o).au.length=st.au.length:=by
 unfold St.freeze
 split
 ·split <;> simp
 ·rfl
theorem yf:∀(l:List Nat) (st:St),(St.fT l st).au.length=st.au.length
 | [],st=>rfl
 | o::l,st=>by rw[St.fT,yf l,KF]
theorem bP.frz {args:List DV}(h:bP E f args T R):bP E f args T fun r T'=>∃d T0,R d T0/\r=(St.fT (vC d) ⟨[(0,d)],T0⟩).get 0/\T'=(St.fT (vC d) ⟨[(0,d)],T0⟩).au:=by
 intro G w vs g1 g2 g3 g4
 refine Calls.mono (h G w vs g1 g2 g3 g4) fun e w' ⟨v,r,T',G',a,hR,hl,dh,hh,hf⟩=>?_
 have hr:ei E ⟨w,G,cellsOf G T,1⟩ ⟨[(0,r)],T'⟩ ⟨#[v],[]⟩ w':=by
  refine ⟨G',fun t=>?_,rfl,rfl,hh,hf.ctx,fun g row hg=>(g1 g row hg).mono hf.le⟩
  by_cases e:t=0
  ·subst e;exact dh
  ·have:St.get ⟨[(0,r)],T'⟩ t=.undef:=by
    simp only[St.get,St.look]
    rw[if_neg (fun h=>e h.symm)]
   rw[this];exact .undef _
 obtain ⟨G2,h2⟩:=hr.fT (vC r)
 refine ⟨v,_,_,G2,a,⟨r,T',hR,rfl,rfl⟩,by rw[yf];exact hl,h2.env 0,h2.heap,h2.frm.ctx⟩
theorem eZ.iR (hF:FOk E F){f:Nat}{ann:List Ann}{rf:RFn}{args:Nat->List DV}{obs:List Ob}{res:Nat->DV × ay}(hc:aK E.P ann f=some rf)(hargs:∀n,(args n).length<=rf.n)
  (h:∀n,rf.code.wp E F rf.n (j9 rf.res fun d T'=>n+obs.length<=T'.length/\Y7 d T' fun d T'=>tG (n+obs.length) d T' fun d' os=>wkT d' (res (n+obs.length)).1/\os=(res (n+obs.length)).2) ⟨dY 0 (args n),List.replicate n none++obs.map some⟩):eZ E f args obs res:=by
 intro n
 have hlen:(List.replicate n (none:Option Ob)++obs.map some).length=n+obs.length:=by simp
 have h1:bP E f (args n) (List.replicate n none++obs.map some) fun d T'=>Y7 d T' fun d T'=>tG (n+obs.length) d T' fun d' os=>wkT d' (res (n+obs.length)).1/\os=(res (n+obs.length)).2:=by
  refine bP.aE hF hc (hargs n) ?_
  refine RC.wp_mono _ (h n) fun e st hh=>?_
  cases e with
  | normal=>
   simp only[j9] at hh ⊢
   split at hh
   ·exact ⟨by rw[hlen];exact hh.1,hh.2⟩
   ·exact hh.elim
  | ret=>
   simp only[j9] at hh ⊢
   split at hh
   ·exact ⟨by rw[hlen];exact hh.1,hh.2⟩
   ·exact hh.elim
  | _=>exact hh
 have h2:bP E f (args n) (List.replicate n none++obs.map some) fun d T'=>wkT d (res (n+obs.length)).1/\T'=List.replicate (n+obs.length) none++(res (n+obs.length)).2:=
  bP.AX hlen h1.frz fun r T' ⟨d,T0,hr,hd,hT⟩=>by
   subst hd hT
   rw[Mm] at hr
   unfold Y9 at hr
   obtain ⟨g,r',os,hc,hk1,hk2⟩:=nS hr
   exact ⟨g,r',os,hc,hk1,by rw[hk2]⟩
 intro G w vs g1 g2 g3 g4
 refine Calls.mono (h2 G w vs g1 g2 g3 g4) fun e w' ⟨v,r,T',G',a,⟨hr,hT⟩,hl,dh,hh,hf⟩=>?_
 exact ⟨v,_,T',G',a,⟨rfl,hT⟩,hl,ru hr dh,hh,hf⟩
theorem av.iR (hF:FOk E F){f:Nat}{ann:List Ann}{rf:RFn}{args:List DV}{res:Nat->DV × ay}(hc:aK E.P ann f=some rf)(hargs:args.length<=rf.n)
  (h:∀n,rf.code.wp E F rf.n (j9 rf.res fun d T'=>n<=T'.length/\Y7 d T' fun d T'=>tG n d T' fun d' os=>wkT d' (res n).1/\os=(res n).2) ⟨dY 0 args,List.replicate n none⟩):av E f args fun n r os=>r=(res n).1/\os=(res n).2:=by
 intro n
 have h1:bP E f args (List.replicate n none) fun r T'=>r=(res n).1/\T'=List.replicate n none++(res n).2:=by
  have:=eZ.iR (args:=fun _=>args) (obs:=[]) (res:=res) hF hc (fun _=>hargs) (fun n=>by simpa using h n) n
  simpa using this
 exact h1.mono fun r T' ⟨h2,h3⟩=>⟨_,h3,h2,rfl⟩
def j8 (d d':DV):Prop:=∀o,DV.id d=some o->DV.id d'≠some o
theorem DG {op:ROp}{x p:Opd}(h:op.cZ=[x]):jb E st op p=j8 (Opd.ev E st x) (Opd.ev E st p):=by simp[jb,h,j8]
theorem E6 (E:Prg)(st:St)(ag:Bool)(sz:Nat)(x p:Opd):jb E st (.load ag sz x) p=j8 (Opd.ev E st x) (Opd.ev E st p):=DG rfl
theorem Ic (E:Prg)(st:St)(x p:Opd):jb E st (.conv .b2s x) p=j8 (Opd.ev E st x) (Opd.ev E st p):=DG rfl
theorem B7 (E:Prg)(st:St)(sz:Nat)(x y p:Opd):jb E st (.aT sz x y) p=(j8 (Opd.ev E st x) (Opd.ev E st p)/\j8 (Opd.ev E st y) (Opd.ev E st p)):=by simp[jb,ROp.cZ,j8]
theorem YL (o i j o' i' j':Nat):j8 (.ptr o i j) (.ptr o' i' j')=¬o=o':=by simp[j8,DV.id];exact ⟨fun h e=>h e.symm,fun h e=>h e.symm⟩
theorem YM (o i j o' i' j':Nat):j8 (.ptr o i j) (.own o' i' j')=¬o=o':=by simp[j8,DV.id];exact ⟨fun h e=>h e.symm,fun h e=>h e.symm⟩
theorem YN (o i j o' i' j':Nat):j8 (.own o i j) (.ptr o' i' j')=¬o=o':=by simp[j8,DV.id];exact ⟨fun h e=>h e.symm,fun h e=>h e.symm⟩
theorem YO (o i j o' i' j':Nat):j8 (.own o i j) (.own o' i' j')=¬o=o':=by simp[j8,DV.id];exact ⟨fun h e=>h e.symm,fun h e=>h e.symm⟩
theorem YJ (sz:Nat)(rows:List (List DV))(k:SK)(d:DV):j8 (.sl sz rows k) d=True:=by simp[j8,DV.id]
theorem YK (row:List DV)(j:Nat)(d:DV):j8 (.rp row j) d=True:=by simp[j8,DV.id]
theorem To (k:IntKind)(n:Int)(d:DV):j8 (.int k n) d=True:=by simp[j8,DV.id]
theorem Tn (sz:Nat)(rows:List (List DV))(k:SK)(d:DV):j8 d (.sl sz rows k)=True:=by simp[j8,DV.id]
def iT:=J @Mm<|J @Y8<|J @N0<|J @N1<|J @N2<|J @Sf<|J @Kb<|J @GU<|J @J8<|@J9
def iQ:=J @E6<|J @Ic<|J @B7<|J @YL<|J @YM<|J @YN<|J @YO<|J @YJ<|J @YK<|J @To<|@Tn
def gw:=J @acU<|J @Yr<|J @abh<|J @Ov<|J @G9<|J @KC<|J @HJ<|J @L6<|J @Ou<|@Kv
section
section
variable (E:Prg) (F:dW) (K:St->Prop) (st:St) (dst:Option Nat) (z:Bool) (f:Nat) (args:List Opd)
theorem Xh (dr:Bool)(y:Opd)(name:String):stV E F dr (.inv y name args) dst z st K=ET E F dr (Dq E st.au (Opd.ev E st y) name) (args.map (Opd.ev E st)) st.au fun d T'=>eA (nx st (d,T') z dst) K:=ak _
theorem aaY (op:ROp)(k:OT):(OT.mid ⟨dst,op,none,z⟩ k).wp E F K st=stV E F false op dst z st (k.wp E F K):=ak _
theorem X5 (op:ROp)(t:Nat)(w:Bool)(k:OT):(OT.mid ⟨dst,op,some (t,w),z⟩ k).wp E F K st=ow (st.get t) (fun b=>cnd (b==w) (eA (st.xk t w) fun st=>stV E F false op dst z st (k.wp E F K)) (eA ((st.xk t (!w)).put dst .no) (k.wp E F K))) (eA (st.put dst .no) (k.wp E F K)):=ak _
theorem Xl (dr:Bool)(g:Bool)(ks:List CK)(x y:Opd):stV E F dr (.eqS g ks x y) dst z st K=bA (rvl E st (.eqS g ks x y)) fun p=>eA (nx st p z dst) K:=cI E F K st dst (.eqS g ks x y) z dr rfl
theorem Rd (dr:Bool)(sz:Nat)(x y:Opd):stV E F dr (.copy sz x y) dst z st K=bA (rvl E st (.copy sz x y)) fun p=>eA (nx st p z dst) K:=cI E F K st dst (.copy sz x y) z dr rfl
theorem Q9 (dr:Bool)(l:List Opd):stV E F dr (.xg f l) dst z st K=bA (rvl E st (.xg f l)) fun p=>eA (nx st p z dst) K:=cI E F K st dst (.xg f l) z dr rfl
theorem Nh (dr:Bool)(t:TypeId)(x:Opd):stV E F dr (.tg t x) dst z st K=bA (rvl E st (.tg t x)) fun p=>eA (nx st p z dst) K:=cI E F K st dst (.tg t x) z dr rfl
theorem Rf (dr:Bool)(t:TypeId)(x:Opd):stV E F dr (.B9 t x) dst z st K=bA (rvl E st (.B9 t x)) fun p=>eA (nx st p z dst) K:=cI E F K st dst (.B9 t x) z dr rfl
theorem Xm (dr:Bool)(g:Bool)(x y:Opd):stV E F dr (.eqP g x y) dst z st K=bA (rvl E st (.eqP g x y)) fun p=>eA (nx st p z dst) K:=cI E F K st dst (.eqP g x y) z dr rfl
theorem XF (g:Bool)(x y:Opd):rvl E st (.eqP g x y)=(Oh (x.ev E st) (y.ev E st)).map fun b=>(.bool (if g then !b else b),st.au):=ak _
theorem SI (o i j:Nat):Oh (.ptr o i j) (.lit (.pointer none))=some false:=ak _
theorem Yi (row:List DV)(j:Nat):Oh (.rp row j) (.lit (.pointer none))=some false:=ak _
theorem SJ:Oh (.lit (.pointer none)) (.lit (.pointer none))=some true:=ak _
theorem Ow (d:DV)(as:List DV)(T:ay)(L:DV->ay->Prop):ET E F false (some (f,d)) as T L=(fR E.P f=true/\jy E (F f (d::as)) false f (d::as) T L):=ak _
theorem aX (cs as:List DV)(T:ay)(L:DV->ay->Prop):mL E F false (.wrap (.clo f) cs) as T L=(fR E.P f=true/\jy E (F f (as++cs)) false f (as++cs) T L):=ak _
theorem Ox (T:ay)(t:TypeId)(x:DV)(name:String):Dq E T (.wrap (.ifc t) [x]) name=tU T x (ko E.P t name):=ak _
theorem Oy (T:ay)(t:TypeId)(cs:List DV)(name:String):Dq E T (.wrap (.ifa t) cs) name=tU T (.agg cs) (ko E.P t name):=ak _
theorem Hy (T:ay)(d:DV)(way:Option (Bool × Nat)):tU T d (some (f,way))=(kq T way d).map fun x=>(f,x):=ak _
theorem EU (T:ay)(d:DV):kq T none d=some d:=ak _
theorem Hz (T:ay)(ag:Bool)(sz o i j:Nat):kq T (some (ag,sz)) (.ptr o i j)=(T[o]?).bind fun x=>x.bind fun ob=>(ob.rows[i]?).bind fun row=>rowAt ag sz row j:=by
 simp only[kq]
 generalize T[o]?=x
 rcases x with _ | _ | ob <;> try rfl
 simp only[Option.bind]
 generalize ob.rows[i]?=y
 cases y <;> rfl
theorem Kx (T:ay)(ag:Bool)(sz j:Nat)(row:List DV):kq T (some (ag,sz)) (.rp row j)=rowAt ag sz row j:=ak _
theorem Rr (l:List Opd):rvl E st (.xg f l)=some (.wrap (.clo f) (l.map (Opd.ev E st)),st.au):=ak _
def qG (t:TypeId):DV->DV
 | .agg cs=> .wrap (.ifa t) cs
 | d=> .wrap (.ifc t) [d]
theorem Nt (t:TypeId)(x:Opd):rvl E st (.tg t x)=some (qG t (x.ev E st),st.au):=by
 simp only[rvl,rval]
 cases x.ev E st <;> rfl
theorem Kq (t:TypeId)(cs:List DV):qG t (.agg cs)=.wrap (.ifa t) cs:=ak _
theorem Kn (t:TypeId)(o i j:Nat):qG t (.ptr o i j)=.wrap (.ifc t) [.ptr o i j]:=ak _
theorem Om (t:TypeId)(row:List DV)(j:Nat):qG t (.rp row j)=.wrap (.ifc t) [.rp row j]:=ak _
theorem Kp (t:TypeId)(k:IntKind)(n:Int):qG t (.int k n)=.wrap (.ifc t) [.int k n]:=ak _
theorem Km (t:TypeId)(s:List UInt8):qG t (.str s)=.wrap (.ifc t) [.str s]:=ak _
theorem Ko (t:TypeId)(o i j:Nat):qG t (.own o i j)=.wrap (.ifc t) [.own o i j]:=ak _
theorem Ol (t:TypeId)(s:Nat)(rows:List (List DV))(k:SK):qG t (.sl s rows k)=.wrap (.ifc t) [.sl s rows k]:=ak _
def DJ (t:TypeId):DV->Option DV
 | .wrap (.ifc t') [d]=>if t'=t then some d else none
 | .wrap (.ifa t') cs=>if t'=t then some (.agg cs) else none
 | _=>none
theorem Ry (t:TypeId)(x:Opd):rvl E st (.B9 t x)=(DJ t (x.ev E st)).map (·,st.au):=by
 simp only[rvl,rval]
 generalize x.ev E st=d
 unfold DJ
 split
 ·dsimp only;split <;> rfl
 ·dsimp only;split <;> rfl
 ·rename_i h1 h2
  split
  ·exact (h1 _ _ rfl).elim
  ·exact (h2 _ _ rfl).elim
  ·rfl
theorem Pz (t:TypeId)(d:DV):DJ t (.wrap (.ifc t) [d])=some d:=by simp[DJ]
theorem PA (t:TypeId)(cs:List DV):DJ t (.wrap (.ifa t) cs)=some (.agg cs):=by simp[DJ]
def adw (ks:List CK):DV->DV->Option Bool
 | .agg a,.agg b=>gB ks a b
 | _,_=>none
theorem XE (neg:Bool)(ks:List CK)(x y:Opd):rvl E st (.eqS neg ks x y)=(adw ks (x.ev E st) (y.ev E st)).map fun e=>(.bool (if neg then !e else e),st.au):=by
 simp only[rvl,rval]
 cases x.ev E st <;> cases y.ev E st <;> rfl
theorem Ub (ks:List CK)(a b:List DV):adw ks (.agg a) (.agg b)=gB ks a b:=ak _
theorem Zh:gB [] [] []=some true:=ak _
theorem adx (ks:List CK)(k:IntKind)(a b:Int)(x y:List DV):gB (.i::ks) (.int k a::x) (.int k b::y)=(gB ks x y).map (decide (a=b) && ·):=by simp[gB]
theorem ady (ks:List CK)(a b:Bool)(x y:List DV):gB (.b::ks) (.bool a::x) (.bool b::y)=(gB ks x y).map (decide (a=b) && ·):=by simp[gB]
def Uf (sz o off n:Nat)(au:ay)(a:Nat × List (List DV)):Ob->Option (DV × ay)
 | .arr s rows=>if off+n<=rows.length/\s=sz/\(a.1=sz\/a.2=[]) then some (.int .i64 (min a.2.length n:Nat),au.set o (some (.arr sz (rows.take off++a.2.take (min a.2.length n)++rows.drop (off+min a.2.length n))))) else none
 | _=>none
def copyV (sz:Nat)(au:ay):DV->Option (Nat × List (List DV))->Option (DV × ay)
 | .own o off n,some a=>(au[o]?).bind fun x=>x.bind (Uf sz o off n au a)
 | _,_=>none
theorem Rx (sz:Nat)(x y:Opd):rvl E st (.copy sz x y)=copyV sz st.au (x.ev E st) (rowsOf st (y.ev E st)):=by
 simp only[rvl,rval]
 generalize rowsOf st (y.ev E st)=a
 cases x.ev E st <;> cases a <;> try rfl
 rename_i o off n a
 obtain ⟨s2,new⟩:=a
 simp only[copyV]
 generalize st.au[o]?=x
 rcases x with _ | _ | ob <;> try rfl
 cases ob <;> rfl
theorem O5 (sz:Nat)(au:ay)(o off n:Nat)(a:Nat × List (List DV)):copyV sz au (.own o off n) (some a)=(au[o]?).bind fun x=>x.bind (Uf sz o off n au a):=ak _
theorem O6 (sz o off n:Nat)(au:ay)(a:Nat × List (List DV))(s:Nat)(rows:List (List DV)):Uf sz o off n au a (.arr s rows)=if off+n<=rows.length/\s=sz/\(a.1=sz\/a.2=[]) then some (.int .i64 (min a.2.length n:Nat),au.set o (some (.arr sz (rows.take off++a.2.take (min a.2.length n)++rows.drop (off+min a.2.length n))))) else none:=ak _
end
def adT (E:Prg)(f:Nat)(vals:List DV)(T:ay)(K:DV->ay->Prop) [Tg K] (_:True:=trivial):Prop:=aj E f vals T K
theorem ZL (E:Prg)(f:Nat)(as:List DV)(T:ay)(L:DV->ay->Prop):jy E none false f as T L=adT E f as T L:=ak _
def WpH (E:Prg)(F:dW)(n:Nat)(c:RC)(Q:Exit->St->Prop)(st:St) [Tg Q] [Tg c] (_:True:=trivial):Prop:=c.wp E F n Q st
theorem Xb (f:Nat)(as:List DV):tab [] f as=none:=ak _
theorem NM (st:St):e7 st []=some (.tup []):=ak _
def adX:=J @ZL<|J @Xb<|@NM
def acN:=J @Xh<|J @Xm<|J @XF<|J @SI<|J @Yi<|J @SJ<|J @Xl<|J @Rd<|J @Q9<|J @Nh<|J @Rf<|J @aaY<|J @X5<|J @Ow<|J @aX<|J @Ox<|J @Oy<|J @Hy<|J @EU<|J @Hz<|J @Kx<|J @Rr<|J @Nt<|J @Kq<|J @Kn<|J @Om<|J @Kp<|J @Km<|J @Ko<|J @Ol<|J @Ry<|J @Pz<|J @PA<|J @XE<|J @Ub<|J @Zh<|J @adx<|J @ady<|J @Rx<|J @O5<|J @O6<|J @ZJ<|J @adF<|@Xr
end
def Mx (T T2:ay):Prop:=T2.length=T.length/\∀(k:Nat) (ob2:Ob),T2[k]?=some (some ob2)->∃ob,T[k]?=some (some ob)/\ob2.sz=ob.sz/\∃m,ob2.rows=ob.rows.take m
theorem Mx.refl (T:ay):Mx T T:=⟨rfl,fun k ob h=>⟨ob,h,rfl,ob.rows.length,by rw[List.take_length]⟩⟩
theorem Mx.arr {s:Nat}{rows:List (List DV)}(m:Nat)(h:T[q]?=some (some (.arr s rows))):Mx T (T.set q (some (.arr s (rows.take m)))):=by
 have hlt:q<T.length:=(List.getElem?_eq_some_iff.1 h).1
 refine ⟨by simp,fun k ob2 hk=>?_⟩
 by_cases e:q=k
 ·subst e
  rw[List.getElem?_set_self hlt] at hk
  obtain rfl:=sj (sj hk)
  exact ⟨_,h,rfl,m,rfl⟩
 ·rw[List.getElem?_set_ne e] at hk
  exact ⟨ob2,hk,rfl,ob2.rows.length,by rw[List.take_length]⟩

theorem bl {α:Type}(T l:List α)(i:Nat):(T++l)[T.length+i]?=l[i]?:=by rw[List.getElem?_append_right (by omega)];congr 1;omega
theorem aZ {α:Type}(T l:List α)(a:α):(T++a::l)[T.length]?=some a:=by simp
theorem LV {α:Type}(T l:List α)(i:Nat)(y:α):(T++l).set (T.length+i) y=T++l.set i y:=by
 rw[List.set_append_right _ _ (by omega)];congr 2;omega
theorem LW {α:Type}(T l:List α)(a y:α):(T++a::l).set T.length y=T++y::l:=by
 rw[List.set_append_right _ _ (Nat.le_refl _)];simp
theorem Q0 {α:Type}(T l:List α)(o i:Nat)(x:α):(T.set o x++l)[T.length+i]?=l[i]?:=by
 have:=bl (T.set o x) l i;rwa [List.length_set] at this
theorem Gd {α:Type}(T l:List α)(o:Nat)(x a:α):(T.set o x++a::l)[T.length]?=some a:=by
 have:=aZ (T.set o x) l a;rwa [List.length_set] at this
theorem QY {α:Type}(T l:List α)(o i:Nat)(x y:α):(T.set o x++l).set (T.length+i) y=T.set o x++l.set i y:=by
 have:=LV (T.set o x) l i y;rwa [List.length_set] at this
theorem QZ {α:Type}(T l:List α)(o:Nat)(x a y:α):(T.set o x++a::l).set T.length y=T.set o x++y::l:=by
 have:=LW (T.set o x) l a y;rwa [List.length_set] at this
theorem eI {α:Type}{T:List α}{x:α}(h:T[q]?=some x):q<T.length:=(List.getElem?_eq_some_iff.1 h).1
theorem hO {α:Type}{T:List α}{x:α}(h:T[q]?=some x)(l:List α):(T++l)[q]?=some x:=by
 rw[List.getElem?_append_left (eI h)];exact h
theorem Q2 {α:Type}{T:List α}{x:α}(h:T[q]?=some x)(l:List α)(y:α):(T++l).set q y=T.set q y++l:=List.set_append_left _ _ (eI h)
theorem bZ {α:Type}{T:List α}{x:α}(h:T[q]?=some x)(y:α):(T.set q y)[q]?=some y:=List.getElem?_set_self (eI h)
theorem Jt {α:Type}{T:List α}{x:α}(h:T[q]?=some x)(y:α)(l:List α):(T.set q y++l)[q]?=some y:=hO (bZ h y) l
theorem Q1 {α:Type}{T:List α}{x:α}(h:T[q]?=some x)(z y:α)(l:List α):(T.set q z++l).set q y=T.set q y++l:=by
 rw[Q2 (bZ h z),List.set_set]
theorem bn {α:Type}{T:List α}{k j:Nat}{x:α}(h:T[k]?=some x)(y:α)(hne:k≠j):(T.set j y)[k]?=some x:=by rw[List.getElem?_set_ne (Ne.symm hne)];exact h
def idO (E:Prg)(st:St)(p:Opd):Option Opd->Prop
 | none=>True
 | some y=>j8 (Opd.ev E st y) (Opd.ev E st p)
theorem Tm (E:Prg)(st:St)(p:Opd):idO E st p none=True:=ak _
theorem Tl (E:Prg)(st:St)(p y:Opd):idO E st p (some y)=j8 (Opd.ev E st y) (Opd.ev E st p):=ak _
theorem B6 (E:Prg)(st:St)(sz:Nat)(x p:Opd)(lo hi mx:Option Opd):jb E st (.slice sz x lo hi mx) p=(j8 (Opd.ev E st x) (Opd.ev E st p)/\idO E st p lo/\idO E st p hi/\idO E st p mx):=by
 cases lo <;> cases hi <;> cases mx <;> simp[jb,ROp.cZ,qA,j8,idO]
def Q3:=J @Tm<|J @Tl<|@B6
def ah:=J @Q3<|J @bl<|J @aZ<|J @LV<|J @LW<|J @Q0<|J @Gd<|J @QY<|@QZ
theorem ai {x:Option Ob}(h:T[q]?=some x):type_of% (And.intro h <| And.intro (hO h) <| And.intro (Q2 h) <| And.intro (bZ h) <| And.intro (Jt h) <| Q1 h):=
 And.intro h <| And.intro (hO h) <| And.intro (Q2 h) <| And.intro (bZ h) <| And.intro (Jt h) <| Q1 h
def ax (T T':ay)(ids:List Nat):Prop:=T.length<=T'.length/\∀(k:Nat) ob,k∉ids->T[k]?=some (some ob)->T'[k]?=some (some ob)
theorem ax.refl (T:ay)(ids:List Nat):ax T T ids:=⟨Nat.le_refl _,fun _ _ _ h=>h⟩
theorem ax.app (T l:ay)(ids:List Nat):ax T (T++l) ids:=⟨by simp,fun _ _ _ h=>hO h l⟩
theorem ax.trans {C:ay}{i j k:List Nat}(h1:ax A B i)(h2:ax B C j)(hi:∀x∈i,x∈k)(hj:∀x∈j,x∈k\/A.length<=x):ax A C k:=
 ⟨Nat.le_trans h1.1 h2.1,fun x ob hx ha=>h2.2 x ob (fun hm=>by
  rcases hj x hm with h | h
  ·exact hx h
  ·have:=eI ha;omega) (h1.2 x ob (fun hm=>hx (hi x hm)) ha)⟩
theorem ax.new {C:ay}{j:List Nat}(h1:ax A B [])(h2:ax B C j)(hj:∀x∈j,A.length<=x):ax A C []:=h1.trans h2 (by simp) fun x hx=> .inr (hj x hx)
theorem ax.dU (h1:ax A B [])(l:ay):ax A (B++l) []:=h1.trans (ax.app B l []) (by simp) (by simp)
theorem ax.at {i:List Nat}(h:ax A B i){k:Nat}{ob:Ob}(ha:A[k]?=some (some ob))(hk:k∉i):B[k]?=some (some ob):=h.2 k ob hk ha
section
open Go.RowKit Go.ChangeShapes Go.WideShapes
theorem O7 {k:IntKind}(h:yP (.sl [.int k]) d):∃l,d=.sl 1 (af k l) .any/\(∀n∈l,k.min<=n/\n<=k.max):=by
 cases h with
 | sl row rows h1 h2 h3=>
  refine ⟨ints rows, ?_, ?_⟩
  ·congr 1
   have:∀R:List (List DV),(∀r∈R,r.length=1)->(∀r∈R,∀(i:Nat) c d,[CS.int k][i]?=some c->r[i]?=some d->yP c d)->R=af k (ints R):=by
    intro R
    induction R with
    | nil=>intro _ _;rfl
    | cons r R ih=>
     intro g1 g2
     have g3:=g1 r (by simp)
     match r,g3 with
     | [c],_=>
      have g4:=g2 [c] (by simp) 0 (.int k) c rfl rfl
      cases g4 with
      | int k n a b=>
       have:=ih (fun r hr=>g1 r (by simp[hr])) (fun r hr=>g2 r (by simp[hr]))
       conv=>lhs;rw[this]
       simp[ints,af]
   exact this rows h2 h3
  ·intro n hn
   simp only[ints,List.mem_map] at hn
   obtain ⟨r,hr,rfl⟩:=hn
   have g3:=h2 r hr
   match r,g3 with
   | [c],_=>
    have g4:=h3 [c] hr 0 (.int k) c rfl rfl
    cases g4 with
    | int k n a b=>exact ⟨a,b⟩
theorem ua {k:IntKind}(h:I7 (false,[.sl [.int k]]) d):∃l,d=.sl 1 (af k l) .any/\(∀n∈l,k.min<=n/\n<=k.max):=by
 obtain ⟨c,h1,h2⟩:=h
 obtain rfl:=(List.cons.inj h1).1
 exact O7 h2
theorem DE {k:IntKind}(h:I7 (false,[.int k]) d):∃n,d=.int k n/\k.min<=n/\n<=k.max:=by
 obtain ⟨c,h1,h2⟩:=h
 obtain rfl:=(List.cons.inj h1).1
 cases h2 with
 | int k n a b=>exact ⟨n,rfl,a,b⟩
section
variable {H:Type} {enc:TypeId × Value->H} {P:Program} {w:World} {base:Nat} {spare:Nat->Bool} {held:Bool}
theorem aj.g {args:List DV}{R:DV->Prop}(h:aj E f args [] K)(hK:∀r T,K r T->R r):bP E f args [] fun r _=>R r:=by
 obtain ⟨T1,Q,h1,h2,h3,h4⟩:=h
 have:T1=[]:=List.length_eq_zero_iff.1 h1
 subst this
 intro G w vs g1 g2 g3 g4
 refine (h3 G w vs g1 g2 g3 g4).mono fun e w' ⟨v,r,T',G',a,b,c,d⟩=>⟨v,r,T',G',a, ?_,c,d⟩
 obtain ⟨T2,_,k⟩:=h4 r T' b (Nat.zero_le _)
 exact hK r T2 k
theorem BW {f:FuncId}{fn:Func}{s:ChangeSpec}{tb:TypeId}{k:Nat}{l:List (Bool × List CS)}{apart fresh handsOn:Bool}(hres:fn.resultTypes=#[tb])(hb:E.P.underlying tb=some .bool)
  (hs:∀ds:List (DataW H),ds.length=k->s.fn H ds={ results:=[.lit (.bool true)],args:=ds}) (hsv:s.vars=[]) (hk:fn.params.size=k) (hsh:A4 E.P fn.params.toList=some l)
  (hG:GlobOk E (Gh.all w)) (aep:∀dv,wE l dv->bP E f dv [] fun r _=>r=.bool true) {b0:Nat} {args:Array Value} {ds gs:List (DataW H)} {before:List MemPlace}
  (hval:∀(j:Nat) t v,fn.params[j]?=some t->args[j]?=some v->Value.okWide E.P w .any b0 t v) (hW:DataW.Whole enc E.P fn.params.toList s.vars apart w args.toList ds gs before) :
  Calls E.P f args w fun e W'=>∃v,e=.returned v/\s.post enc E.P fn apart fresh handsOn false w args v W':=by
 have hW':=hW
 obtain ⟨p,q,hA,hV,rfl,hfz,hnd⟩:=hW
 obtain ⟨dv,hc,hl,dh⟩:=Ik hsh (fun j t v ht hv=>hval j t v (by simpa using ht) (by simpa using hv)) hA
 rw[hsv] at hV
 obtain ⟨rfl,rfl⟩:gs=[]/\q=[]:=by
  cases gs with
  | nil=>exact ⟨rfl,hV⟩
  | cons=>exact hV.elim
 have hdl:ds.length=k:=by rw[xM hA];simpa using hk
 have h:=aep dv hc (Gh.all w) w args hG (Gh.Vk w) (by simpa using hl.symm) (fun i d hd=>by
  have:=dh i d hd
  simpa [Array.getD_eq_getD_getElem?,List.getD_eq_getElem?_getD] using this)
 refine h.mono fun e W' ⟨v,r,T',G',he,hr,_,hrv,aeD,abz⟩=>?_
 subst he hr
 have hno:∀a,¬cellsOf (Gh.all w) [] a:=fun a ⟨k,ob,p,m,h1,_⟩=>by simp at h1
 have YV:∀b:Nat,b<w.heap.size->W'.heap[b]?=w.heap[b]?:=fun b hb=>abz.blk b hb fun o=>hno _
 have hv:v=.bool true:=by cases hrv;rfl
 subst hv
 refine ⟨_,rfl, ?_⟩
 rw[List.append_nil] at hfz hnd hW'
 have abl:=hs ds hdl
 have hlt:∀x∈p,x.block<w.heap.size:=hW'.lt
 have ac6:∀(b:Nat) (sp:Nat->Bool) (hd:Bool),DataW.TrodAll enc E.P W' b sp hd fn.resultTypes.toList ((Value.bool true).resultList fn.resultTypes.size) [.lit (.bool true)] []:=fun b sp hd=>by
  rw[hres]
  exact trodAll_cons_mk (shut_bool hb _) trodAll_mk0
 refine ⟨ds,[],p,[],p,[],hW', ?_, ?_, ?_,⟨abz.os,abz.output,fun i hi=>?_⟩,fun h=>by cases h⟩
 ·rw[List.append_nil,abl];exact ac6 _ _ _
 ·rw[List.append_nil,abl];exact sW YV hsh hA fun x hx=>by simpa using hlt x hx
 ·rw[List.append_nil,abl,hsv];rfl
 ·rw[YV i hi]
  split
  ·rename_i h1 h2;rw[h1] at h2;obtain ⟨rfl,rfl,rfl⟩:=Obj.cells.injEq .. ▸ sj h2;exact ⟨rfl,rfl,rfl,fun _ _=>rfl⟩
  ·rename_i h1 h2;rw[h1] at h2;obtain ⟨rfl,rfl⟩:=Obj.map.injEq .. ▸ sj h2;exact Or.inr ⟨rfl,rfl⟩
  ·rfl
end
end
structure WkS (st st':St):Prop where
 env:∀t,st'.get t=st.get t
 len:st'.au.length=st.au.length
 obj:∀(k:Nat) ob',st'.au[k]?=some (some ob')->∃ob,st.au[k]?=some (some ob)/\B3 wk0 ob ob'
theorem dz.wkS {C:Ctx}{st':St}{a:Act}(h:dz E C G st a w)(hF:WkS st st'):dz E C G st' a w:=by
 refine ⟨fun t=>by rw[hF.env t];exact h.env t,h.num,h.defs,⟨?_, ?_, ?_,h.heap.rdv, ?_⟩,⟨h.frm.os,h.frm.tape,h.frm.output,h.frm.size,h.frm.blk,h.frm.cell,h.frm.frz, ?_,h.frm.rdn,h.frm.le,h.frm.mko⟩,h.qf⟩
 ·intro k q hq
  rw[hF.len];exact h.heap.pls k q hq
 ·intro k r hk
  obtain ⟨r',hk',hfr⟩:=hF.obj k r hk
  obtain ⟨q,hq,hlq⟩:=h.heap.live k r' hk'
  exact ⟨q,hq,Dt (.refl _) (fun c c' v hc r=>D0 hc r) hfr hlq⟩
 ·intro k k' r r' q q' m m' hk hk' hne hq hq' hm hm'
  obtain ⟨s,h1,_⟩:=hF.obj k r hk
  obtain ⟨s',h1',_⟩:=hF.obj k' r' hk'
  exact h.heap.sep k k' s s' q q' m m' h1 h1' hne hq hq' hm hm'
 ·intro k r q m hk hq hm
  obtain ⟨s,h1,_⟩:=hF.obj k r hk
  exact h.heap.rds k s q m h1 hq hm
 ·intro k r q m hk hq hm
  obtain ⟨s,h1,_⟩:=hF.obj k r hk
  exact h.frm.mine k s q m h1 hq hm
inductive eK:St->St->Prop where
 | refl (st:St):eK st st
 | frz {a b c:St} (o sz:Nat) (rows:List (List DV)):adS o sz rows a b->eK b c->eK a c
 | wk {a b c:St}:a.wk b->eK b c->eK a c
 | cell {a b c:St}:WkS a b->eK b c->eK a c
theorem eK.trans {a b c:St}(h:eK a b)(k:eK b c):eK a c:=by
 induction h with
 | refl=>exact k
 | frz o sz rows h1 _ ih=>exact .frz o sz rows h1 (ih k)
 | wk h1 _ ih=>exact .wk h1 (ih k)
 | cell h1 _ ih=>exact .cell h1 (ih k)
theorem ei.abN {C:Ctx}{a:Act}{st':St}(h:ei E C st a w)(hF:eK st st'):ei E C st' a w:=by
 induction hF with
 | refl=>exact h
 | frz o sz rows h1 _ ih=>
  obtain ⟨G,h⟩:=h
  exact ih (h.adu h1)
 | wk h1 _ ih=>exact ih (h.wk h1)
 | cell h1 _ ih=>
  obtain ⟨G,h⟩:=h
  exact ih ⟨G,h.wkS h1⟩
theorem eK.len {a b:St}(h:eK a b):b.au.length=a.au.length:=by
 induction h with
 | refl=>rfl
 | frz o sz rows h1 _ ih=>rw[ih,h1.len]
 | wk h1 _ ih=>rw[ih];exact (tM h1.2).1
 | cell h1 _ ih=>rw[ih];exact h1.len
theorem bP.abN {args:List DV}(h:bP E f args T fun d T'=>∃d' T'',eK ⟨[(0,d)],T'⟩ ⟨[(0,d')],T''⟩/\R d' T''):bP E f args T R:=by
 intro G w vs g1 g2 g3 g4
 refine Calls.mono (h G w vs g1 g2 g3 g4) fun e w' ⟨v,r,T',G',a,⟨d',T'',hF,hR⟩,hl,dh,hh,hf⟩=>?_
 have hr:ei E ⟨w,G,cellsOf G T,1⟩ ⟨[(0,r)],T'⟩ ⟨#[v],[]⟩ w':=by
  refine ⟨G',fun t=>?_,rfl,rfl,hh,hf.ctx,fun g row hg=>(g1 g row hg).mono hf.le⟩
  by_cases e:t=0
  ·subst e;exact dh
  ·have:St.get ⟨[(0,r)],T'⟩ t=.undef:=by
    simp only[St.get,St.look]
    rw[if_neg (fun h=>e h.symm)]
   rw[this];exact .undef _
 obtain ⟨G2,h2⟩:=hr.abN hF
 exact ⟨v,d',T'',G2,a,hR,by rw[show T''.length=T'.length from hF.len];exact hl,h2.env 0,h2.heap,h2.frm.ctx⟩
theorem aj.fq (hF:FOk E F){f:Nat}{ann:List Ann}{rf:RFn}{args:List DV}{T:ay}{K:DV->ay->Prop}(hc:aK E.P ann f=some rf)(hargs:args.length<=rf.n)
  (h:rf.code.wp E F rf.n (j9 rf.res fun d T'=>T.length<=T'.length/\∃d' T'',eK ⟨[(0,d)],T'⟩ ⟨[(0,d')],T''⟩/\K d' T'') ⟨dY 0 args,T⟩):aj E f args T K:=
 aj.all (bP.abN (bP.aE hF hc hargs h))
theorem jt (t:Nat):St.get ⟨[(0,d)],T⟩ t=if t=0 then d else .undef:=by
 simp only[St.get,St.look]
 by_cases h:t=0
 ·subst h;simp
 ·rw[if_neg h,if_neg (fun e=>h e.symm)]
theorem eK.own {off:Nat}{rows:List (List DV)}(h:T[q]?=some (some (.arr sz rows)))(hn:off+n<=rows.length):eK ⟨[(0,.own q off n)],T⟩ ⟨[(0,.sl sz ((rows.drop off).take n) .any)],T.set q none⟩:=by
 refine .frz q sz rows ⟨h,fun t=>?_,by simp,fun k ob' hk=>?_⟩ (.refl _)
 ·rw[jt,jt]
  split
  ·right;simp[DV.lI,DV.qK,DV.iA,hn]
  ·exact .inl rfl
 ·rw[getElem?_set] at hk
  by_cases e:q=k
  ·rw[if_pos e] at hk;split at hk <;> simp at hk
  ·rw[if_neg e] at hk;exact ⟨fun e'=>e e'.symm,ob',hk,B3.refl (fr0.refl _ _ _) _⟩
theorem Qq (d:DV):wk0 d d:=by cases d <;> simp[wk0]
theorem eK.rows {env:List (Nat × DV)}{rows dD:List (List DV)}(hq:T[q]?=some (some (.arr sz rows)))
  (hr:dD.length=rows.length/\∀(i:Nat) row',dD[i]?=some row'->∃row,rows[i]?=some row/\AG wk0 row row'):eK ⟨env,T⟩ ⟨env,T.set q (some (.arr sz dD))⟩:=by
 have hlt:=eI hq
 refine .cell (b:=⟨env,T.set q (some (.arr sz dD))⟩) ⟨fun t=>rfl,by simp,fun k ob' hk=>?_⟩ (.refl _)
 simp only at hk
 rw[getElem?_set] at hk
 by_cases e:q=k
 ·subst e
  rw[if_pos rfl,if_pos hlt] at hk
  obtain rfl:Ob.arr sz dD=ob':=by simpa using hk
  exact ⟨_,hq,rfl,hr.1,hr.2⟩
 ·rw[if_neg e] at hk;exact ⟨ob',hk,B3.refl Qq _⟩
theorem av.GX {args:List DV}{v:DV}(hv:∀n T,tG n v T fun d os=>d=v/\os=[])(h:∀T,aj E f args T fun r T'=>r=v):av E f args fun n r os=>r=v/\os=[]:=by
 intro n
 obtain ⟨T1,Q,h1,h2,h3,h4⟩:=h (List.replicate n none)
 have hT:T1=List.replicate n none:=by
  refine List.ext_getElem (by simpa using h1) fun i a b=>?_
  rw[List.getElem_replicate]
  cases hx:T1[i] with
  | none=>rfl
  | some ob=>exact (dm (h2 i ob (by rw[List.getElem?_eq_getElem a,hx]))).elim
 subst hT
 have g1:bP E f args (List.replicate n none) fun r T'=>r=v:=by
  intro G w vs g1 g2 g3 g4
  refine (h3 G w vs g1 g2 g3 g4).mono fun e w' ⟨r0,r,T',G',a,b,c,d⟩=>⟨r0,r,T',G',a, ?_,c,d⟩
  obtain ⟨T2,_,k⟩:=h4 r T' b c
  exact k
 refine (bP.AX (n:=n) (R':=fun r T'=>r=v/\T'=List.replicate n none) (by simp) g1 fun r T' hr=>?_).mono fun r T' hh=>⟨[],by simp[hh.2],hh.1,rfl⟩
 subst hr
 obtain ⟨g,r',os,hc,hk1,hk2⟩:=nS (hv n T')
 exact ⟨g,r',os,hc,hk1,by rw[hk2];simp⟩
structure PM (E:Prg) (F:dW) (rf:RFn) (args:List DV) (T:ay) (Post:DV->ay->Prop):Prop where
 w:rf.code.wp E F rf.n (j9 rf.res Post) ⟨dY 0 args,T⟩
theorem PM.k (hF:FOk E F){f:Nat}{ann:List Ann}{rf:RFn}{args:List DV}{T:ay}{K:DV->ay->Prop}(hc:aK E.P ann f=some rf)(hargs:args.length<=rf.n)
  (h:PM E F rf args T fun d T'=>T.length<=T'.length/\K d T'):aj E f args T K:=aj.aE hF hc hargs h.w
theorem PM.kF (hF:FOk E F){f:Nat}{ann:List Ann}{rf:RFn}{args:List DV}{T:ay}{K:DV->ay->Prop}(hc:aK E.P ann f=some rf)(hargs:args.length<=rf.n)
  (h:PM E F rf args T fun d T'=>T.length<=T'.length/\∃d' T'',eK ⟨[(0,d)],T'⟩ ⟨[(0,d')],T''⟩/\K d' T''):aj E f args T K:=aj.fq hF hc hargs h.w
theorem AA {T T2:ay}(hs:∀(k:Nat) (ob:Ob),T[k]?=some (some ob)->T2[k]?=some (some ob)):∀{ids:List Nat} {K:ay->Prop},lH T ids K->lH T2 ids K
 | [],K,h=>h
 | i::l,K,h=>by
  simp only[lH] at h ⊢
  cases h1:T[i]? with
  | none=>rw[h1] at h;exact h.elim
  | some x=>
   cases x with
   | none=>rw[h1] at h;exact h.elim
   | some ob=>
    rw[h1] at h
    rw[hs i ob h1]
    exact ⟨h.1,AA hs h.2⟩
theorem RM {T2:ay}(hs:∀(k:Nat) (ob:Ob),T[k]?=some (some ob)->T2[k]?=some (some ob)){n:Nat}{d:DV}{K:DV->ay->Prop}(h:tG n d T K):tG n d T2 K:=⟨h.1,h.2.1,AA hs h.2.2⟩
theorem av.acZ {args:List DV}{res:Nat->DV × ay}(h:∀n T,T.length=n->aj E f args T fun r T'=>tG n r T' fun d os=>d=(res n).1/\os=(res n).2):av E f args fun n r os=>r=(res n).1/\os=(res n).2:=by
 intro n
 obtain ⟨T1,Q,h1,h2,h3,h4⟩:=h n (List.replicate n none) (by simp)
 have g1:bP E f args T1 fun r T'=>tG n r T' fun d os=>d=(res n).1/\os=(res n).2:=by
  intro G w vs g1 g2 g3 g4
  refine (h3 G w vs g1 g2 g3 g4).mono fun e w' ⟨r0,r,T',G',a,b,c,d⟩=>⟨r0,r,T',G',a, ?_,c,d⟩
  obtain ⟨T2,hm,k⟩:=h4 r T' b c
  refine RM (fun j ob hj=>?_) k
  rcases Nat.lt_or_ge j (List.replicate n (none:Option Ob)).length with hlt | hge
  ·by_cases hx:∃ob,T1[j]?=some (some ob)
   ·obtain ⟨ob2,hx⟩:=hx
    exact hm.over j ob2 ob hx hj
   ·rcases hm.kept j ob hlt (fun ob2 h=>hx ⟨ob2,h⟩) hj with h5 | h5
    ·exact (dm h5).elim
    ·exact h5
  ·exact hm.new j ob hge hj
 have hT:T1=List.replicate n none:=by
  refine List.ext_getElem (by simpa using h1) fun i a b=>?_
  rw[List.getElem_replicate]
  cases hx:T1[i] with
  | none=>rfl
  | some ob=>exact (dm (h2 i ob (by rw[List.getElem?_eq_getElem a,hx]))).elim
 subst hT
 refine (bP.AX (n:=n) (R':=fun r T'=>r=(res n).1/\T'=List.replicate n none++(res n).2) (by simp) g1 fun r T' hr=>?_).mono fun r T' hh=>⟨(res n).2,hh.2,hh.1,rfl⟩
 obtain ⟨g,r',os,hc,hk1,hk2⟩:=nS hr
 exact ⟨g,r',os,hc,hk1,by rw[hk2]⟩
theorem RN {p:Nat}{rows:List (List DV)}(hT:T[p]?=some (some (.arr sz rows)))(hc:gW rows):tG n (.own p 0 m) T fun d os=>d=.own n 0 m/\os=[some (.arr sz rows)]:=by
 rw[L6]
 simp[eu,pL,jR,Aj,clT,clA,cl0,lH,bA,hT,AS,lK,qO,oo,pos,hc,tf]
def vcS:=J @gw<|J @iQ<|J @iT<|J @acN<|J @adX<|J @vcR<|J @if_true.{1}<|J @if_false.{1}<|J @implies_true.{1}<|J @ne_eq.{1}<|J @exists_eq_left.{1}<|J @exists_eq_left'.{1}<|@Function.comp_apply.{1,1,1}
end Go.Proofs.YtjmnbpilnneonaaGreatDoor
