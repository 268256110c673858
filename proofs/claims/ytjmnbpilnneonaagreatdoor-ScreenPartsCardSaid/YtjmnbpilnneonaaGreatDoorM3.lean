/- Texts Ab19, Ab20, Ab21, Ab22, Ab23, Ab24, Ab25, Ab26, Ab27, Ab28, Ab29, Ab30, Ab31, Ab32, Ab33, Ab34, Ab35, Ab36 in one. -/
import Derived.Test.YtjmnbpilnneonaaGreatDoorM2
import Derived.IntWalk
import Derived.ChangeSlices
import Derived.OpenShut
import Derived.Deep.DeepHandedRow
import Derived.Lib.LaidTab
set_option linter.unusedVariables false
set_option linter.unusedSimpArgs false
set_option maxRecDepth 10000
namespace Go.Proofs.YtjmnbpilnneonaaGreatDoor
open Go.RowKit
def Cl (d:DV):Prop:=∀(G G':Gh) (v:Value),(∀a x,G.rd a=some x→G'.rd a=some x)→Rel G d v→Rel G' d v
theorem Cl.int (k:IntKind)(n:Int):Cl (.int k n):=fun G G' v _ h=>by cases h;exact .int k n
theorem Cl.bool (b:Bool):Cl (.bool b):=fun G G' v _ h=>by cases h;exact .bool b
theorem Cl.str (s:List UInt8):Cl (.str s):=fun G G' v _ h=>by cases h;exact .str s
theorem Cl.undef:Cl .undef:=fun G G' v _ h=>by cases h;exact .undef v
theorem Cl.lit (v:Value):Cl (.lit v):=fun G G' u _ h=>by cases h;exact .lit v
theorem Cl.sl (sz:Nat)(rows:List (List DV))(k:SK)(h:∀row∈rows,∀c∈row,Cl c):Cl (.sl sz rows k):=fun G G' v hle r=>by
 cases r with
 | sl sz rows k p len cap b o vals h1 h2 h3 h4 h5 h6 h7=>
  exact .sl sz rows k p len cap b o vals h1 h2 h3 h4 h5 (fun i j row c a b=>hle _ _ (h6 i j row c a b)) fun i j row c hr hc=>h row (List.mem_of_getElem? hr) c (List.mem_of_getElem? hc) G G' _ hle (h7 i j row c hr hc)
theorem Cl.agg (cs:List DV)(h:∀c∈cs,Cl c):Cl (.agg cs):=fun G G' v hle r=>by
 cases r with
 | agg cs vs h1 h2=>exact .agg cs vs h1 fun i c hc=>h c (List.mem_of_getElem? hc) G G' _ hle (h2 i c hc)
theorem Cl.rp (row:List DV)(j:Nat)(h:∀c∈row,Cl c):Cl (.rp row j):=fun G G' v hle r=>by
 cases r with
 | rp row j b o vals h1 h2=>exact .rp row j b o vals (fun m c hc=>hle _ _ (h1 m c hc)) fun m c hc=>h c (List.mem_of_getElem? hc) G G' _ hle (h2 m c hc)
inductive Ren (f:Nat→Option Nat):DV→DV→Prop where
 | cl (d:DV):Cl d→Ren f d d
 | own (o o' off n:Nat):f o=some o'→Ren f (.own o off n) (.own o' off n)
 | ptr (o o' i j:Nat):f o=some o'→Ren f (.ptr o i j) (.ptr o' i j)
 | agg (cs ds:List DV):cs.length=ds.length→(∀(i:Nat) c d,cs[i]?=some c→ds[i]?=some d→Ren f c d)→Ren f (.agg cs) (.agg ds)
 | tup (cs ds:List DV):cs.length=ds.length→(∀(i:Nat) c d,cs[i]?=some c→ds[i]?=some d→Ren f c d)→Ren f (.tup cs) (.tup ds)
 | wrap (w:WK) (cs ds:List DV):cs.length=ds.length→(∀(i:Nat) c d,cs[i]?=some c→ds[i]?=some d→Ren f c d)→Ren f (.wrap w cs) (.wrap w ds)
theorem Ren.rel {f:Nat→Option Nat}{G G':Gh}(hle:∀a x,G.rd a=some x→G'.rd a=some x)(hpl:∀o o' p,f o=some o'→G.pl o=some p→G'.pl o'=some p){d d':DV}(h:Ren f d d'):∀{v:Value},Rel G d v→Rel G' d' v:=by
 induction h with
 | cl d hc=>exact fun r=>hc G G' _ hle r
 | own o o' off n hf=>
  intro v r
  cases r with
  | own o off n pl p c h1 h2 h3 h4=>exact .own o' off n pl p c (hpl o o' pl hf h1) h2 h3 h4
 | ptr o o' i j hf=>
  intro v r
  cases r with
  | ptr o i j pl h1=>exact .ptr o' i j pl (hpl o o' pl hf h1)
 | agg cs ds hl _ ih=>
  intro v r
  cases r with
  | agg cs vs h1 h2=>
   refine .agg ds vs (by rw [h1,hl]) fun i d hd=>?_
   have hi:i<cs.length:=by rw [hl];exact (List.getElem?_eq_some_iff.1 hd).1
   exact ih i cs[i] d (List.getElem?_eq_getElem hi) hd (h2 i cs[i] (List.getElem?_eq_getElem hi))
 | tup cs ds hl _ ih=>
  intro v r
  cases r with
  | tup cs vs h1 h2=>
   refine .tup ds vs (by rw [h1,hl]) fun i d hd=>?_
   have hi:i<cs.length:=by rw [hl];exact (List.getElem?_eq_some_iff.1 hd).1
   exact ih i cs[i] d (List.getElem?_eq_getElem hi) hd (h2 i cs[i] (List.getElem?_eq_getElem hi))
 | wrap w cs ds hl _ ih=>
  intro v r
  cases r with
  | ifc t d v h1=>
   match ds,hl with
   | [d2],_=>exact .ifc t d2 v (ih 0 d d2 rfl rfl h1)
  | ifa t cs vs h1 h2=>
   refine .ifa t ds vs (by rw [h1,hl]) fun i d hd=>?_
   have hi:i<cs.length:=by rw [hl];exact (List.getElem?_eq_some_iff.1 hd).1
   exact ih i cs[i] d (List.getElem?_eq_getElem hi) hd (h2 i cs[i] (List.getElem?_eq_getElem hi))
  | clo g cs vs h1 h2=>
   refine .clo g ds vs (by rw [h1,hl]) fun i d hd=>?_
   have hi:i<cs.length:=by rw [hl];exact (List.getElem?_eq_some_iff.1 hd).1
   exact ih i cs[i] d (List.getElem?_eq_getElem hi) hd (h2 i cs[i] (List.getElem?_eq_getElem hi))
def CW (f:Nat→Option Nat)(a b:Ob):Prop:=
 a.sz=b.sz∧a.rows.length=b.rows.length∧∀(i:Nat) ra rb,a.rows[i]?=some ra→b.rows[i]?=some rb→ra.length=rb.length∧∀(j:Nat) c d,ra[j]?=some c→rb[j]?=some d→Ren f c d
def Canon (n:Nat)(f:Nat→Option Nat)(d:DV)(T:aj)(d':DV)(os:aj):Prop:=
 Ren f d d'∧(∀(k:Nat) ob',os[k]?=some (some ob')→∃o ob,f o=some (n+k)∧T[o]?=some (some ob)∧CW f ob ob')∧
  (∀a b x,f a=some x→f b=some x→a=b)∧(∀a x,f a=some x→n≤a∧n≤x∧x<n+os.length)
theorem bN.canon {E:Prg}{f:Nat}{args:List DV}{n:Nat}{R R':DV→aj→Prop}(h:bN E f args (List.replicate n none) R)
  (hR:∀r T',R r T'→∃g r' os,Canon n g r T' r' os∧R' r' (List.replicate n none++os)):bN E f args (List.replicate n none) R':=by
 intro G w vs h1 h2 h3 h4
 refine Calls.mono (h G w vs h1 h2 h3 h4) fun e w' ⟨v,r,T',G',a,hr,hl,cT,hh,hf⟩=>?_
 obtain ⟨g,r',os,⟨c1,c2,c3,c4⟩,hR'⟩:=hR r T' hr
 open Classical in
 let G2:Gh:={ rd:=G'.rd,pl:=fun x=>if x<n then G.pl x else if hx:∃o,g o=some x then G'.pl (Classical.choose hx) else none}
 have hpl:∀o o' p,g o=some o'→G'.pl o=some p→G2.pl o'=some p:=fun o o' p ho hp=>by
  have h5:=(c4 o o' ho).2.1
  show (if o'<n then G.pl o' else if hx:∃o,g o=some o' then G'.pl (Classical.choose hx) else none)=some p
  rw [if_neg (by omega),dif_pos ⟨o,ho⟩]
  have:=Classical.choose_spec (⟨o,ho⟩:∃o,g o=some o')
  rw [c3 _ _ _ this ho];exact hp
 have aaD:∀x p,G2.pl x=some p→(x<n∧G.pl x=some p)∨(n≤x∧x<n+os.length∧∃o,g o=some x∧G'.pl o=some p):=fun x p hx=>by
  change (if x<n then G.pl x else if hx:∃o,g o=some x then G'.pl (Classical.choose hx) else none)=some p at hx
  by_cases hlt:x<n
  ·rw [if_pos hlt] at hx;exact .inl ⟨hlt,hx⟩
  ·rw [if_neg hlt] at hx
   by_cases he:∃o,g o=some x
   ·rw [dif_pos he] at hx
    have hs:=Classical.choose_spec he
    exact .inr ⟨by omega,(c4 _ _ hs).2.2,_,hs,hx⟩
   ·rw [dif_neg he] at hx;cases hx
 have hT:∀(k:Nat) ob,(List.replicate n (none:Option Ob)++os)[k]?=some (some ob)→n≤k∧os[k-n]?=some (some ob):=fun k ob hk=>by
  by_cases hlt:k<n
  ·rw [List.getElem?_append_left (by simpa using hlt)] at hk;exact (cW hk).elim
  ·rw [List.getElem?_append_right (by simpa using hlt)] at hk
   exact ⟨by omega,by simpa using hk⟩
 have hob:∀(k:Nat) ob',(List.replicate n (none:Option Ob)++os)[k]?=some (some ob')→∃o ob,g o=some k∧T'[o]?=some (some ob)∧CW g ob ob':=fun k ob' hk=>by
  obtain ⟨h5,h6⟩:=hT k ob' hk
  obtain ⟨o,ob,h7,h8,h9⟩:=c2 _ _ h6
  rw [show n+(k-n)=k by omega] at h7
  exact ⟨o,ob,h7,h8,h9⟩
 have nO:∀(k:Nat) ob' p,(List.replicate n (none:Option Ob)++os)[k]?=some (some ob')→G2.pl k=some p→∃o ob,g o=some k∧T'[o]?=some (some ob)∧CW g ob ob'∧G'.pl o=some p:=fun k ob' p hk hp=>by
  obtain ⟨o,ob,h5,h6,h7⟩:=hob k ob' hk
  obtain ⟨q,hq,_⟩:=hh.live o ob h6
  rw [hpl o k q h5 hq] at hp
  obtain rfl:=sj hp
  exact ⟨o,ob,h5,h6,h7,hq⟩
 refine ⟨v,r',_,G2,a,hR',by simp,c1.rel (G:=G') (G':=G2) (fun _ _ h=>h) hpl cT,⟨?_,?_,?_,hh.rdv,?_⟩,⟨hf.os,hf.tape,hf.output,hf.size,hf.blk,hf.cell,hf.frz,?_,hf.rdn,⟨hf.le.rd,?_⟩,hf.mko⟩⟩
 ·intro k p hp
  rcases aaD k p hp with ⟨h5,_⟩ | ⟨_,h5,_⟩ <;> simp <;> omega
 ·intro k ob' hk
  obtain ⟨o,ob,h5,h6,h7⟩:=hob k ob' hk
  obtain ⟨q,hq,hl⟩:=hh.live o ob h6
  refine ⟨q,hpl o k q h5 hq,⟨hl.psz.trans h7.1,h7.2.1 ▸ hl.fits,fun row hrow=>?_,hl.there,fun i j row c v hi hj hv=>?_,hl.mko⟩⟩
  ·obtain ⟨i,hi,he⟩:=List.getElem_of_mem hrow
   have hi2:i<ob.rows.length:=by rw [h7.2.1];exact hi
   rw [←(h7.2.2 i ob.rows[i] row (List.getElem?_eq_getElem hi2) (by rw [List.getElem?_eq_getElem hi,he])).1]
   exact hl.size _ (List.getElem_mem hi2)
  ·have hi2:i<ob.rows.length:=by rw [h7.2.1];exact (List.getElem?_eq_some_iff.1 hi).1
   obtain ⟨h8,h9⟩:=h7.2.2 i ob.rows[i] row (List.getElem?_eq_getElem hi2) hi
   have hj2:j<ob.rows[i].length:=by rw [h8];exact (List.getElem?_eq_some_iff.1 hj).1
   exact (h9 j _ c (List.getElem?_eq_getElem hj2) hj).rel (G:=G') (G':=G2) (fun _ _ h=>h) hpl (hl.holds i j ob.rows[i] ob.rows[i][j] v (List.getElem?_eq_getElem hi2) (List.getElem?_eq_getElem hj2) hv)
 ·intro k k' x x' p p' m m' hk hk' hne hp hp' hm hm' e
  obtain ⟨o,ob,h5,h6,h7,h8⟩:=nO k x p hk hp
  obtain ⟨o',ob',h5',h6',h7',h8'⟩:=nO k' x' p' hk' hp'
  refine hh.sep o o' ob ob' p p' m m' h6 h6' (fun e2=>?_) h8 h8' hm hm' e
  subst e2
  exact hne (sj (h5.symm.trans h5'))
 ·intro k x p m hk hp hm
  obtain ⟨o,ob,h5,h6,h7,h8⟩:=nO k x p hk hp
  exact hh.rds o ob p m h6 h8 hm
 ·intro k x p m hk hp hm
  obtain ⟨o,ob,h5,h6,h7,h8⟩:=nO k x p hk hp
  exact hf.mine o ob p m h6 h8 hm
 ·intro k p hp
  have hk:=h2.pls k p hp
  simp at hk
  show (if k<n then G.pl k else _)=some p
  rw [if_pos hk];exact hp
def gJ (rows:List (List DV)):Prop:=∀row∈rows,∀c∈row,Cl c
def jG:DV→List Nat
 | .own o _ _=> [o]
 | .ptr o _ _=> [o]
 | _=> []
def oJ:DV→List Nat
 | .agg cs=>cs.flatMap jG
 | .wrap _ cs=>cs.flatMap jG
 | d=>jG d
def dW:DV→List Nat
 | .tup cs=>cs.flatMap oJ
 | d=>oJ d
def pos (o:Nat):List Nat→Nat
 | []=>0
 | a::l=>if a=o then 0 else pos o l+1
def nR (n:Nat)(ids:List Nat):DV→DV
 | .own o off m=> .own (n+pos o ids) off m
 | .ptr o i j=> .ptr (n+pos o ids) i j
 | d=>d
def qe (n:Nat)(ids:List Nat):DV→DV
 | .agg cs=> .agg (cs.map (nR n ids))
 | .wrap w cs=> .wrap w (cs.map (nR n ids))
 | d=>nR n ids d
def lC (n:Nat)(ids:List Nat):DV→DV
 | .tup cs=> .tup (cs.map (qe n ids))
 | d=>qe n ids d
def cl0:DV→Prop
 | .int .. | .bool .. | .str .. | .own .. | .ptr .. | .undef | .lit _=>True
 | .sl _ rows _=>gJ rows
 | d=>Cl d
def clA:DV→Prop
 | .agg cs=>∀c∈cs,cl0 c
 | .wrap _ cs=>∀c∈cs,cl0 c
 | d=>cl0 d
def clT:DV→Prop
 | .tup cs=>∀c∈cs,clA c
 | d=>clA d
def Ca:Ob→Prop
 | .box cs=>∀c∈cs,Cl c
 | .arr _ rows=>gJ rows
def BM (n:Nat)(T:aj):List Nat→(aj→Prop)→Prop
 | [],k=>k []
 | i::l,k=>n≤i∧bu T[i]? fun x=>bu x fun ob=>Ca ob∧BM n T l fun os=>k (some ob::os)
def Ax (n:Nat)(d:DV)(T:aj)(K:DV→aj→Prop):Prop:=(dW d).Nodup∧clT d∧BM n T (dW d) fun os=>K (lC n (dW d) d) os
def uH (n:Nat)(ids:List Nat)(x:Nat):Option Nat:=if x∈ids then some (n+pos x ids) else none
theorem A3 {o:Nat}:∀{l:List Nat},o∈l→pos o l<l.length
 | a::l,h=>by
  simp only [pos]
  by_cases e:a=o
  ·simp [e]
  ·rw [if_neg e]
   have:o∈l:=by simpa [Ne.symm (show a≠o from e),fun h:o=a=>e h.symm] using h
   have:=A3 this
   simp;omega
theorem lK {o:Nat}:∀{l:List Nat},o∈l→l[pos o l]?=some o
 | a::l,h=>by
  simp only [pos]
  by_cases e:a=o
  ·simp [e]
  ·rw [if_neg e]
   have:o∈l:=by
    rcases List.mem_cons.1 h with h | h
    ·exact absurd h.symm e
    ·exact h
   simpa using lK this
theorem aaf {n:Nat}{ids:List Nat}{d:DV}(h:∀o∈jG d,o∈ids)(hc:cl0 d):Ren (uH n ids) d (nR n ids d):=by
 cases d with
 | own o off m=>exact .own _ _ _ _ (if_pos (h o (by simp [jG])))
 | ptr o i j=>exact .ptr _ _ _ _ (if_pos (h o (by simp [jG])))
 | int k n=>exact .cl _ (Cl.int k n)
 | bool b=>exact .cl _ (Cl.bool b)
 | str s=>exact .cl _ (Cl.str s)
 | undef=>exact .cl _ Cl.undef
 | lit v=>exact .cl _ (Cl.lit v)
 | sl sz rows k=>exact .cl _ (Cl.sl sz rows k hc)
 | agg cs=>exact .cl _ hc
 | tup cs=>exact .cl _ hc
 | rp row j=>exact .cl _ hc
 | wrap w cs=>exact .cl _ hc
theorem acv {n:Nat}{ids:List Nat}{d:DV}(h:∀o∈oJ d,o∈ids)(hc:clA d):Ren (uH n ids) d (qe n ids d):=by
 cases d with
 | agg cs=>
  refine .agg _ _ (by simp) fun i c d hc' hd=>?_
  rw [List.getElem?_map,hc'] at hd
  obtain rfl:=sj hd
  have hm:=List.mem_of_getElem? hc'
  exact aaf (fun o ho=>h o (List.mem_flatMap.2 ⟨c,hm,ho⟩)) (hc c hm)
 | wrap w cs=>
  refine .wrap _ _ _ (by simp) fun i c d hc' hd=>?_
  rw [List.getElem?_map,hc'] at hd
  obtain rfl:=sj hd
  have hm:=List.mem_of_getElem? hc'
  exact aaf (fun o ho=>h o (List.mem_flatMap.2 ⟨c,hm,ho⟩)) (hc c hm)
 | _=>exact aaf h hc
theorem acu {n:Nat}{ids:List Nat}{d:DV}(h:∀o∈dW d,o∈ids)(hc:clT d):Ren (uH n ids) d (lC n ids d):=by
 cases d with
 | tup cs=>
  refine .tup _ _ (by simp) fun i c d hc' hd=>?_
  rw [List.getElem?_map,hc'] at hd
  obtain rfl:=sj hd
  have hm:=List.mem_of_getElem? hc'
  exact acv (fun o ho=>h o (List.mem_flatMap.2 ⟨c,hm,ho⟩)) (hc c hm)
 | _=>exact acv h hc
theorem Zv {f:Nat→Option Nat}{ob:Ob}(h:Ca ob):CW f ob ob:=by
 refine ⟨rfl,rfl,fun i ra rb ha hb=>?_⟩
 rw [ha] at hb
 obtain rfl:=sj hb
 refine ⟨rfl,fun j c d hc hd=>?_⟩
 rw [hc] at hd
 obtain rfl:=sj hd
 have h1:=List.mem_of_getElem? ha
 have h2:=List.mem_of_getElem? hc
 cases ob with
 | box cs=>
  simp only [Ob.rows,List.mem_singleton] at h1
  subst h1
  exact .cl _ (h c h2)
 | arr sz rows=>exact .cl _ (h ra h1 c h2)
theorem BH {n:Nat}{T:aj}:∀{ids:List Nat} {K:aj→Prop},BM n T ids K→∃os,K os∧os.length=ids.length∧(∀o∈ids,n≤o)∧∀(k:Nat) (ob':Ob),os[k]?=some (some ob')→∃o,ids[k]?=some o∧T[o]?=some (some ob')∧Ca ob'
 | [],K,h=>⟨[],h,rfl,by simp,by simp⟩
 | i::l,K,h=>by
  obtain ⟨h1,h2⟩:=h
  cases hT:T[i]? with
  | none=>rw [hT] at h2;exact h2.elim
  | some x=>cases x with
   | none=>rw [hT] at h2;exact h2.elim
   | some ob=>
    rw [hT] at h2
    obtain ⟨h3,h4⟩:=h2
    obtain ⟨os,h5,h6,h7,h8⟩:=BH h4
    refine ⟨some ob::os,h5,by simp [h6],by simpa using ⟨h1,h7⟩,fun k ob' hk=>?_⟩
    rcases k with _ | k
    ·simp at hk;subst hk;exact ⟨i,rfl,hT,h3⟩
    ·simpa using h8 k ob' (by simpa using hk)
theorem Ez {n:Nat}{d:DV}{T:aj}{K:DV→aj→Prop}(h:Ax n d T K):∃g r' os,Canon n g d T r' os∧K r' os:=by
 obtain ⟨hn,hc,hg⟩:=h
 obtain ⟨os,h1,h2,h3,h4⟩:=BH hg
 refine ⟨uH n (dW d),_,os,⟨acu (fun _ h=>h) hc,fun k ob' hk=>?_,fun a b x ha hb=>?_,fun a x ha=>?_⟩,h1⟩
 ·obtain ⟨o,h5,h6,h7⟩:=h4 k ob' hk
  have hm:=List.mem_of_getElem? h5
  refine ⟨o,ob',?_,h6,Zv h7⟩
  show (if o∈dW d then some (n+pos o (dW d)) else none)=some (n+k)
  rw [if_pos hm]
  have h8:=lK hm
  have:pos o (dW d)=k:=(List.getElem?_inj (A3 hm) hn).1 (h8.trans h5.symm)
  rw [this]
 ·unfold uH at ha hb
  by_cases hma:a∈dW d
  case neg=>rw [if_neg hma] at ha;cases ha
  by_cases hmb:b∈dW d
  case neg=>rw [if_neg hmb] at hb;cases hb
  rw [if_pos hma] at ha
  rw [if_pos hmb] at hb
  have e:n+pos a (dW d)=n+pos b (dW d):=(sj ha).trans (sj hb).symm
  have h8:=lK hma
  have h9:=lK hmb
  rw [show pos a (dW d)=pos b (dW d) by omega,h9] at h8
  exact (sj h8).symm
 ·unfold uH at ha
  split at ha
  ·rename_i hm
   have:=A3 hm
   obtain rfl:=sj ha
   exact ⟨h3 a hm,by omega,by omega⟩
  ·cases ha
theorem aS.cY {E:Prg}{F:dz}(hF:FOk E F){f:Nat}{ann:List Ann}{rf:RFn}{args:List DV}{s:aS}(hc:aK E.P ann f=some rf)(hargs:args.length≤rf.n)
  (h:∀n,rf.code.wp E F rf.n (jW rf.res fun d T'=>n≤T'.length∧Ax n d T' fun d' os=>d'=(s.res n).1∧os=(s.res n).2) ⟨dN 0 args,List.replicate n none⟩):az E f args fun n r os=>r=(s.res n).1∧os=(s.res n).2:=by
 intro n
 have h1:bN E f args (List.replicate n none) fun r T'=>Ax n r T' fun d' os=>d'=(s.res n).1∧os=(s.res n).2:=by
  refine bN.aE hF hc hargs (RC.wp_mono _ (h n) fun e st hh=>?_)
  have key:∀st:St,(match eZ st rf.res with
    | some d=>n≤st.ay.length∧Ax n d st.ay fun d' os=>d'=(s.res n).1∧os=(s.res n).2
    | none=>False)→(match eZ st rf.res with
    | some d=>(List.replicate n (none:Option Ob)).length≤st.ay.length∧Ax n d st.ay fun d' os=>d'=(s.res n).1∧os=(s.res n).2
    | none=>False):=fun st hh=>by
   cases hres:eZ st rf.res with
   | none=>rw [hres] at hh;exact hh
   | some d=>rw [hres] at hh;exact ⟨by simpa using hh.1,hh.2⟩
  cases e with
  | normal=>exact key st hh
  | ret=>exact key st hh
  | _=>exact hh
 exact (h1.canon fun r T' hr=>by
  obtain ⟨g,r',os,hg,hK⟩:=Ez hr
  exact ⟨g,r',os,hg,os,rfl,hK⟩)
theorem WX (n:Nat)(l:aj):(List.replicate n none++l).length=n+l.length:=by simp
theorem Og (n k:Nat)(l:aj):(List.replicate n none++l)[n+k]?=l[k]?:=by
 rw [List.getElem?_append_right (by simp)]
 simp
theorem Rw (n:Nat)(l:aj):(List.replicate n none++l)[n]?=l[0]?:=Og n 0 l
theorem Of (n k:Nat)(l:aj)(x:Option Ob):(List.replicate n none++l).set (n+k) x=List.replicate n none++l.set k x:=by
 rw [List.set_append_right _ _ (by simp)]
 simp
theorem Rv (n:Nat)(l:aj)(x:Option Ob):(List.replicate n none++l).set n x=List.replicate n none++l.set 0 x:=Of n 0 l x
def af (k:IntKind)(l:List Int):List (List DV):=l.map fun n=> [.int k n]
theorem ia (k:IntKind)(l:List Int):(af k l).length=l.length:=by simp [af]
theorem kL (k:IntKind)(l:List Int)(i:Nat):(af k l)[i]?=(l[i]?).map fun n=> [.int k n]:=by simp [af]
theorem mz (k:IntKind)(a b:List Int):af k a++af k b=af k (a++b):=by simp [af]
theorem bk (k:IntKind):af k []=[]:=rfl
theorem uV (k:IntKind)(l:List Int)(n:Nat):(af k l).take n=af k (l.take n):=by simp [af]
theorem uW (k:IntKind)(l:List Int)(n:Nat):(af k l).drop n=af k (l.drop n):=by simp [af]
theorem yw (k:IntKind)(l:List Int)(i:Nat)(n:Int):(af k l).set i [.int k n]=af k (l.set i n):=by simp [af,List.map_set]
theorem BD (k:IntKind)(l:List Int):(af k l=[])=(l=[]):=by simp [af]
theorem tT (k:IntKind)(l:List Int):gJ (af k l):=fun row hr c hc=>by
 simp only [af,List.mem_map] at hr
 obtain ⟨n,_,rfl⟩:=hr
 simp only [List.mem_singleton] at hc
 subst hc
 exact Cl.int k n
theorem Ol:gJ []:=fun row h=>by cases h
theorem m8 (l:List Int):iy (af .u8 l)=some (l.map fun n=>UInt8.ofNat n.toNat):=by
 induction l with
 | nil=>rfl
 | cons a l ih=>
  show iy ([.int .u8 a]::af .u8 l)=_
  simp only [iy,ih,Option.map,List.map_cons]
def ints (rows:List (List DV)):List Int:=rows.map fun
 | [.int _ n]=>n
 | _=>0
theorem eA (k:IntKind)(l:List Int):ints (af k l)=l:=by
 simp only [ints,af,List.map_map]
 exact List.map_id'' (fun _=>rfl) l
def inK (k:IntKind)(l:List Int):Prop:=l.length≤4611686018427387904∧∀n∈l,k.min≤n∧n≤k.max
theorem fH (k:IntKind):inK k []:=⟨by simp,by simp⟩
theorem inK.u8 {l:List Int}(h:inK .u8 l){n:Int}(hn:n∈l):0≤n∧n≤255:=by
 have:=h.2 n hn
 simpa [IntKind.min,IntKind.max,IntKind.signed,IntKind.bits] using this
theorem inK.i32 {l:List Int}(h:inK .i32 l){n:Int}(hn:n∈l):-2147483648≤n∧n≤2147483647:=by
 have:=h.2 n hn
 simpa [IntKind.min,IntKind.max,IntKind.signed,IntKind.bits] using this
theorem inK.i64 {l:List Int}(h:inK .i64 l){n:Int}(hn:n∈l):-9223372036854775808≤n∧n≤9223372036854775807:=by
 have:=h.2 n hn
 simpa [IntKind.min,IntKind.max,IntKind.signed,IntKind.bits] using this
theorem ld {l:List Int}(h:l.length≤4611686018427387904)(hn:∀n∈l,0≤n∧n≤255):inK .u8 l:=⟨h,by simpa [IntKind.min,IntKind.max,IntKind.signed,IntKind.bits] using hn⟩
theorem Qh {l:List Int}(h:l.length≤4611686018427387904)(hn:∀n∈l,-2147483648≤n∧n≤2147483647):inK .i32 l:=⟨h,by simpa [IntKind.min,IntKind.max,IntKind.signed,IntKind.bits] using hn⟩
theorem inK.take {k:IntKind}{l:List Int}(h:inK k l)(n:Nat):inK k (l.take n):=⟨Nat.le_trans (by simp;omega) h.1,fun x hx=>h.2 x (List.mem_of_mem_take hx)⟩
theorem inK.drop {k:IntKind}{l:List Int}(h:inK k l)(n:Nat):inK k (l.drop n):=⟨Nat.le_trans (by simp) h.1,fun x hx=>h.2 x (List.mem_of_mem_drop hx)⟩
theorem inK.append {k:IntKind}{a b:List Int}(ha:inK k a)(hb:inK k b)(h:a.length+b.length≤4611686018427387904):inK k (a++b):=⟨by simpa using h,fun x hx=>(List.mem_append.1 hx).elim (ha.2 x) (hb.2 x)⟩
def aD (k:IntKind):DV→Prop
 | .sl sz rows _=>rows=af k (ints rows)∧(sz=1∨rows=[])∧inK k (ints rows)
 | _=>False
def aF:DV→List Int
 | .sl _ rows _=>ints rows
 | _=> []
theorem gC (k:IntKind)(l:List Int)(s:SK):aD k (.sl 1 (af k l) s)=inK k l:=by simp [aD,eA]
theorem oI (k:IntKind)(sz:Nat)(s:SK):aD k (.sl sz [] s)=True:=by simp [aD,ints,af,inK]
theorem aM (k:IntKind)(sz:Nat)(l:List Int)(s:SK):aF (.sl sz (af k l) s)=l:=eA k l
theorem q6 (sz:Nat)(s:SK):aF (.sl sz [] s)=[]:=rfl
theorem aL {k:IntKind}{d:DV}(h:aD k d):∃sz s,d=.sl sz (af k (aF d)) s∧(sz=1∨aF d=[])∧inK k (aF d):=by
 cases d with
 | sl sz rows s=>
  obtain ⟨h1,h2,h3⟩:=h
  refine ⟨sz,s,?_,h2.imp id fun h=>(by subst h;rfl),h3⟩
  show DV.sl sz rows s=.sl sz (af k (ints rows)) s
  rw [←h1]
 | _=>exact h.elim
theorem aP {n:Int}(h1:-9223372036854775808≤n)(h2:n≤9223372036854775807):IntKind.i64.wrap n=n:=by rw [IntKind.wrap_i64];omega
theorem MI {n:Int}(h1:-2147483648≤n)(h2:n≤2147483647):IntKind.i32.wrap n=n:=by rw [IntKind.wrap_i32];omega
theorem wU8 {n:Int}(h1:0≤n)(h2:n≤255):IntKind.u8.wrap n=n:=by rw [IntKind.wrap_u8];omega
def zC (p:DV→Prop):List DV→Prop
 | []=>True
 | c::l=>p c∧zC p l
theorem ri (p:DV→Prop):∀l:List DV,zC p l=∀c∈l,p c
 | []=>by simp [zC]
 | c::l=>by simp [zC,ri p l]
def rQ (a:Nat):List Nat→Prop
 | []=>True
 | b::l=> ¬a=b∧rQ a l
theorem J0 (a:Nat):∀l:List Nat,rQ a l=(a∉l)
 | []=>by simp [rQ]
 | b::l=>by simp [rQ,J0 a l]
def Bi:List Nat→Prop
 | []=>True
 | a::l=>rQ a l∧Bi l
theorem HF:∀l:List Nat,Bi l=l.Nodup
 | []=>by simp [Bi]
 | a::l=>by simp [Bi,HF l,J0]
theorem KD (k:IntKind)(v:Int):jG (.int k v)=[]:=au _
theorem Ky (k:IntKind)(v:Int):oJ (.int k v)=[]:=au _
theorem Ks (k:IntKind)(v:Int):dW (.int k v)=[]:=au _
theorem LQ (n:Nat)(ids:List Nat)(k:IntKind)(v:Int):nR n ids (.int k v)=.int k v:=au _
theorem LL (n:Nat)(ids:List Nat)(k:IntKind)(v:Int):qe n ids (.int k v)=.int k v:=au _
theorem LC (n:Nat)(ids:List Nat)(k:IntKind)(v:Int):lC n ids (.int k v)=.int k v:=au _
theorem Q8 (k:IntKind)(v:Int):cl0 (.int k v)=True:=au _
theorem Q3 (k:IntKind)(v:Int):clA (.int k v)=True:=au _
theorem QY (k:IntKind)(v:Int):clT (.int k v)=True:=au _
theorem Fg (b:Bool):jG (.bool b)=[]:=au _
theorem Ff (b:Bool):oJ (.bool b)=[]:=au _
theorem Fc (b:Bool):dW (.bool b)=[]:=au _
theorem F0 (n:Nat)(ids:List Nat)(b:Bool):nR n ids (.bool b)=.bool b:=au _
theorem FW (n:Nat)(ids:List Nat)(b:Bool):qe n ids (.bool b)=.bool b:=au _
theorem FQ (n:Nat)(ids:List Nat)(b:Bool):lC n ids (.bool b)=.bool b:=au _
theorem Lu (b:Bool):cl0 (.bool b)=True:=au _
theorem Lt (b:Bool):clA (.bool b)=True:=au _
theorem Lq (b:Bool):clT (.bool b)=True:=au _
theorem KA (s:List UInt8):jG (.str s)=[]:=au _
theorem Kv (s:List UInt8):oJ (.str s)=[]:=au _
theorem Kp (s:List UInt8):dW (.str s)=[]:=au _
theorem LN (n:Nat)(ids:List Nat)(s:List UInt8):nR n ids (.str s)=.str s:=au _
theorem LI (n:Nat)(ids:List Nat)(s:List UInt8):qe n ids (.str s)=.str s:=au _
theorem Ly (n:Nat)(ids:List Nat)(s:List UInt8):lC n ids (.str s)=.str s:=au _
theorem Q5 (s:List UInt8):cl0 (.str s)=True:=au _
theorem Q0 (s:List UInt8):clA (.str s)=True:=au _
theorem QV (s:List UInt8):clT (.str s)=True:=au _
theorem Qq (sz:Nat)(rows:List (List DV))(k:SK):jG (.sl sz rows k)=[]:=au _
theorem Qp (sz:Nat)(rows:List (List DV))(k:SK):oJ (.sl sz rows k)=[]:=au _
theorem Qn (sz:Nat)(rows:List (List DV))(k:SK):dW (.sl sz rows k)=[]:=au _
theorem Rf (n:Nat)(ids:List Nat)(sz:Nat)(rows:List (List DV))(k:SK):nR n ids (.sl sz rows k)=.sl sz rows k:=au _
theorem Re (n:Nat)(ids:List Nat)(sz:Nat)(rows:List (List DV))(k:SK):qe n ids (.sl sz rows k)=.sl sz rows k:=au _
theorem Q9 (n:Nat)(ids:List Nat)(sz:Nat)(rows:List (List DV))(k:SK):lC n ids (.sl sz rows k)=.sl sz rows k:=au _
theorem Wm (sz:Nat)(rows:List (List DV))(k:SK):cl0 (.sl sz rows k)=gJ rows:=au _
theorem Wl (sz:Nat)(rows:List (List DV))(k:SK):clA (.sl sz rows k)=gJ rows:=au _
theorem Wk (sz:Nat)(rows:List (List DV))(k:SK):clT (.sl sz rows k)=gJ rows:=au _
theorem KC (o off m:Nat):jG (.own o off m)=[o]:=au _
theorem Kx (o off m:Nat):oJ (.own o off m)=[o]:=au _
theorem Kr (o off m:Nat):dW (.own o off m)=[o]:=au _
theorem LP (n:Nat)(ids:List Nat)(o off m:Nat):nR n ids (.own o off m)=.own (n+pos o ids) off m:=au _
theorem LK (n:Nat)(ids:List Nat)(o off m:Nat):qe n ids (.own o off m)=.own (n+pos o ids) off m:=au _
theorem LB (n:Nat)(ids:List Nat)(o off m:Nat):lC n ids (.own o off m)=.own (n+pos o ids) off m:=au _
theorem Q7 (o off m:Nat):cl0 (.own o off m)=True:=au _
theorem Q2 (o off m:Nat):clA (.own o off m)=True:=au _
theorem QX (o off m:Nat):clT (.own o off m)=True:=au _
theorem KB (o i j:Nat):jG (.ptr o i j)=[o]:=au _
theorem Kw (o i j:Nat):oJ (.ptr o i j)=[o]:=au _
theorem Kq (o i j:Nat):dW (.ptr o i j)=[o]:=au _
theorem LO (n:Nat)(ids:List Nat)(o i j:Nat):nR n ids (.ptr o i j)=.ptr (n+pos o ids) i j:=au _
theorem LJ (n:Nat)(ids:List Nat)(o i j:Nat):qe n ids (.ptr o i j)=.ptr (n+pos o ids) i j:=au _
theorem LA (n:Nat)(ids:List Nat)(o i j:Nat):lC n ids (.ptr o i j)=.ptr (n+pos o ids) i j:=au _
theorem Q6 (o i j:Nat):cl0 (.ptr o i j)=True:=au _
theorem Q1 (o i j:Nat):clA (.ptr o i j)=True:=au _
theorem QW (o i j:Nat):clT (.ptr o i j)=True:=au _
theorem Kz (cs:List DV):oJ (.agg cs)=cs.flatMap jG:=au _
theorem Kt (cs:List DV):dW (.agg cs)=cs.flatMap jG:=au _
theorem Ko (cs:List DV):dW (.tup cs)=cs.flatMap oJ:=au _
theorem LM (n:Nat)(ids:List Nat)(cs:List DV):qe n ids (.agg cs)=.agg (cs.map (nR n ids)):=au _
theorem LF (n:Nat)(ids:List Nat)(cs:List DV):lC n ids (.agg cs)=.agg (cs.map (nR n ids)):=au _
theorem Lx (n:Nat)(ids:List Nat)(cs:List DV):lC n ids (.tup cs)=.tup (cs.map (qe n ids)):=au _
theorem Q4 (cs:List DV):clA (.agg cs)=zC cl0 cs:=by simp [clA,ri]
theorem QZ (cs:List DV):clT (.agg cs)=zC cl0 cs:=by simp [clT,clA,ri]
theorem QU (cs:List DV):clT (.tup cs)=zC clA cs:=by simp [clT,ri]
theorem PE (o:Nat):pos o []=0:=au _
theorem JP (o a:Nat)(l:List Nat):pos o (a::l)=if a=o then 0 else pos o l+1:=au _
theorem Ls (sz:Nat)(rows:List (List DV)):Ca (.arr sz rows)=gJ rows:=au _
theorem Lr (cs:List DV):Ca (.box cs)=zC Cl cs:=by simp [Ca,ri]
theorem Mh (p:DV→Prop):zC p []=True:=au _
theorem F9 (p:DV→Prop)(c:DV)(l:List DV):zC p (c::l)=(p c∧zC p l):=au _
theorem J5:Bi []=True:=au _
theorem EV (a:Nat)(l:List Nat):Bi (a::l)=(rQ a l∧Bi l):=au _
theorem ET (a:Nat):rQ a []=True:=au _
theorem Bf (a b:Nat)(l:List Nat):rQ a (b::l)=(¬a=b∧rQ a l):=au _
theorem Fh (n:Nat)(T:aj)(k:aj→Prop):BM n T [] k=k []:=au _
theorem BJ (n:Nat)(T:aj)(i:Nat)(l:List Nat)(k:aj→Prop):BM n T (i::l) k=(n≤i∧bu T[i]? fun x=>bu x fun ob=>Ca ob∧BM n T l fun os=>k (some ob::os)):=au _
theorem Pt (n:Nat)(d:DV)(T:aj)(K:DV→aj→Prop):Ax n d T K=(Bi (dW d)∧clT d∧BM n T (dW d) fun os=>K (lC n (dW d) d) os):=by simp [Ax,HF]
theorem zm (row:List DV)(l:List (List DV)):gJ (row::l)=(zC Cl row∧gJ l):=by simp [gJ,ri]
theorem sG:gJ []=True:=eq_true Ol
theorem sH (k:IntKind)(l:List Int):gJ (af k l)=True:=eq_true (tT k l)
theorem sF (k:IntKind)(v:Int):gJ [[.int k v]]=True:=eq_true (tT k [v])
theorem Gm (k:IntKind)(v:Int):Cl (.int k v)=True:=eq_true (Cl.int k v)
theorem Db (b:Bool):Cl (.bool b)=True:=eq_true (Cl.bool b)
theorem Gl (s:List UInt8):Cl (.str s)=True:=eq_true (Cl.str s)
theorem Zn (e e2:List (Nat × DV))(o o2:aj):St.wk ⟨e,o⟩ ⟨e2,o2⟩=(BZ e e2∧fj o o2):=au _
theorem Fx (e:List (Nat × DV)):BZ e []=True:=by simp [BZ]
theorem BY {e:List (Nat × DV)}{t:Nat}{d:DV}{l:List (Nat × DV)}:BZ e ((t,d)::l)=((d=.undef∨wkT (St.look t e) d)∧BZ e l):=by
 simp [BZ]
theorem Cx (l:List Int)(n:Nat)(f:Int→Prop):bu l[n]? f=(n<l.length∧f (l.getD n 0)):=by
 by_cases h:n<l.length
 ·simp [List.getElem?_eq_getElem h,bu,h]
 ·simp [List.getElem?_eq_none (Nat.le_of_not_lt h),bu,h]
theorem Cw (l:List UInt8)(n:Nat)(f:UInt8→Prop):bu l[n]? f=(n<l.length∧f (l.getD n 0)):=by
 by_cases h:n<l.length
 ·simp [List.getElem?_eq_getElem h,bu,h]
 ·simp [List.getElem?_eq_none (Nat.le_of_not_lt h),bu,h]
theorem yf (o:aj):fj o o=True:=eq_true (aJ o)
theorem Bd:fj [] []=True:=au _
theorem pV (a:Option Ob)(l m:aj):fj (a::l) (none::m)=fj l m:=by simp [fj]
theorem ye (a b:Ob)(l m:aj):fj (some a::l) (some b::m)=(a=b∧fj l m):=by simp [fj]
theorem je (w:Nat)(a:Int):(((BitVec.ofInt w a).toNat:Nat):Int)=a % (2 ^ w:Int):=by
 rw [BitVec.toNat_ofInt,Int.toNat_of_nonneg (Int.emod_nonneg _ (by eF Nat.ne_of_gt (Nat.two_pow_pos w)))]
 simp
theorem Nw (w m:Nat)(h:m≤w):(BitVec.ofInt w (2 ^ m-1)).toNat=2 ^ m-1:=by
 have h2:(2:Nat) ^ m≤2 ^ w:=Nat.pow_le_pow_right (by omega) h
 have h3:=Nat.two_pow_pos m
 have h4:=je w (2 ^ m-1)
 have h6:(1:Int)≤2 ^ m:=by eF h3
 have h7:(2:Int) ^ m≤2 ^ w:=by eF h2
 rw [Int.emod_eq_of_lt (by omega) (by omega)] at h4
 have:((2 ^ m-1:Nat):Int)=2 ^ m-1:=by rw [Int.natCast_sub h3];simp
 omega
theorem Y8 (w m:Nat)(a:Int)(h:m≤w):(((BitVec.ofInt w a &&& BitVec.ofInt w (2 ^ m-1)).toNat:Nat):Int)=a % (2 ^ m:Int):=by
 rw [BitVec.toNat_and,Nw w m h,Nat.and_two_pow_sub_one_eq_mod]
 have h2:=je w a
 rw [Int.natCast_emod,h2]
 simp only [Int.natCast_pow,Int.cast_ofNat_Int]
 exact Int.emod_emod_of_dvd a (by eF Nat.pow_dvd_pow 2 h)
theorem wrap_small (k:IntKind)(m:Nat)(x:Int)(h:m<k.bits):k.wrap (x % (2 ^ m:Int))=x % (2 ^ m:Int):=by
 have h0:(0:Int)<2 ^ m:=by eF Nat.two_pow_pos m
 have h1:=Int.emod_nonneg x (Int.ne_of_gt h0)
 have h2:=Int.emod_lt_of_pos x h0
 have h3:(2:Int) ^ m≤2 ^ (k.bits-1):=by eF Nat.pow_le_pow_right (by omega) (by omega)
 have h4:(2:Int) ^ (k.bits-1)≤2 ^ k.bits:=by eF Nat.pow_le_pow_right (by omega) (by omega)
 unfold IntKind.wrap
 simp only
 rw [Int.emod_eq_of_lt h1 (by omega)]
 rw [if_neg]
 simp
 intro _
 omega
theorem vm (k:IntKind)(m:Nat)(a:Int)(h:m<k.bits):k.wrap ((BitVec.ofInt k.bits a &&& BitVec.ofInt k.bits (2 ^ m-1)).toNat:Nat)=a % (2 ^ m:Int):=by
 rw [Y8 k.bits m a (Nat.le_of_lt h),wrap_small k m a h]
theorem HY (a:Int):IntKind.u8.wrap ((BitVec.ofInt IntKind.u8.bits a &&& BitVec.ofInt IntKind.u8.bits 7).toNat:Nat)=a % 8:=vm .u8 3 a (by decide)
theorem CE (a:Int):IntKind.u8.wrap ((BitVec.ofInt IntKind.u8.bits a &&& BitVec.ofInt IntKind.u8.bits 15).toNat:Nat)=a % 16:=vm .u8 4 a (by decide)
theorem CD (a:Int):IntKind.u8.wrap ((BitVec.ofInt IntKind.u8.bits a &&& BitVec.ofInt IntKind.u8.bits 31).toNat:Nat)=a % 32:=vm .u8 5 a (by decide)
theorem vn (a:Int):IntKind.u8.wrap ((BitVec.ofInt IntKind.u8.bits a &&& BitVec.ofInt IntKind.u8.bits 63).toNat:Nat)=a % 64:=vm .u8 6 a (by decide)
theorem aaj (w m:Nat)(x y:Int)(hx:x % 2 ^ m=0)(h0:0≤x)(hy:0≤y)(hy2:y<2 ^ m)(hw:x+y<2 ^ w):(((BitVec.ofInt w x ||| BitVec.ofInt w y).toNat:Nat):Int)=x+y:=by
 have h1:=je w x
 have h2:=je w y
 rw [Int.emod_eq_of_lt h0 (by omega)] at h1
 rw [Int.emod_eq_of_lt hy (by omega)] at h2
 rw [BitVec.toNat_or]
 generalize (BitVec.ofInt w x).toNat=a at h1 ⊢
 generalize (BitVec.ofInt w y).toNat=b at h2 ⊢
 subst h1 h2
 have hb:b<2 ^ m:=by eF hy2
 have ha:a % 2 ^ m=0:=by eF hx
 have:a=2 ^ m*(a / 2 ^ m):=by
  have:=Nat.div_add_mod a (2 ^ m)
  omega
 rw [this,←Nat.two_pow_add_eq_or_of_lt hb]
 simp
theorem tg (m:Nat)(x y:Int)(hx:x % 2 ^ m=0)(h0:0≤x)(hy:0≤y)(hy2:y<2 ^ m)(hw:x+y≤2147483647):IntKind.i32.wrap ((BitVec.ofInt IntKind.i32.bits x ||| BitVec.ofInt IntKind.i32.bits y).toNat:Nat)=x+y:=by
 rw [aaj IntKind.i32.bits m x y hx h0 hy hy2 (by simp only [IntKind.bits];omega),MI (by omega) (by omega)]
theorem F8 (a:Int):IntKind.u8.wrap ((BitVec.ofInt IntKind.u8.bits a &&& BitVec.ofInt IntKind.u8.bits 192).toNat:Nat)=a % 256 / 64*64:=by
 have h1:=je 8 a
 have key:∀b:Fin 256,(b.val &&& 192)=b.val / 64*64:=by decide +kernel
 rw [BitVec.toNat_and]
 have h2:(BitVec.ofInt IntKind.u8.bits 192).toNat=192:=by decide
 rw [h2]
 change (((BitVec.ofInt IntKind.u8.bits a).toNat:Nat):Int)=a % 256 at h1
 have h3:(BitVec.ofInt IntKind.u8.bits a).toNat<256:=(BitVec.ofInt IntKind.u8.bits a).isLt
 generalize (BitVec.ofInt IntKind.u8.bits a).toNat=b at h1 h3 ⊢
 have h4:=key ⟨b,h3⟩
 simp only at h4
 rw [h4,wU8] <;> omega
theorem Ed (a:Int):IntKind.i32.wrap (a*2 ^ min (6:Int).toNat IntKind.i32.bits)=IntKind.i32.wrap (a*64):=rfl
theorem az.weaken {E:Prg}{f:Nat}{args:List DV}{R R2:Nat→DV→aj→Prop}(h:az E f args R)(hR:∀n r os,R n r os→∃r2,wkT r r2∧R2 n r2 os):az E f args R2:=by
 intro n G w vs h1 h2 h3 h4
 refine Calls.mono (h n G w vs h1 h2 h3 h4) fun e w' ⟨v,r,T',G',a,⟨os,ho,hr⟩,hl,cT,hh,hf⟩=>?_
 obtain ⟨r2,hw,hr2⟩:=hR n r os hr
 exact ⟨v,r2,T',G',a,⟨os,ho,hr2⟩,hl,qI hw cT,hh,hf⟩
theorem az.args {E:Prg}{f:Nat}{args args2:List DV}{R:Nat→DV→aj→Prop}(h:az E f args R)(hl:args2.length=args.length)(hw:∀(G:Gh) (i:Nat) d2 v,args2[i]?=some d2→Rel G d2 v→∃d,args[i]?=some d∧Rel G d v):az E f args2 R:=by
 intro n G w vs h1 h2 h3 h4
 refine h n G w vs h1 h2 (h3.trans hl) fun i d hd=>?_
 have hi:i<args2.length:=by rw [hl];exact (List.getElem?_eq_some_iff.1 hd).1
 obtain ⟨d',hd',hr⟩:=hw G i args2[i] _ (List.getElem?_eq_getElem hi) (h4 i _ (List.getElem?_eq_getElem hi))
 rw [hd] at hd'
 obtain rfl:=sj hd'
 exact hr
theorem Rel.Tb {G:Gh}{sz:Nat}{rows:List (List DV)}{k:SK}{v:Value}(h:Rel G (.sl sz rows k) v):(rows=[]∧Rel G (.sl sz rows .nil) v)∨Rel G (.sl sz rows .gk) v:=by
 cases h with
 | sl sz rows k p len cap b o vals a1 a2 a3 a4 a5 a6 a7=>
  cases p with
  | none=>
   have hr:rows=[]:=by
    by_cases hr:rows=[]
    ·exact hr
    ·cases a4 hr
   have hc:cap=0:=by
    cases k with
    | any=>exact a2 rfl
    | nil=>exact a2.2
    | gk=>cases a2
    | zero=>exact a2
   exact .inl ⟨hr,.sl sz rows .nil none len cap b o vals a1 ⟨rfl,hc⟩ a3 a4 a5 a6 a7⟩
  | some x=>exact .inr (.sl sz rows .gk _ len cap b o vals a1 rfl a3 a4 a5 a6 a7)
theorem az.oP {E:Prg}{f:Nat}{i:Nat}{args:List DV}{sz:Nat}{rows:List (List DV)}{k:SK}{R:Nat→DV→aj→Prop}(hi:args[i]?=some (.sl sz rows k))(h1:rows=[]→az E f (args.set i (.sl sz rows .nil)) R)(h2:az E f (args.set i (.sl sz rows .gk)) R):az E f args R:=by
 intro n G w vs g1 g2 g3 g4
 have hlt:i<args.length:=(List.getElem?_eq_some_iff.1 hi).1
 have rest:∀x,Rel G x (vs.getD i undef)→∀(j:Nat) d,(args.set i x)[j]?=some d→Rel G d (vs.getD j undef):=fun x hx j d hd=>by
  by_cases e:i=j
  ·subst e
   rw [List.getElem?_set_self hlt] at hd
   obtain rfl:=sj hd
   exact hx
  ·rw [List.getElem?_set_ne e] at hd
   exact g4 j d hd
 rcases (g4 i _ hi).Tb with ⟨hr,h⟩ | h
 ·exact h1 hr n G w vs g1 g2 (by simpa using g3) (rest _ h)
 ·exact h2 n G w vs g1 g2 (by simpa using g3) (rest _ h)
theorem az.cY {E:Prg}{F:dz}(hF:FOk E F){f:Nat}{ann:List Ann}{rf:RFn}{args:List DV}{res:Nat→DV × aj}(hc:aK E.P ann f=some rf)(hargs:args.length≤rf.n)
  (h:∀n,rf.code.wp E F rf.n (jW rf.res fun d T'=>n≤T'.length∧Ax n d T' fun d' os=>wkT d' (res n).1∧os=(res n).2) ⟨dN 0 args,List.replicate n none⟩):az E f args fun n r os=>r=(res n).1∧os=(res n).2:=by
 have h1:az E f args fun n r os=>wkT r (res n).1∧os=(res n).2:=by
  intro n
  have h1:bN E f args (List.replicate n none) fun r T'=>Ax n r T' fun d' os=>wkT d' (res n).1∧os=(res n).2:=by
   refine bN.aE hF hc hargs (RC.wp_mono _ (h n) fun e st hh=>?_)
   have key:∀st:St,(match eZ st rf.res with
     | some d=>n≤st.ay.length∧Ax n d st.ay fun d' os=>wkT d' (res n).1∧os=(res n).2
     | none=>False)→(match eZ st rf.res with
     | some d=>(List.replicate n (none:Option Ob)).length≤st.ay.length∧Ax n d st.ay fun d' os=>wkT d' (res n).1∧os=(res n).2
     | none=>False):=fun st hh=>by
    cases hres:eZ st rf.res with
    | none=>rw [hres] at hh;exact hh
    | some d=>rw [hres] at hh;exact ⟨by simpa using hh.1,hh.2⟩
   cases e with
   | normal=>exact key st hh
   | ret=>exact key st hh
   | _=>exact hh
  exact (h1.canon fun r T' hr=>by
   obtain ⟨g,r',os,hg,hK⟩:=Ez hr
   exact ⟨g,r',os,hg,os,rfl,hK⟩)
 exact h1.weaken fun n r os ⟨h1,h2⟩=>⟨_,h1,rfl,h2⟩
theorem rU (k:IntKind)(a:Int):[[DV.int k a]]=af k [a]:=au _
theorem rS (k:IntKind)(a:Int)(l:List Int):[DV.int k a]::af k l=af k (a::l):=au _
theorem dj (a b:List DV):wkT (.tup a) (.tup b)=wkL wkA a b:=au _
theorem Gq (a b:List DV):wkT (.agg a) (.agg b)=wkL wk0 a b:=au _
theorem dw (a b:List DV):wkA (.agg a) (.agg b)=wkL wk0 a b:=au _
theorem dm (p:DV→DV→Prop):wkL p [] []=True:=au _
theorem cF (p:DV→DV→Prop)(x y:DV)(a b:List DV):wkL p (x::a) (y::b)=(p x y∧wkL p a b):=au _
theorem TC (sz:Nat)(rows:List (List DV))(k:SK)(sz2:Nat)(kE:List (List DV))(k2:SK):wkT (.sl sz rows k) (.sl sz2 kE k2)=(rows=kE∧(k2=.any∨k=k2)∧(sz=sz2∨rows=[])):=au _
theorem eW (sz:Nat)(rows:List (List DV))(k:SK)(sz2:Nat)(kE:List (List DV))(k2:SK):wkA (.sl sz rows k) (.sl sz2 kE k2)=(rows=kE∧(k2=.any∨k=k2)∧(sz=sz2∨rows=[])):=au _
theorem eX (sz:Nat)(rows:List (List DV))(k:SK)(sz2:Nat)(kE:List (List DV))(k2:SK):wk0 (.sl sz rows k) (.sl sz2 kE k2)=(rows=kE∧(k2=.any∨k=k2)∧(sz=sz2∨rows=[])):=au _
theorem Ot (k:IntKind)(n:Int)(d:DV):wkT (.int k n) d=(DV.int k n=d):=au _
theorem Oy (k:IntKind)(n:Int)(d:DV):wkA (.int k n) d=(DV.int k n=d):=au _
theorem cV (k:IntKind)(n:Int)(d:DV):wk0 (.int k n) d=(DV.int k n=d):=au _
theorem It (b:Bool)(d:DV):wkT (.bool b) d=(DV.bool b=d):=au _
theorem Iu (b:Bool)(d:DV):wkA (.bool b) d=(DV.bool b=d):=au _
theorem Iw (b:Bool)(d:DV):wk0 (.bool b) d=(DV.bool b=d):=au _
theorem On (s:List UInt8)(d:DV):wkT (.str s) d=(DV.str s=d):=au _
theorem Ou (s:List UInt8)(d:DV):wkA (.str s) d=(DV.str s=d):=au _
theorem Oz (s:List UInt8)(d:DV):wk0 (.str s) d=(DV.str s=d):=au _
theorem Oq (o off n:Nat)(d:DV):wkT (.own o off n) d=(DV.own o off n=d):=au _
theorem Ox (o off n:Nat)(d:DV):wkA (.own o off n) d=(DV.own o off n=d):=au _
theorem OA (o off n:Nat)(d:DV):wk0 (.own o off n) d=(DV.own o off n=d):=au _
theorem Oo (o i j:Nat)(d:DV):wkT (.ptr o i j) d=(DV.ptr o i j=d):=au _
theorem Ow (o i j:Nat)(d:DV):wkA (.ptr o i j) d=(DV.ptr o i j=d):=au _
section
open Go.RowKit Go.ChangeShapes Go.WideShapes
inductive CS where
 | int (k:IntKind)
 | bool
 | str
 | sl (row:List CS)
def I6 (P:Program)(sh:TypeId→Option (List CS)):List Field→Nat→Option (List CS)
 | [],_=>some []
 | f::fs,off=>match sh f.type with
  | some l=>if f.offset=off∧P.cellsOf f.type=l.length then (I6 P sh fs (off+l.length)).map (l++·) else none
  | none=>none
def ue (P:Program):Nat→TypeId→Option (List CS)
 | 0,_=>none
 | n+1,t=>match P.underlying t with
  | some .bool=>some [.bool]
  | some (.int k)=>some [.int k]
  | some .string=>some [.str]
  | some (.slice e)=>match ue P n e with
   | some row=>if row.length=P.cellsOf e∧0<row.length then some [.sl row] else none
   | none=>none
  | some (.struct fs)=>match I6 P (ue P n) fs.toList 0 with
   | some l=>if l.length=P.cellsOf t then some l else none
   | none=>none
  | _=>none
inductive zD:CS→DV→Prop where
 | int (k:IntKind) (n:Int):k.min≤n→n≤k.max→zD (.int k) (.int k n)
 | bool (b:Bool):zD .bool (.bool b)
 | str (s:List UInt8):s.length≤9223372036854775807→zD .str (.str s)
 | sl (row:List CS) (rows:List (List DV)):rows.length≤9223372036854775807→(∀r∈rows,r.length=row.length)→
   (∀r∈rows,∀(i:Nat) c d,row[i]?=some c→r[i]?=some d→zD c d)→zD (.sl row) (.sl row.length rows .any)
def Gh.all (w:World):Gh:={ rd:=fun a=>match w.cell? a with | some v=>if v.oneCell'=true then some v else none | none=>none,pl:=fun _=>none}
theorem Gh.Ww {w:World}{a:Addr}{v:Value}(h:w.cell? a=some v)(h1:v.oneCell'=true):(Gh.all w).rd a=some v:=by simp [Gh.all,h,h1]
theorem Gh.Wx (w:World):rE (Gh.all w) [] w where
 pls:=fun k p h=>by simp [Gh.all] at h
 live:=fun k ob h=>by simp at h
 sep:=fun k k' rows dA p p' m m' h=>by simp at h
 rdv:=fun a v h=>by
  simp only [Gh.all] at h
  split at h
  ·rename_i x hx
   split at h
   ·rename_i h1;obtain rfl:=sj h;exact ⟨hx,h1⟩
   ·cases h
  ·cases h
 rds:=fun k rows p m h=>by simp at h
section
variable {H:Type} {enc:TypeId × Value→H} {P:Program} {w:World}
theorem HZ (a:Addr)(m n:Nat):(a.add m).add n=a.add (m+n):=by
 simp only [Addr.add]
 by_cases hm:m=0
 ·subst hm;simp
 ·by_cases hn:n=0
  ·subst hn;simp
  ·simp [hm,hn,Nat.add_assoc]
theorem CH {a:Addr}(h:a.spot=none)(n:Nat):a.add n=⟨a.block,a.off+n,none⟩:=by
 cases a
 simp at h
 subst h
 simp only [Addr.add]
 split
 ·rename_i h;subst h;rfl
 ·rfl
def vP (w:World)(l:List CS)(cs:List Value):Prop:=
 cs.length=l.length∧∃ds:List DV,ds.length=l.length∧∀(i:Nat) c d v,l[i]?=some c→ds[i]?=some d→cs[i]?=some v→zD c d∧Rel (Gh.all w) d v∧v.oneCell'=true
theorem vP.one {c:CS}{v:Value}{d:DV}(h:zD c d)(h2:Rel (Gh.all w) d v)(h3:v.oneCell'=true):vP w [c] [v]:=by
 refine ⟨rfl,[d],rfl,fun i c' d' v' hc hd hv=>?_⟩
 rcases i with _ | i
 ·simp at hc hd hv;subst hc hd hv;exact ⟨h,h2,h3⟩
 ·simp at hc
theorem vP.append {l l':List CS}{cs cs':List Value}(h:vP w l cs)(h':vP w l' cs'):vP w (l++l') (cs++cs'):=by
 obtain ⟨h1,ds,h2,h3⟩:=h
 obtain ⟨h1',ds',h2',h3'⟩:=h'
 refine ⟨by simp [h1,h1'],ds++ds',by simp [h2,h2'],fun i c d v hc hd hv=>?_⟩
 by_cases hi:i<l.length
 ·rw [List.getElem?_append_left (by omega)] at hc hd hv
  exact h3 i c d v hc hd hv
 ·rw [List.getElem?_append_right (by omega)] at hc hd hv
  rw [h2] at hd;rw [h1] at hv
  exact h3' _ c d v hc hd hv
theorem I5 {sh:TypeId→Option (List CS)}{base m:Nat}{held:Bool}{spare:Nat→Bool}
  (ih:∀t l,sh t=some l→∀cs x,DataW.trod enc P w base spare held m t cs=some x→vP w l cs):∀(fs:List Field) (off:Nat) (l:List CS) (cs:List Value),I6 P sh fs off=some l→cs.length=off+l.length→
  (∀f∈fs,∃x,DataW.trod enc P w base spare held m f.type ((cs.drop f.offset).take (P.cellsOf f.type))=some x)→vP w l (cs.drop off)
 | [],off,l,cs,h,hl,hx=>by
  obtain rfl:=sj h
  have:cs.drop off=[]:=List.drop_eq_nil_of_le (by simp at hl;omega)
  rw [this]
  exact ⟨rfl,[],rfl,fun i c d v hc=>by simp at hc⟩
 | f::fs,off,l,cs,h,hl,hx=>by
  simp only [I6] at h
  split at h
  ·rename_i lf hlf
   split at h
   ·rename_i hc
    cases hr:I6 P sh fs (off+lf.length) with
    | none=>rw [hr] at h;cases h
    | some lr=>
     rw [hr] at h
     obtain rfl:=sj h
     obtain ⟨x,hx1⟩:=hx f (by simp)
     rw [hc.1,hc.2] at hx1
     have h1:=ih _ _ hlf _ _ hx1
     have h2:=I5 ih fs (off+lf.length) lr cs hr (by simp at hl;omega) fun f hf=>hx f (by simp [hf])
     have:cs.drop off=(cs.drop off).take lf.length++cs.drop (off+lf.length):=by rw [←List.drop_drop,List.take_append_drop]
     rw [this]
     exact h1.append h2
   ·cases h
  ·cases h
theorem zZ {base:Nat}{held:Bool}{spare:Nat→Bool}:∀(n:Nat) (t:TypeId) (l:List CS),ue P n t=some l→∀(fuel:Nat) (cs:List Value) (x:DataW H × List MemPlace),
  DataW.trod enc P w base spare held fuel t cs=some x→vP w l cs
 | 0,t,l,h,_,_,_,_=>by cases h
 | n+1,t,l,h,fuel,cs,x,hx=>by
  simp only [ue] at h
  split at h
  ·rename_i ht;obtain rfl:=sj h
   obtain ⟨b,rfl,rfl⟩:=DataW.trod_bool ht hx
   exact .one (.bool b) (.bool b) rfl
  ·rename_i k ht;obtain rfl:=sj h
   obtain ⟨n,rfl,rfl,hw⟩:=DataW.trod_int ht hx
   have:k.min≤n∧n≤k.max:=by simpa [Lit.wf] using hw
   exact .one (.int k n this.1 this.2) (.int k n) rfl
  ·rename_i ht;obtain rfl:=sj h
   obtain ⟨s,rfl,rfl,hw⟩:=DataW.trod_string ht hx
   have e:s=⟨s.data.toList.toArray⟩:=by cases s;rfl
   refine .one (d:=.str s.data.toList) (.str _ (by have:s.size=s.data.toList.length:=by cases s;rfl
                            rw [←this];have h2:maxLen=9223372036854775807:=by decide
                            omega)) ?_ rfl
   rw [e];exact .str _
  ·rename_i e ht
   split at h
   ·rename_i row hrow
    split at h
    ·rename_i hc
     obtain rfl:=sj h
     rcases DataW.trod_slice ht hx with ⟨rfl,rfl⟩ | ⟨a,len,cap,elems,rest,m,_,rfl,rfl,hb,hl,hm,hlen,hel,_,_⟩
     ·refine .one (d:=.sl row.length [] .any) (.sl row [] (by simp) (by simp) (by simp)) ?_ rfl
      exact .sl _ _ _ _ _ _ 0 0 (fun _ _=>Go.undef) rfl (fun _=>rfl) (Nat.le_refl _) (by simp) (by simp) (by simp) (by simp)
     ·have key:∀i,∃cs':List Value,∃ds:List DV,i<len→ds.length=row.length∧cs'.length=row.length∧(∀j,j<row.length→w.cell? (a.add (i*row.length+j))=cs'[j]?)∧
        ∀(j:Nat) c d v,row[j]?=some c→ds[j]?=some d→cs'[j]?=some v→zD c d∧Rel (Gh.all w) d v∧v.oneCell'=true:=by
       intro i
       by_cases hi:i<len
       ·have h1:=hel i hi
        rw [List.getElem?_eq_getElem (by omega),Option.bind_eq_some_iff] at h1
        obtain ⟨cs',h2,h3⟩:=h1
        obtain ⟨h4,ds,h5,h6⟩:=zZ n e row hrow m cs' _ h3
        obtain ⟨_,h7,h8⟩:=World.cells?_some h2
        refine ⟨cs',ds,fun _=>⟨h5,h4,fun j hj=>?_,h6⟩⟩
        have:=h8 j (by omega)
        rw [←hc.1] at this
        rw [←this]
        rw [HZ]
       ·exact ⟨[],[],fun h=>absurd h hi⟩
      have aay:=Classical.axiomOfChoice key
      obtain ⟨cf,aay⟩:=aay
      have Kj:=Classical.axiomOfChoice aay
      obtain ⟨df,Kj⟩:=Kj
      have acR:maxLen=9223372036854775807:=by decide
      have ZA:0<len→a.spot=none:=fun h0=>by
       obtain ⟨k1,k2,k3,_⟩:=Kj 0 h0
       have:=k3 0 hc.2
       rw [List.getElem?_eq_getElem (by omega)] at this
       simp only [Nat.zero_mul,Nat.add_zero] at this
       rw [Addr.add,if_pos rfl] at this
       unfold World.cell? at this
       split at this
       ·split at this
        ·cases this
        ·rename_i hs
         cases hsp:a.spot with
         | none=>rfl
         | some s=>rw [hsp] at hs;simp at hs
       ·cases this
      have KI:∀(i:Nat) (r:List DV),((List.range len).map df)[i]?=some r→i<len∧r=df i:=fun i r hr=>by
       simp only [List.getElem?_map,Option.map_eq_some_iff] at hr
       obtain ⟨i',hi',rfl⟩:=hr
       have:=List.getElem?_range (n:=len) (i:=i)
       by_cases hi:i<len
       ·rw [List.getElem?_range hi] at hi';obtain rfl:=sj hi';exact ⟨hi,rfl⟩
       ·rw [List.getElem?_eq_none (by simp;omega)] at hi';cases hi'
      refine .one (d:=.sl row.length ((List.range len).map df) .any) (.sl row _ (by rw [List.length_map,List.length_range];exact Nat.le_trans hl (acR ▸ hm)) ?_ ?_) ?_ rfl
      ·intro r hr
       obtain ⟨i,hi⟩:=List.getElem?_of_mem hr
       obtain ⟨hi2,rfl⟩:=KI i r hi
       exact (Kj i hi2).1
      ·intro r hr j c d h1 h2
       obtain ⟨i,hi⟩:=List.getElem?_of_mem hr
       obtain ⟨hi2,rfl⟩:=KI i r hi
       obtain ⟨k1,k2,k3,k4⟩:=Kj i hi2
       have hj:j<row.length:=(List.getElem?_eq_some_iff.1 h1).1
       exact (k4 j c d _ h1 h2 (List.getElem?_eq_getElem (by omega))).1
      ·refine .sl _ _ _ _ _ _ a.block a.off (fun i j=>(cf i).getD j Go.undef) (by simp) (fun h=>by cases h) hl ?_ ?_ ?_ ?_
       ·intro hne
        have h0:0<len:=by
         rcases Nat.eq_zero_or_pos len with h0 | h0
         ·subst h0;simp at hne
         ·exact h0
        have:=ZA h0
        cases a;simp at this;subst this;rfl
       ·intro i r hi
        obtain ⟨hi2,rfl⟩:=KI i r hi
        exact (Kj i hi2).1
       ·intro i j r c hi hj
        obtain ⟨hi2,rfl⟩:=KI i r hi
        obtain ⟨k1,k2,k3,k4⟩:=Kj i hi2
        have hj':j<row.length:=by have:=(List.getElem?_eq_some_iff.1 hj).1;omega
        have h1:=k3 j hj'
        have h2:(cf i)[j]?=some ((cf i).getD j Go.undef):=by rw [List.getD_eq_getElem?_getD,List.getElem?_eq_getElem (by omega)];rfl
        have hs:=ZA (by omega)
        rw [h2] at h1
        have h3:a.add (i*row.length+j)=⟨a.block,a.off+(i*row.length+j),none⟩:=CH hs _
        rw [h3] at h1
        exact Gh.Ww h1 (k4 j _ c _ (List.getElem?_eq_getElem hj') hj h2).2.2
       ·intro i j r c hi hj
        obtain ⟨hi2,rfl⟩:=KI i r hi
        obtain ⟨k1,k2,k3,k4⟩:=Kj i hi2
        have hj':j<row.length:=by have:=(List.getElem?_eq_some_iff.1 hj).1;omega
        have h2:(cf i)[j]?=some ((cf i).getD j Go.undef):=by rw [List.getD_eq_getElem?_getD,List.getElem?_eq_getElem (by omega)];rfl
        exact (k4 j _ c _ (List.getElem?_eq_getElem hj') hj h2).2.1
    ·cases h
   ·cases h
  ·rename_i fs ht
   split at h
   ·rename_i l' hl'
    split at h
    ·rename_i hc
     obtain rfl:=sj h
     obtain ⟨xs,m,rfl,rfl,h1,h2,h3⟩:=DataW.trod_struct ht hx
     have:=I5 (enc:=enc) (P:=P) (w:=w) (base:=base) (held:=held) (spare:=spare) (m:=m) (fun t l h cs x=>zZ n t l h m cs x) fs.toList 0 l' cs hl' (by omega) fun f hf=>by
      obtain ⟨i,hi⟩:=List.getElem?_of_mem hf
      have hi':fs[i]?=some f:=by simpa using hi
      have:=h3 i f hi'
      have hlt:i<xs.length:=by have:=(Array.getElem?_eq_some_iff.1 hi').1;omega
      rw [List.getElem?_eq_getElem hlt] at this
      exact ⟨_,this⟩
     simpa using this
    ·cases h
   ·cases h
  ·cases h
end
end
section
open Go.RowKit Go.ChangeShapes Go.WideShapes
def isStruct (P:Program)(t:TypeId):Bool:=match P.underlying t with | some (.struct _)=>true | _=>false
def Y5 (P:Program)(t:TypeId):Option (Bool × List CS):=(ue P 8 t).map fun l=>(isStruct P t,l)
def My:Bool × List CS→DV→Prop
 | (false,l),d=>∃c,l=[c]∧zD c d
 | (true,l),d=>∃ds,d=.agg ds∧ds.length=l.length∧∀(i:Nat) c x,l[i]?=some c→ds[i]?=some x→zD c x
def CB (P:Program):List TypeId→Option (List (Bool × List CS))
 | []=>some []
 | t::ts=>match Y5 P t,CB P ts with
  | some a,some l=>some (a::l)
  | _,_=>none
def vW:List (Bool × List CS)→List DV→Prop
 | [],[]=>True
 | a::l,d::ds=>My a d∧vW l ds
 | _,_=>False
theorem vW.nil {ds:List DV}(h:vW [] ds):ds=[]:=by
 cases ds with
 | nil=>rfl
 | cons=>exact h.elim
theorem vW.cons {a:Bool × List CS}{l:List (Bool × List CS)}{ds:List DV}(h:vW (a::l) ds):∃d r,ds=d::r∧My a d∧vW l r:=by
 cases ds with
 | nil=>exact h.elim
 | cons d r=>exact ⟨d,r,rfl,h.1,h.2⟩
section
variable {H:Type} {enc:TypeId × Value→H} {P:Program} {w:World}
theorem HD {r:Reach}{b0:Nat}{t:TypeId}{v:Value}{l:List CS}(h:Value.okWide P w r b0 t v)(hs:ue P 8 t=some l)(hn:isStruct P t=false):v.cells.toList=[v]:=by
 unfold isStruct at hn
 have key:∀cs,v≠ .agg cs:=by
  intro cs e
  subst e
  rw [ue] at hs
  unfold Value.okWide Cell.okWide Cell.ok at h
  split at hs <;> rename_i ht <;> first | (rw [ht] at h;exact h.elim) | (rw [ht] at hn;cases hn) | cases hs
 cases v <;> first | rfl | exact absurd rfl (key _)
theorem Nv {r:Reach}{b0:Nat}{t:TypeId}{v:Value}(h:Value.okWide P w r b0 t v)(hn:isStruct P t=true):∃cs,v=.agg cs:=by
 unfold isStruct at hn
 split at hn
 ·rename_i ht
  unfold Value.okWide at h
  rw [ht] at h
  obtain ⟨cs,h,_⟩:=h
  exact ⟨cs,h⟩
 ·cases hn
theorem Y6 {r:Reach}{b0 base:Nat}{spare:Nat→Bool}{held:Bool}{t:TypeId}{v:Value}{d:DataW H}{ps:List MemPlace}{a:Bool × List CS}(ha:Y5 P t=some a)(hv:Value.okWide P w r b0 t v)
  (hd:DataW.Trod enc P w base spare held t v d ps):∃x,My a x∧Rel (Gh.all w) x v:=by
 unfold Y5 at ha
 cases hl:ue P 8 t with
 | none=>rw [hl] at ha;cases ha
 | some l=>
  rw [hl] at ha
  obtain rfl:=sj ha
  obtain ⟨fuel,hf⟩:=hd
  obtain ⟨h1,ds,h2,h3⟩:=zZ 8 t l hl fuel _ _ hf
  cases hn:isStruct P t with
  | false=>
   rw [HD hv hl hn] at h1 h3
   match l,h1 with
   | [c],_=>
    match ds,h2 with
    | [x],_=>
     obtain ⟨k1,k2,_⟩:=h3 0 c x v rfl rfl rfl
     exact ⟨x,⟨c,rfl,k1⟩,k2⟩
  | true=>
   obtain ⟨cs,rfl⟩:=Nv hv hn
   simp only [Value.cells] at h1 h3
   refine ⟨.agg ds,⟨ds,rfl,h2,fun i c x hc hx=>?_⟩,.agg ds cs (by simpa using h1.trans h2.symm) fun i c hc=>?_⟩
   ·have hi:i<cs.toList.length:=by have:=(List.getElem?_eq_some_iff.1 hc).1;omega
    exact (h3 i c x _ hc hx (List.getElem?_eq_getElem hi)).1
   ·have hi:i<ds.length:=(List.getElem?_eq_some_iff.1 hc).1
    have hi2:i<cs.toList.length:=by omega
    have hi3:i<cs.size:=by simpa using hi2
    have:=(h3 i _ c _ (List.getElem?_eq_getElem (by omega)) hc (List.getElem?_eq_getElem hi2)).2.1
    simpa [Array.getD,hi3] using this
theorem Mg {base b0:Nat}{spare:Nat→Bool}{held:Bool}{r:Reach}:∀{ts:List TypeId} {vs:List Value} {ds:List (DataW H)} {ps:List MemPlace} {l:List (Bool × List CS)},CB P ts=some l→
  (∀(j:Nat) t v,ts[j]?=some t→vs[j]?=some v→Value.okWide P w r b0 t v)→DataW.TrodAll enc P w base spare held ts vs ds ps→
  ∃dv:List DV,vW l dv∧dv.length=vs.length∧∀(i:Nat) d,dv[i]?=some d→Rel (Gh.all w) d (vs.getD i Go.undef)
 | [],[],[],ps,l,hl,hv,h=>by
  obtain rfl:=sj hl
  exact ⟨[],trivial,rfl,by simp⟩
 | t::ts,v::vs,d::ds,ps,l,hl,hv,⟨p,q,h1,h2,h3⟩=>by
  simp only [CB] at hl
  split at hl
  ·rename_i a l' ha hl'
   obtain rfl:=sj hl
   obtain ⟨x,hx,hr⟩:=Y6 ha (hv 0 t v rfl rfl) h1
   obtain ⟨dv,k1,k2,k3⟩:=Mg hl' (fun j t v ht hv'=>hv (j+1) t v (by simpa using ht) (by simpa using hv')) h2
   refine ⟨x::dv,⟨hx,k1⟩,by simp [k2],fun i d hd=>?_⟩
   rcases i with _ | i
   ·simp at hd;subst hd;simpa using hr
   ·have:=k3 i d (by simpa using hd)
    simpa using this
  ·cases hl
theorem HS {w':World}{a:Addr}{n:Nat}{cs:List Value}(hb:∀b:Nat,b<w.heap.size→w'.heap[b]?=w.heap[b]?)(h:w.cells? 0 a n=some cs):w'.cells? 0 a n=some cs:=by
 rw [←h]
 have hl:=(World.cells?_some h).2
 unfold World.cells?
 simp only [Nat.zero_le,if_true]
 have:∀i,i<n→w'.cell? (a.add i)=w.cell? (a.add i):=fun i hi=>by
  have h1:=hl.2 i hi
  rw [List.getElem?_eq_getElem (by omega)] at h1
  have h2:(a.add i).block<w.heap.size:=by
   unfold World.cell? at h1
   split at h1
   ·rename_i h2
    exact (Array.getElem?_eq_some_iff.1 h2).1
   ·cases h1
  unfold World.cell?
  rw [hb _ h2]
 have key:∀l:List Nat,(∀i∈l,i<n)→l.mapM (fun i=>w'.cell? (a.add i))=l.mapM (fun i=>w.cell? (a.add i)):=by
  intro l
  induction l with
  | nil=>intro _;rfl
  | cons x l ih=>intro hx;rw [List.mapM_cons,List.mapM_cons,this x (hx x (by simp)),ih fun i hi=>hx i (by simp [hi])]
 exact key _ fun i hi=>by simpa using hi
theorem oG {α β:Type}{f g:α→Option β}:∀{l:List α} {r:List β},l.mapM f=some r→(∀(i:Nat) x y,l[i]?=some x→r[i]?=some y→f x=some y→g x=some y)→l.mapM g=some r
 | [],r,h,_=>h
 | x::l,r,h,hg=>by
  rw [List.mapM_cons] at h ⊢
  cases hx:f x with
  | none=>rw [hx] at h;cases h
  | some y=>
   cases hl:l.mapM f with
   | none=>rw [hx,hl] at h;cases h
   | some ys=>
    rw [hx,hl] at h
    obtain rfl:=sj h
    rw [hg 0 x y rfl rfl hx,oG hl fun i x y h1 h2=>hg (i+1) x y (by simpa using h1) (by simpa using h2)]
    rfl
theorem sK {w':World}{sp:Nat→Bool}(hb:∀b:Nat,b<w.heap.size→w'.heap[b]?=w.heap[b]?):∀(n:Nat) (t:TypeId) (l:List CS),ue P n t=some l→∀(fuel:Nat) (cs:List Value) (x:DataW H × List MemPlace),
  DataW.trod enc P w 0 (fun _=>true) true fuel t cs=some x→(∀p∈x.2,sp p.block=true)→DataW.trod enc P w' 0 sp true fuel t cs=some x
 | 0,t,l,h,_,_,_,_=>by cases h
 | n+1,t,l,h,fuel,cs,x,hx=>by
  intro hsp
  cases fuel with
  | zero=>simp [DataW.trod] at hx
  | succ m=>
   simp only [ue] at h
   split at h
   ·rename_i ht
    obtain ⟨b,rfl,rfl⟩:=DataW.trod_bool ht hx
    simp [DataW.trod,ht]
   ·rename_i k ht
    obtain ⟨b,rfl,rfl,hw⟩:=DataW.trod_int ht hx
    simp [DataW.trod,ht,hw]
   ·rename_i ht
    obtain ⟨b,rfl,rfl,hw⟩:=DataW.trod_string ht hx
    simp [DataW.trod,ht,hw]
   ·rename_i e ht
    split at h
    ·rename_i row hrow
     split at h
     ·rename_i hc
      unfold DataW.trod at hx ⊢
      rw [ht] at hx ⊢
      split at hx
      all_goals (rename_i hA;first | cases hA | skip)
      all_goals first
       | exact hx
       | cases hx
       | skip
      rename_i a len cap
      simp only [if_true] at hx
      split at hx
      ·rename_i iK
       rw [if_pos iK]
       cases he:(List.range len).mapM fun i=>(w.cells? 0 (a.add (i*P.cellsOf e)) (P.cellsOf e)).bind (DataW.trod enc P w 0 (fun _=>true) true m e) with
       | none=>rw [he] at hx;cases hx
       | some elems=>
        rw [he] at hx
        simp only [Option.bind_some] at hx
        cases hr:(List.range (cap-len)).mapM fun j=>(w.cells? 0 (a.add ((len+j)*P.cellsOf e)) (P.cellsOf e)).bind (DataW.trod enc P w 0 (fun _=>true) true m e) with
        | none=>rw [hr] at hx;cases hx
        | some rest=>
         rw [hr] at hx
         obtain rfl:=sj hx
         have hel:elems.length=len:=by simpa using mapM_some_length he
         have hrl:rest.length=cap-len:=by simpa using mapM_some_length hr
         have step:∀(k:Nat) (y:DataW H × List MemPlace),(∀p∈y.2,sp p.block=true)→(w.cells? 0 (a.add (k*P.cellsOf e)) (P.cellsOf e)).bind (DataW.trod enc P w 0 (fun _=>true) true m e)=some y→
           (w'.cells? 0 (a.add (k*P.cellsOf e)) (P.cellsOf e)).bind (DataW.trod enc P w' 0 sp true m e)=some y:=by
          intro k y hy h1
          rw [Option.bind_eq_some_iff] at h1
          obtain ⟨cs',h2,h3⟩:=h1
          rw [HS hb h2,Option.bind_some]
          exact sK hb n e row hrow m cs' y h3 hy
         have hmem:∀y∈elems++rest,∀p∈y.2,sp p.block=true:=fun y hy p hp=>hsp p (by
          simp only [List.mem_append]
          exact Or.inr (List.mem_flatMap.2 ⟨y,hy,hp⟩))
         rw [oG he fun i k y h1 h2 h3=>step k y (hmem y (List.mem_append_left _ (List.mem_of_getElem? h2))) h3,Option.bind_some]
         have hr2:=oG hr fun i k y h1 h2 h3=>step (len+k) y (hmem y (List.mem_append_right _ (List.mem_of_getElem? h2))) h3
         by_cases hz:cap-len=0
         ·have hrn:rest=[]:=List.eq_nil_of_length_eq_zero (by omega)
          subst hrn
          rw [hz]
          split <;> rfl
         ·have hsa:sp a.block=true:=by
           have:MemPlace.cell a.block (a.off+0)∈MemPlace.row a ((elems.length+rest.length)*P.cellsOf e):=by
            unfold MemPlace.row
            refine List.mem_map.2 ⟨0,?_,rfl⟩
            rw [List.mem_range]
            exact Nat.mul_pos (by omega) (by omega)
           exact hsp (.cell a.block (a.off+0)) (by simp only [List.mem_append];exact Or.inl this)
          rw [if_pos hsa,hr2]
          rfl
      ·cases hx
     ·cases h
    ·cases h
   ·rename_i fs ht
    split at h
    ·rename_i l' hl'
     split at h
     ·rename_i hc
      unfold DataW.trod at hx ⊢
      rw [ht] at hx ⊢
      split at hx
      all_goals (rename_i hA;first | cases hA | skip)
      all_goals first
       | cases hx
       | (exfalso;gu;done)
       | skip
      rename_i cs _ _
      split at hx
      ·rename_i hcl
       rw [if_pos hcl]
       cases he:fs.toList.mapM fun f=>DataW.trod enc P w 0 (fun _=>true) true m f.type ((cs.drop f.offset).take (P.cellsOf f.type)) with
       | none=>rw [he] at hx;cases hx
       | some xs=>
        rw [he] at hx
        obtain rfl:=sj hx
        have hfs:∀(L:List Field) (off:Nat) (r:List CS),I6 P (ue P n) L off=some r→∀f∈L,∃lf,ue P n f.type=some lf:=by
         intro L
         induction L with
         | nil=>intro _ _ _ f hf;cases hf
         | cons g L ih=>
          intro off r h f hf
          simp only [I6] at h
          split at h
          ·rename_i lf hlf
           split at h
           ·cases hr:I6 P (ue P n) L (off+lf.length) with
            | none=>rw [hr] at h;cases h
            | some lr=>
             rcases List.mem_cons.1 hf with rfl | hf
             ·exact ⟨_,hlf⟩
             ·exact ih _ _ hr f hf
           ·cases h
          ·cases h
        rw [oG he fun i f y h1 h2 h3=>by
         obtain ⟨lf,hlf⟩:=hfs _ _ _ hl' f (List.mem_of_getElem? h1)
         exact sK hb n f.type lf hlf m _ y h3 fun p hp=>hsp p (List.mem_flatMap.2 ⟨y,List.mem_of_getElem? h2,hp⟩)]
        rfl
      ·cases hx
     ·cases h
    ·cases h
   ·cases h
theorem rG {w':World}{sp:Nat→Bool}(hb:∀b:Nat,b<w.heap.size→w'.heap[b]?=w.heap[b]?):∀{ts:List TypeId} {vs:List Value} {ds:List (DataW H)} {ps:List MemPlace} {l:List (Bool × List CS)},CB P ts=some l→
  DataW.TrodAll enc P w 0 (fun _=>true) true ts vs ds ps→(∀p∈ps,sp p.block=true)→DataW.TrodAll enc P w' 0 sp true ts vs ds ps
 | [],[],[],ps,l,hl,h,_=>h
 | t::ts,v::vs,d::ds,ps,l,hl,⟨p,q,⟨f,h1⟩,h2,h3⟩,hs=>by
  subst h3
  simp only [CB] at hl
  split at hl
  ·rename_i a l' ha hl'
   unfold Y5 at ha
   cases hl8:ue P 8 t with
   | none=>rw [hl8] at ha;cases ha
   | some lt=>
    exact ⟨p,q,⟨f,sK hb 8 t lt hl8 f _ _ h1 fun x hx=>hs x (List.mem_append_left _ hx)⟩,rG hb hl' h2 fun x hx=>hs x (List.mem_append_right _ hx),rfl⟩
  ·cases hl
end
end
section
open Go.RowKit Go.ChangeShapes Go.WideShapes
def flat {H:Type}:Nat→DataW H→List Value
 | n+1,.lit (.int k z)=> [.int k z]
 | n+1,.lit (.bool b)=> [.bool b]
 | n+1,.agg l=>l.flatMap (flat n)
 | _,_=> []
def xy (P:Program)(ok:TypeId→Bool):List Field→Nat→Option Nat
 | [],off=>some off
 | f::fs,off=>if ok f.type=true∧f.offset=off then xy P ok fs (off+P.cellsOf f.type) else none
def ve (P:Program):Nat→TypeId→Bool
 | 0,_=>false
 | n+1,t=>match P.underlying t with
  | some (.int _)=>true
  | some .bool=>true
  | some (.array k e)=>ve P n e && decide (P.cellsOf t=k*P.cellsOf e)
  | some (.struct fs)=>xy P (ve P n) fs.toList 0==some (P.cellsOf t)
  | _=>false
section
variable {H:Type} {enc:TypeId × Value→H} {P:Program} {w:World} {base:Nat} {spare:Nat→Bool} {held:Bool}
theorem pieces {α:Type}(sz:Nat):∀(k:Nat) (cs:List α),cs.length=k*sz→cs=(List.range k).flatMap fun i=>(cs.drop (i*sz)).take sz
 | 0,cs,h=>by
  have:cs=[]:=List.eq_nil_of_length_eq_zero (by simpa using h)
  subst this;rfl
 | k+1,cs,h=>by
  rw [List.range_succ_eq_map,List.flatMap_cons,List.flatMap_map]
  have h1:=pieces sz k (cs.drop sz) (by rw [List.length_drop,h,Nat.succ_mul];omega)
  simp only [List.drop_drop] at h1
  have h2:∀i,sz+i*sz=(i+1)*sz:=fun i=>by rw [Nat.succ_mul];omega
  simp only [h2] at h1
  simp only [Nat.zero_mul,List.drop_zero]
  conv=>lhs;rw [←List.take_append_drop sz cs,h1]
theorem jy {α β γ:Type}{f:α→List γ}{g:β→List γ}:∀{l:List α} {m:List β},l.length=m.length→(∀(i:Nat) a b,l[i]?=some a→m[i]?=some b→f a=g b)→l.flatMap f=m.flatMap g
 | [],[],_,_=>rfl
 | a::l,b::m,h,hg=>by
  rw [List.flatMap_cons,List.flatMap_cons,hg 0 a b rfl rfl,jy (by simpa using h) fun i a b h1 h2=>hg (i+1) a b (by simpa using h1) (by simpa using h2)]
theorem Fq {ok:TypeId→Bool}{m:Nat}{cs:List Value}:∀(fs:List Field) (off e:Nat),xy P ok fs off=some e→e=cs.length→off≤cs.length∧cs.drop off=fs.flatMap fun f=>(cs.drop f.offset).take (P.cellsOf f.type)
 | [],off,e,h,he=>by
  obtain rfl:=sj h
  refine ⟨by omega,?_⟩
  rw [he];simp
 | f::fs,off,e,h,he=>by
  simp only [xy] at h
  split at h
  ·rename_i hc
   obtain ⟨h1,h2⟩:=Fq (m:=m) (cs:=cs) fs _ _ h he
   refine ⟨by omega,?_⟩
   rw [List.flatMap_cons,←h2,hc.2,←List.drop_drop,List.take_append_drop]
  ·cases h
theorem vZ:∀(n:Nat) (t:TypeId),ve P n t=true→∀(fuel:Nat) (cs:List Value) (x:DataW H × List MemPlace),DataW.trod enc P w base spare held fuel t cs=some x→cs=flat n x.1
 | 0,t,h,_,_,_,_=>by cases h
 | n+1,t,h,fuel,cs,x,hx=>by
  simp only [ve] at h
  split at h
  ·rename_i k ht
   obtain ⟨z,rfl,rfl,_⟩:=DataW.trod_int ht hx
   rfl
  ·rename_i ht
   obtain ⟨z,rfl,rfl⟩:=DataW.trod_bool ht hx
   rfl
  ·rename_i k e ht
   simp only [Bool.and_eq_true,decide_eq_true_eq] at h
   obtain ⟨xs,m,rfl,rfl,h1,h2,h3⟩:=DataW.trod_array ht hx
   simp only [flat,List.flatMap_map]
   conv=>lhs;rw [pieces (P.cellsOf e) k cs (by rw [h1,h.2])]
   refine jy (by simp [h2]) fun i a b ha hb=>?_
   have hi:i<k:=by have:=(List.getElem?_eq_some_iff.1 ha).1;simpa using this
   rw [List.getElem?_range hi] at ha
   obtain rfl:=sj ha
   exact vZ n e h.1 m _ _ ((h3 i hi).trans hb)
  ·rename_i fs ht
   obtain ⟨xs,m,rfl,rfl,h1,h2,h3⟩:=DataW.trod_struct ht hx
   simp only [flat,List.flatMap_map]
   have h4:=(Fq (m:=0) (cs:=cs) fs.toList 0 (P.cellsOf t) (by simpa using h) h1.symm).2
   rw [List.drop_zero] at h4
   conv=>lhs;rw [h4]
   have hok:∀(L:List Field) (off e:Nat),xy P (ve P n) L off=some e→∀f∈L,ve P n f.type=true:=by
    intro L
    induction L with
    | nil=>intro _ _ _ f hf;cases hf
    | cons g L ih=>
     intro off e h f hf
     simp only [xy] at h
     split at h
     ·rename_i hc
      rcases List.mem_cons.1 hf with rfl | hf
      ·exact hc.1
      ·exact ih _ _ h f hf
     ·cases h
   refine jy (by simp [h2]) fun i a b ha hb=>?_
   have ha':fs[i]?=some a:=by simpa using ha
   exact vZ n a.type (hok _ _ _ (by simpa using h) a (List.mem_of_getElem? ha)) m _ _ ((h3 i a ha').trans hb)
  ·cases h
theorem laid_cells {laid:List (String × DataW Unit)}(h:laidMetH P laid w)(hn:laid.all (fun x=>x.2.handleName?.isNone)=true){name:String}{d:DataW Unit}(hm:(name,d)∈laid){g:Nat}{t:TypeId}{n:Nat}
  (hg:P.globalNamed name=some g) (hty:(P.globals[g]?).map (·.type)=some t) (hf:ve P n t=true):∀i,w.cell? ⟨g,i,none⟩=(flat n d)[i]?:=by
 have h0:laidMet P laid w:=by
  unfold laidMetH at h
  have:laid.filter (fun x=>x.2.handleName?.isSome)=[]:=by
   rw [List.filter_eq_nil_iff]
   intro x hx
   have:=List.all_eq_true.1 hn x hx
   simp at this
   simp [this]
  rw [this] at h
  exact h
 obtain ⟨ps,h1,h2⟩:=h0
 clear h hn h2
 induction laid generalizing ps with
 | nil=>cases hm
 | cons x r ih=>
  obtain ⟨n0,d0⟩:=x
  obtain ⟨g',t',cs,fuel,p,q,hg',adE,adD,hd,hr,_⟩:=h1
  rcases List.mem_cons.1 hm with e | hm
  ·obtain ⟨rfl,rfl⟩:=Prod.mk.injEq .. ▸ e
   obtain rfl:=sj (hg.symm.trans hg')
   obtain rfl:=sj (hty.symm.trans adE)
   intro i
   rw [World.var?_cell hg adD i,←vZ n t hf fuel _ _ hd]
   simp
  ·exact ih hm q hr
theorem Jg {g:Nat}{row:List DV}{vs:List Value}(h:∀i,w.cell? ⟨g,i,none⟩=vs[i]?)(hl:row.length=vs.length)(hr:∀(i:Nat) d v,row[i]?=some d→vs[i]?=some v→Rel (Gh.all w) d v∧v.oneCell'=true) :
  Rel (Gh.all w) (.rp row 0) (.pointer (some ⟨g,0,none⟩)):=by
 have:=Rel.rp (G:=Gh.all w) row 0 g 0 (fun m=>vs.getD m Go.undef) (fun m c hm=>?_) (fun m c hm=>?_)
 ·exact this
 ·have hi:m<vs.length:=by have:=(List.getElem?_eq_some_iff.1 hm).1;omega
  have h1:vs[m]?=some (vs.getD m Go.undef):=by rw [List.getD_eq_getElem?_getD,List.getElem?_eq_getElem hi];rfl
  rw [Nat.zero_add]
  exact Gh.Ww ((h m).trans h1) (hr m c _ hm h1).2
 ·have hi:m<vs.length:=by have:=(List.getElem?_eq_some_iff.1 hm).1;omega
  have h1:vs[m]?=some (vs.getD m Go.undef):=by rw [List.getD_eq_getElem?_getD,List.getElem?_eq_getElem hi];rfl
  exact (hr m c _ hm h1).1
theorem xO:∀{ts:List TypeId} {vs:List Value} {ds:List (DataW H)} {ps:List MemPlace},DataW.TrodAll enc P w base spare held ts vs ds ps→ds.length=ts.length
 | [],[],[],_,_=>rfl
 | _::_,_::_,_::_,_,⟨_,_,_,h,_⟩=>by simp [xO h]
end
end
section
def o5 (a:Nat):List Nat→List Nat
 | []=> [a]
 | b::l=>if a=b then b::l else b::o5 a l
def lE:List Nat→List Nat→List Nat
 | [],acc=>acc
 | a::l,acc=>lE l (o5 a acc)
def nN:List (Nat × DV)→List Nat→List Nat
 | [],acc=>acc
 | (_,d)::l,acc=>nN l (lE (dW d) acc)
def HT (m:Nat)(ids:List Nat):List (Nat × DV)→List (Nat × DV)
 | []=> []
 | (t,d)::l=>(t,lC m ids d)::HT m ids l
def oN:Option (Option Ob)→List Nat→List Nat
 | some (some (.box cs)),acc=>lE (cs.flatMap jG) acc
 | _,acc=>acc
def mD (T:aj):List Nat→List Nat→List Nat
 | [],acc=>acc
 | i::l,acc=>mD T l (oN T[i]? acc)
def oY (m:Nat)(ids:List Nat):Ob→Ob
 | .box cs=> .box (cs.map (nR m ids))
 | ob=>ob
def inL (a:Nat):List Nat→Prop
 | []=>False
 | b::l=>a=b∨inL a l
theorem Qg {a:Nat}:∀{l:List Nat},inL a l→a∈l
 | b::l,h=>by
  rcases h with rfl | h
  ·simp
  ·exact List.mem_cons_of_mem _ (Qg h)
def vq (all:List Nat):List Nat→Prop
 | []=>True
 | a::l=>inL a all∧vq all l
theorem Gb {all:List Nat}:∀{l:List Nat},vq all l→∀a∈l,a∈all
 | b::l,h,a,ha=>by
  rcases List.mem_cons.1 ha with rfl | ha
  ·exact Qg h.1
  ·exact Gb h.2 a ha
def ER:Ob→List Nat
 | .box cs=>cs.flatMap jG
 | _=> []
def yG (T:aj)(all:List Nat):List Nat→(aj→Prop)→Prop
 | [],k=>k []
 | i::l,k=>bu T[i]? fun x=>bu x fun ob=>vq all (ER ob)∧yG T all l fun os=>k (some (oY T.length all ob)::os)
def abd (T:aj)(ids:List Nat)(e:List (Nat × DV))(K:Nat→St→Prop):Prop:=yG T ids ids fun os=>K T.length ⟨HT T.length ids e,List.replicate T.length none++os⟩
def YZ (st:St)(K:Nat→St→Prop):Prop:=abd st.ay (mD st.ay (nN st.env []) (nN st.env [])) st.env K
theorem xk {a x:Nat}:∀{l:List Nat},x∈o5 a l↔x=a∨x∈l
 | []=>by simp [o5]
 | b::l=>by
  simp only [o5]
  split
  ·rename_i h;subst h;simp
  ·rw [List.mem_cons,xk (l:=l),List.mem_cons];grind
theorem yj {a:Nat}:∀{l:List Nat},l.Nodup→(o5 a l).Nodup
 | [],_=>by simp [o5]
 | b::l,h=>by
  simp only [o5]
  split
  ·exact h
  ·rename_i hab
   have h2:=List.nodup_cons.1 h
   refine List.nodup_cons.2 ⟨fun hm=>?_,yj h2.2⟩
   rcases xk.1 hm with e | e
   ·exact hab e.symm
   ·exact h2.1 e
theorem tu {x:Nat}:∀{l acc:List Nat},x∈lE l acc↔x∈l∨x∈acc
 | [],acc=>by simp [lE]
 | a::l,acc=>by
  simp only [lE]
  rw [tu (l:=l),xk,List.mem_cons];grind
theorem oF:∀{l acc:List Nat},acc.Nodup→(lE l acc).Nodup
 | [],acc,h=>h
 | a::l,acc,h=>oF (l:=l) (yj h)
theorem Kd {x:Nat}:∀{e:List (Nat × DV)} {acc:List Nat},x∈nN e acc↔(∃y∈e,x∈dW y.2)∨x∈acc
 | [],acc=>by simp [nN]
 | (t,d)::e,acc=>by
  simp only [nN]
  rw [Kd (e:=e),tu]
  simp only [List.mem_cons]
  grind
theorem Bg:∀{e:List (Nat × DV)} {acc:List Nat},acc.Nodup→(nN e acc).Nodup
 | [],acc,h=>h
 | (t,d)::e,acc,h=>Bg (e:=e) (oF h)
theorem Nz {x:Nat}{o:Option (Option Ob)}{acc:List Nat}(h:x∈acc):x∈oN o acc:=by
 unfold oN
 split
 ·exact tu.2 (.inr h)
 ·exact h
theorem HE {o:Option (Option Ob)}{acc:List Nat}(h:acc.Nodup):(oN o acc).Nodup:=by
 unfold oN
 split
 ·exact oF h
 ·exact h
theorem Bs {T:aj}{x:Nat}:∀{l acc:List Nat},x∈acc→x∈mD T l acc
 | [],acc,h=>h
 | i::l,acc,h=>Bs (l:=l) (Nz h)
theorem uK {T:aj}:∀{l acc:List Nat},acc.Nodup→(mD T l acc).Nodup
 | [],acc,h=>h
 | i::l,acc,h=>uK (l:=l) (HE h)
theorem xg {a:Nat}:∀{l:List Nat} {i j:Nat},l.Nodup→l[i]?=some a→l[j]?=some a→i=j
 | [],i,j,_,h,_=>by simp at h
 | b::l,i,j,hn,h1,h2=>by
  have hn2:=List.nodup_cons.1 hn
  rcases i with _ | i <;> rcases j with _ | j
  ·rfl
  ·simp at h1 h2;subst h1;exact absurd (List.mem_of_getElem? h2) hn2.1
  ·simp at h1 h2;subst h2;exact absurd (List.mem_of_getElem? h1) hn2.1
  ·have:=xg hn2.2 (i:=i) (j:=j) (by simpa using h1) (by simpa using h2)
   omega
theorem Cj {T:aj}{all:List Nat}:∀{ids:List Nat} {K:aj→Prop},yG T all ids K→∃os,K os∧os.length=ids.length∧∀(k:Nat) (ob':Ob),os[k]?=some (some ob')→∃o ob,ids[k]?=some o∧T[o]?=some (some ob)∧ob'=oY T.length all ob∧vq all (ER ob)
 | [],K,h=>⟨[],h,rfl,by simp⟩
 | i::l,K,h=>by
  simp only [yG] at h
  cases h1:T[i]? with
  | none=>rw [h1] at h;exact h.elim
  | some x=>
   rw [h1] at h
   cases x with
   | none=>exact h.elim
   | some ob=>
    obtain ⟨h0,h⟩:=h
    obtain ⟨os,h2,h3,h4⟩:=Cj h
    refine ⟨some (oY T.length all ob)::os,h2,by simp [h3],fun k ob' hk=>?_⟩
    rcases k with _ | k
    ·simp at hk;subst hk;exact ⟨i,ob,rfl,h1,rfl,h0⟩
    ·exact h4 k ob' (by simpa using hk)
section
variable {G G':Gh} {m:Nat} {ids:List Nat} (hle:G.le G') (hpl:∀o p,o∈ids→G.pl o=some p→G'.pl (m+pos o ids)=some p)
include hle hpl
theorem ij {d:DV}{v:Value}(h:∀o∈jG d,o∈ids)(r:Rel G d v):Rel G' (nR m ids d) v:=by
 cases r with
 | own o off n pl p c h1 h2 h3 h4=>exact .own _ off n pl p c (hpl o pl (h o (by simp [jG])) h1) h2 h3 h4
 | ptr o i j pl h1=>exact .ptr _ i j pl (hpl o pl (h o (by simp [jG])) h1)
 | undef v=>exact (Rel.undef v).mono hle
 | int k n=>exact .int k n
 | bool b=>exact .bool b
 | str s=>exact .str s
 | lit v=>exact .lit v
 | agg cs vs h1 h2=>exact (Rel.agg cs vs h1 h2).mono hle
 | tup cs vs h1 h2=>exact (Rel.tup cs vs h1 h2).mono hle
 | sl sz rows k p len cap b o vals h1 h2 h3 h4 h5 h6 h7=>exact (Rel.sl sz rows k p len cap b o vals h1 h2 h3 h4 h5 h6 h7).mono hle
 | rp row j b o vals h1 h2=>exact (Rel.rp row j b o vals h1 h2).mono hle
 | ifc t d v h1=>exact (Rel.ifc t d v h1).mono hle
 | ifa t cs vs h1 h2=>exact (Rel.ifa t cs vs h1 h2).mono hle
 | clo g cs vs h1 h2=>exact (Rel.clo g cs vs h1 h2).mono hle
theorem qd {d:DV}{v:Value}(h:∀o∈oJ d,o∈ids)(r:Rel G d v):Rel G' (qe m ids d) v:=by
 cases r with
 | agg cs vs h1 h2=>
  refine .agg _ vs (by simpa using h1) fun i c hc=>?_
  rw [List.getElem?_map,Option.map_eq_some_iff] at hc
  obtain ⟨c0,h3,rfl⟩:=hc
  exact ij hle hpl (fun o ho=>h o (List.mem_flatMap.2 ⟨c0,List.mem_of_getElem? h3,ho⟩)) (h2 i c0 h3)
 | own o off n pl p c h1 h2 h3 h4=>exact ij (d:=.own o off n) hle hpl h (.own o off n pl p c h1 h2 h3 h4)
 | ptr o i j pl h1=>exact ij (d:=.ptr o i j) hle hpl h (.ptr o i j pl h1)
 | undef v=>exact ij (d:=.undef) hle hpl h (.undef v)
 | int k n=>exact .int k n
 | bool b=>exact .bool b
 | str s=>exact .str s
 | lit v=>exact .lit v
 | tup cs vs h1 h2=>exact (Rel.tup cs vs h1 h2).mono hle
 | sl sz rows k p len cap b o vals h1 h2 h3 h4 h5 h6 h7=>exact (Rel.sl sz rows k p len cap b o vals h1 h2 h3 h4 h5 h6 h7).mono hle
 | rp row j b o vals h1 h2=>exact (Rel.rp row j b o vals h1 h2).mono hle
 | ifc t d v h1=>exact .ifc t _ v (ij hle hpl (fun o ho=>h o (by simpa [oJ] using ho)) h1)
 | ifa t cs vs h1 h2=>
  refine .ifa t _ vs (by simpa using h1) fun i c hc=>?_
  rw [List.getElem?_map,Option.map_eq_some_iff] at hc
  obtain ⟨c0,h3,rfl⟩:=hc
  exact ij hle hpl (fun o ho=>h o (List.mem_flatMap.2 ⟨c0,List.mem_of_getElem? h3,ho⟩)) (h2 i c0 h3)
 | clo g cs vs h1 h2=>
  refine .clo g _ vs (by simpa using h1) fun i c hc=>?_
  rw [List.getElem?_map,Option.map_eq_some_iff] at hc
  obtain ⟨c0,h3,rfl⟩:=hc
  exact ij hle hpl (fun o ho=>h o (List.mem_flatMap.2 ⟨c0,List.mem_of_getElem? h3,ho⟩)) (h2 i c0 h3)
theorem Lz {d:DV}{v:Value}(h:∀o∈dW d,o∈ids)(r:Rel G d v):Rel G' (lC m ids d) v:=by
 cases r with
 | tup cs vs h1 h2=>
  refine .tup _ vs (by simpa using h1) fun i c hc=>?_
  rw [List.getElem?_map,Option.map_eq_some_iff] at hc
  obtain ⟨c0,h3,rfl⟩:=hc
  exact qd hle hpl (fun o ho=>h o (List.mem_flatMap.2 ⟨c0,List.mem_of_getElem? h3,ho⟩)) (h2 i c0 h3)
 | agg cs vs h1 h2=>exact qd (d:=.agg cs) hle hpl h (.agg cs vs h1 h2)
 | own o off n pl p c h1 h2 h3 h4=>exact ij (d:=.own o off n) hle hpl h (.own o off n pl p c h1 h2 h3 h4)
 | ptr o i j pl h1=>exact ij (d:=.ptr o i j) hle hpl h (.ptr o i j pl h1)
 | undef v=>exact ij (d:=.undef) hle hpl h (.undef v)
 | int k n=>exact .int k n
 | bool b=>exact .bool b
 | str s=>exact .str s
 | lit v=>exact .lit v
 | sl sz rows k p len cap b o vals h1 h2 h3 h4 h5 h6 h7=>exact (Rel.sl sz rows k p len cap b o vals h1 h2 h3 h4 h5 h6 h7).mono hle
 | rp row j b o vals h1 h2=>exact (Rel.rp row j b o vals h1 h2).mono hle
 | ifc t d v h1=>exact qd (d:=.wrap (.ifc t) [d]) hle hpl h (.ifc t d v h1)
 | ifa t cs vs h1 h2=>exact qd (d:=.wrap (.ifa t) cs) hle hpl h (.ifa t cs vs h1 h2)
 | clo g cs vs h1 h2=>exact qd (d:=.wrap (.clo g) cs) hle hpl h (.clo g cs vs h1 h2)
end
theorem Rd (m:Nat)(ids:List Nat):∀e:List (Nat × DV),HT m ids e=e.map fun x=>(x.1,lC m ids x.2)
 | []=>rfl
 | (t,d)::l=>by simp [HT,Rd m ids l]
theorem NV {G G':Gh}{m:Nat}{ids:List Nat}{w:World}{p:Place}{ob:Ob}(hle:G.le G')(hpl:∀o p,o∈ids→G.pl o=some p→G'.pl (m+pos o ids)=some p)
  (hb:∀cs,ob=.box cs→∀c∈cs,∀o∈jG c,o∈ids) (hl:gI G w p ob):gI G' w p (oY m ids ob):=by
 cases ob with
 | arr sz rows=>exact hl.mono hle (fun _ _=>rfl) (fun _ _=>rfl) (fun _ h=>h)
 | box cs=>
  refine ⟨by have:=hl.psz;simpa [oY,Ob.sz] using this,by have:=hl.fits;simpa [oY,Ob.rows] using this,fun row hrow=>?_,hl.there,fun i j row c v hi hj hv=>?_,hl.mko⟩
  ·have:=hl.size cs (by simp [Ob.rows])
   simp [Ob.rows,oY] at hrow
   subst hrow
   simpa using this
  ·simp only [Ob.rows,oY] at hi
   rcases i with _ | i
   ·simp at hi
    subst hi
    rw [List.getElem?_map,Option.map_eq_some_iff] at hj
    obtain ⟨c0,h1,rfl⟩:=hj
    exact ij hle hpl (hb cs rfl c0 (List.mem_of_getElem? h1)) (hl.holds 0 j cs c0 v rfl h1 hv)
   ·simp at hi
theorem Ci {E:Prg}{C:Ctx}{st:St}{a:Act}{w:World}{K:Nat→St→Prop}(h:dR E C st a w)(hk:YZ st K):∃st',K st.ay.length st'∧dR E C st' a w:=by
 obtain ⟨G,hr⟩:=h
 obtain ⟨os,hK,hlen,hos⟩:=Cj hk
 refine ⟨_,hK,?_⟩
 have hnd:(mD st.ay (nN st.env []) (nN st.env [])).Nodup:=uK (Bg List.nodup_nil)
 have hsub:∀x,x∈nN st.env []→x∈mD st.ay (nN st.env []) (nN st.env []):=fun x hx=>Bs hx
 have hold:∀t,∀o∈dW (St.look t st.env),o∈nN st.env []:=fun t o ho=>by
  rcases Bv t st.env with h1 | h1
  ·rw [h1] at ho;simp [dW,oJ,jG] at ho
  ·exact Kd.2 (.inl ⟨_,h1,ho⟩)
 generalize acU:mD st.ay (nN st.env []) (nN st.env [])=ids at *
 let G':Gh:={ rd:=G.rd,pl:=fun x=>if x<st.ay.length then G.pl x else match ids[x-st.ay.length]? with | some o=>G.pl o | none=>none}
 have hle:G.le G':=⟨fun _ _ h=>h,fun k p h=>by
  have:=hr.heap.pls k p h
  simp only [G']
  rw [if_pos this];exact h⟩
 have hpl:∀o p,o∈ids→G.pl o=some p→G'.pl (st.ay.length+pos o ids)=some p:=fun o p ho hp=>by
  simp only [G']
  rw [if_neg (by omega),Nat.add_sub_cancel_left,lK ho]
  exact hp
 have hnew:∀(k:Nat) (ob':Ob),(List.replicate st.ay.length none++os)[k]?=some (some ob')→st.ay.length≤k∧∃o ob,ids[k-st.ay.length]?=some o∧st.ay[o]?=some (some ob)∧ob'=oY st.ay.length ids ob∧vq ids (ER ob)∧G'.pl k=G.pl o:=fun k ob' h=>by
  by_cases hk:k<st.ay.length
  ·rw [List.getElem?_append_left (by simpa using hk),List.getElem?_replicate,if_pos hk] at h
   cases h
  ·rw [List.getElem?_append_right (by simpa using hk)] at h
   simp only [List.length_replicate] at h
   obtain ⟨o,ob,h1,h2,h3,h4⟩:=hos _ _ h
   refine ⟨by omega,o,ob,h1,h2,h3,h4,?_⟩
   simp only [G']
   rw [if_neg hk,h1]
 refine ⟨G',⟨fun t=>?_,hr.num,hr.defs,⟨fun k p hp=>?_,fun k ob hob=>?_,?_,hr.heap.rdv,?_⟩,?_,fun g row hg=>(hr.o9 g row hg).mono hle⟩⟩
 ·show Rel G' (St.look t (HT st.ay.length ids st.env)) _
  rw [Rd,St.uR (lC st.ay.length ids) rfl]
  exact Lz hle hpl (fun o ho=>hsub _ (hold t o ho)) (hr.env t)
 ·simp only [G'] at hp
  simp only [List.length_append,List.length_replicate,hlen]
  split at hp
  ·omega
  ·split at hp
   ·rename_i o ho
    have:=(List.getElem?_eq_some_iff.1 ho).1
    omega
   ·cases hp
 ·obtain ⟨_,o,ob0,_,h2,rfl,h3,h4⟩:=hnew k ob hob
  obtain ⟨p,hp,hl⟩:=hr.heap.live o ob0 h2
  refine ⟨p,h4.trans hp,NV hle hpl (fun cs e c hc x hx=>?_) hl⟩
  subst e
  exact Gb h3 x (List.mem_flatMap.2 ⟨c,hc,hx⟩)
 ·intro k k' r r' p p' i i' h1 h2 hne hp hp' hi hi'
  obtain ⟨k1,o,ob0,k2,k3,_,_,k4⟩:=hnew k r h1
  obtain ⟨l1,o',adC,l2,l3,_,_,l4⟩:=hnew k' r' h2
  refine hr.heap.sep o o' ob0 adC p p' i i' k3 l3 (fun e=>?_) (k4.symm.trans hp) (l4.symm.trans hp') hi hi'
  subst e
  have:=xg hnd k2 l2
  omega
 ·intro k r p i hk hp hi
  obtain ⟨_,o,ob0,_,h2,_,_,h3⟩:=hnew k r hk
  exact hr.heap.rds o ob0 p i h2 (h3.symm.trans hp) hi
 ·refine ⟨hr.frm.os,hr.frm.tape,hr.frm.output,hr.frm.size,hr.frm.blk,hr.frm.cell,hr.frm.frz,fun k r p i hk hp hi=>?_,hr.frm.rdn,hr.frm.le.trans hle,hr.frm.mko⟩
  obtain ⟨_,o,ob0,_,h2,_,_,h3⟩:=hnew k r hk
  exact hr.frm.mine o ob0 p i h2 (h3.symm.trans hp) hi
theorem bp.acI {E:Prg}{F:dz}(hF:FOk E F){n:Nat}{b:RC}{Q:Exit→St→Prop}{st:St}{σ:Type}(S:Nat→σ→St)(I:σ→Prop)(μ:σ→Nat)(n0:Nat)(s0:σ)(h0:I s0)
  (hw:n0≤st.ay.length∧YZ st fun m st'=>st'.wk (S m s0))
  (round:∀m s,n0≤m→I s→b.wp E F n (fun e st'=>match e with
   | .normal=>n0≤st'.ay.length∧YZ st' fun m aco=>∃s',aco.wk (S m s')∧I s'∧μ s'<μ s
   | e=>Q e st') (S m s)):bp E n b Q st:=by
 intro c ann hc C a w hn hr
 let J:Act→World→Nat→Prop:=fun a w k=>∃m s,n0≤m∧I s∧dR E C (S m s) a w∧μ s=k
 have hex:∀a w,(∃m,J a w m)→∃m,J a w m∧∀k,J a w k→m≤k:=fun a w ⟨m,hm⟩=>vf _ m hm
 open Classical in
 let f:Act→World→Nat:=fun a w=>if h:∃m,J a w m then Classical.choose (hex a w h) else 0
 have hf:∀a w,(∃m,J a w m)→J a w (f a w)∧∀k,J a w k→f a w≤k:=fun a w h=>by
  simp only [f,dif_pos h]
  exact Classical.choose_spec (hex a w h)
 have hstart:∃m,J a w m:=by
  obtain ⟨st',h1,h2⟩:=Ci hr hw.2
  exact ⟨μ s0,st.ay.length,s0,hw.1,h0,h2.wk h1,rfl⟩
 refine wp_loop (fun a w=>∃m,J a w m) f hstart (fun a w hJ=>?_)
 obtain ⟨⟨m,s,hm0,hI,hrs,hm⟩,hmin⟩:=hf a w hJ
 refine Code.wp_mono ?_ (RC.sound hF c ann b _ (S m s) hc (round m s hm0 hI) C a w hn hrs)
 rintro e a' w' ⟨st',h1,h2⟩
 cases e with
 | normal=>
  obtain ⟨aco,⟨s',hw',hI',hlt⟩,h3⟩:=Ci h2 h1.2
  have hJ':J a' w' (μ s'):=⟨_,s',h1.1,hI',h3.wk hw',rfl⟩
  refine ⟨⟨_,hJ'⟩,?_⟩
  have:=(hf a' w' ⟨_,hJ'⟩).2 _ hJ'
  omega
 | _=>exact ⟨st',h1,h2⟩
theorem bp.own {E:Prg}{n:Nat}{b:RC}{Q:Exit→St→Prop}{st:St}(t sz:Nat){s:Nat}{k:SK}(h:st.get t=.sl s [] k)(hk:k=.nil∨k=.zero)
  (h2:bp E n b Q ⟨St.rep t (.own st.ay.length 0 0) st.env,st.ay++ [some (.arr sz [])]⟩):bp E n b Q st:=by
 intro c ann hc C a w hn ⟨G,hr⟩
 have hr2:=hr.Bh sz
 refine h2 c ann hc C a w hn ⟨G.more st.ay.length ⟨0,0,sz,0⟩,⟨fun u=>?_,hr2.num,hr2.defs,hr2.heap,hr2.frm,hr2.o9⟩⟩
 by_cases e:u=t
 ·subst e
  have h3:Rel (G.more st.ay.length ⟨0,0,sz,0⟩) (st.get u) _:=hr2.env u
  rw [h] at h3
  have h4:St.look u (St.rep u (.own st.ay.length 0 0) st.env)=.own st.ay.length 0 0∨St.look u (St.rep u (.own st.ay.length 0 0) st.env)=.undef:=by
   clear h h2 hr hr2 h3
   induction st.env with
   | nil=>exact .inr rfl
   | cons x l ih=>
    obtain ⟨k,d⟩:=x
    simp only [St.rep]
    split
    ·rename_i e;simp [St.look]
    ·rename_i e;simp only [St.look];rw [if_neg e];exact ih
  show Rel _ (St.look u (St.rep u (.own st.ay.length 0 0) st.env)) _
  rcases h4 with h4 | h4
  ·rw [h4]
   generalize a.tmps.getD u Go.undef=v at h3
   cases h3 with
   | sl _ _ _ p len cap b' o vals h5 h6 h7 h8 _ _ _=>
    have hl:len=0:=by simpa using h5
    subst hl
    have hc0:cap=0:=by
     rcases hk with rfl | rfl
     ·exact h6.2
     ·exact h6
    subst hc0
    exact .own _ 0 0 ⟨0,0,sz,0⟩ p 0 (by simp [Gh.more]) rfl (Nat.le_refl _) (fun h=>by omega)
  ·rw [h4];exact .undef _
 ·have h3:St.look u (St.rep t (.own st.ay.length 0 0) st.env)=St.look u st.env:=by
   clear h h2 hr hr2
   induction st.env with
   | nil=>rfl
   | cons x l ih=>
    obtain ⟨k,d⟩:=x
    simp only [St.rep]
    split
    ·rename_i e2;subst e2;simp only [St.look];rw [if_neg (fun h=>e h.symm),if_neg (fun h=>e h.symm)]
    ·simp only [St.look];rw [ih]
  show Rel _ (St.look u (St.rep t (.own st.ay.length 0 0) st.env)) _
  rw [h3]
  exact hr2.env u
theorem Bc (n:Nat)(a b:aj):fj (List.replicate n none++a) (List.replicate n none++b)=fj a b:=by
 induction n with
 | zero=>rfl
 | succ n ih=>simp only [List.replicate_succ,List.cons_append,pV,ih]
theorem Gc (a:Nat):o5 a []=[a]:=au _
theorem CJ (a b:Nat)(l:List Nat):o5 a (b::l)=if a=b then b::l else b::o5 a l:=au _
theorem CI (acc:List Nat):lE [] acc=acc:=au _
theorem yO (a:Nat)(l acc:List Nat):lE (a::l) acc=lE l (o5 a acc):=au _
theorem Ku (acc:List Nat):nN [] acc=acc:=au _
theorem Fe (t:Nat)(d:DV)(l:List (Nat × DV))(acc:List Nat):nN ((t,d)::l) acc=nN l (lE (dW d) acc):=au _
theorem LH (m:Nat)(ids:List Nat):HT m ids []=[]:=au _
theorem FV (m:Nat)(ids:List Nat)(t:Nat)(d:DV)(l:List (Nat × DV)):HT m ids ((t,d)::l)=(t,lC m ids d)::HT m ids l:=au _
theorem FU (T:aj)(all:List Nat)(k:aj→Prop):yG T all [] k=k []:=au _
theorem B8 (T:aj)(acc:List Nat):mD T [] acc=acc:=au _
theorem yE (T:aj)(i:Nat)(l acc:List Nat):mD T (i::l) acc=mD T l (oN T[i]? acc):=au _
theorem Cq (cs:List DV)(acc:List Nat):oN (some (some (.box cs))) acc=lE (cs.flatMap jG) acc:=au _
theorem Cr (sz:Nat)(rows:List (List DV))(acc:List Nat):oN (some (some (.arr sz rows))) acc=acc:=au _
theorem yJ (acc:List Nat):oN (some none) acc=acc:=au _
theorem FR (m:Nat)(ids:List Nat)(cs:List DV):oY m ids (.box cs)=.box (cs.map (nR m ids)):=au _
theorem FT (m:Nat)(ids:List Nat)(sz:Nat)(rows:List (List DV)):oY m ids (.arr sz rows)=.arr sz rows:=au _
theorem Ck (T:aj)(all:List Nat)(i:Nat)(l:List Nat)(k:aj→Prop):yG T all (i::l) k=(bu T[i]? fun x=>bu x fun ob=>vq all (ER ob)∧yG T all l fun os=>k (some (oY T.length all ob)::os)):=au _
theorem Qf (a:Nat):inL a []=False:=au _
theorem Kn (a b:Nat)(l:List Nat):inL a (b::l)=(a=b∨inL a l):=au _
theorem Ga (all:List Nat):vq all []=True:=au _
theorem CG (all:List Nat)(a:Nat)(l:List Nat):vq all (a::l)=(inL a all∧vq all l):=au _
theorem EO (cs:List DV):ER (.box cs)=cs.flatMap jG:=au _
theorem EP (sz:Nat)(rows:List (List DV)):ER (.arr sz rows)=[]:=au _
theorem Rc (T:aj)(ids:List Nat)(e:List (Nat × DV))(K:Nat→St→Prop):abd T ids e K=yG T ids ids fun os=>K T.length ⟨HT T.length ids e,List.replicate T.length none++os⟩:=au _
theorem Rb (e:List (Nat × DV))(T:aj)(K:Nat→St→Prop):YZ ⟨e,T⟩ K=abd T (mD T (nN e []) (nN e [])) e K:=au _
theorem Qo (row:List DV)(j:Nat):dW (.rp row j)=[]:=au _
theorem BE:dW .undef=[]:=au _
theorem Ra (m:Nat)(ids:List Nat)(row:List DV)(j:Nat):lC m ids (.rp row j)=.rp row j:=au _
end
theorem K4 (o sz:Nat)(rows:List (List DV))(k:IntKind)(n:Int):DV.qa o sz rows (.int k n)=.int k n:=au _
theorem Fk (o sz:Nat)(rows:List (List DV))(b:Bool):DV.qa o sz rows (.bool b)=.bool b:=au _
theorem K1 (o sz:Nat)(rows:List (List DV))(s:List UInt8):DV.qa o sz rows (.str s)=.str s:=au _
theorem QG (o sz:Nat)(rows:List (List DV))(s:Nat)(r:List (List DV))(k:SK):DV.qa o sz rows (.sl s r k)=.sl s r k:=au _
theorem K3 (o sz:Nat)(rows:List (List DV))(o' off n:Nat):DV.qa o sz rows (.own o' off n)=DV.ie o sz rows (.own o' off n):=au _
theorem K2 (o sz:Nat)(rows:List (List DV))(o' i j:Nat):DV.qa o sz rows (.ptr o' i j)=.ptr o' i j:=au _
theorem QH (o sz:Nat)(rows:List (List DV))(r:List DV)(j:Nat):DV.qa o sz rows (.rp r j)=.rp r j:=au _
theorem BR (o sz:Nat)(rows:List (List DV)):DV.qa o sz rows .undef=.undef:=au _
theorem K5 (o sz:Nat)(rows:List (List DV))(cs:List DV):DV.qa o sz rows (.agg cs)=.agg (cs.map (DV.ie o sz rows)):=au _
theorem acd:type_of% (
 And.intro @B8 <| And.intro @yE <| And.intro @Cq <| And.intro @Cr <| And.intro @yJ <| And.intro @FR <| And.intro @FT <| And.intro @Qf <| And.intro @Kn <| And.intro @Ga <| And.intro @CG <| And.intro @EO <| And.intro @EP <| And.intro @ZM <| And.intro @ZN <| And.intro @K4 <| And.intro @Fk <| And.intro @K1 <| And.intro @QG <| And.intro @K3 <| And.intro @K2 <| And.intro @QH <| And.intro @BR <| @K5):=
 And.intro @B8 <| And.intro @yE <| And.intro @Cq <| And.intro @Cr <| And.intro @yJ <| And.intro @FR <| And.intro @FT <| And.intro @Qf <| And.intro @Kn <| And.intro @Ga <| And.intro @CG <| And.intro @EO <| And.intro @EP <| And.intro @ZM <| And.intro @ZN <| And.intro @K4 <| And.intro @Fk <| And.intro @K1 <| And.intro @QG <| And.intro @K3 <| And.intro @K2 <| And.intro @QH <| And.intro @BR <| @K5
theorem acj:type_of% (
 And.intro @Pw <| And.intro @Pv <| And.intro @Pu <| And.intro @acr <| And.intro @acs <| And.intro @ada <| And.intro @adb <| And.intro @VX <| And.intro @JM <| And.intro @JN <| And.intro @Qc <|
 And.intro @Qa <| And.intro @Qb <| And.intro @Wa <| And.intro @acH <| And.intro @acG <| And.intro @acF <| And.intro @QT <| And.intro @QS <| And.intro @Pd <| And.intro @I7 <| And.intro @Po <|
 And.intro @Es <| And.intro @Er <| And.intro @El <| And.intro @I9 <| And.intro @Ei <| And.intro @Ek <| And.intro @Pp <| And.intro @Pn <| And.intro @Ep <| And.intro @Ux <|
 And.intro @Pg <| And.intro @Pq <| And.intro @Pc <| And.intro @Pb <| And.intro @Pe <| And.intro @Ej <| And.intro @EX <| And.intro @EW <| And.intro @Ao <| And.intro @Eo <|
 And.intro @Ph <| And.intro @En <| And.intro @Ap <| And.intro @Jb <| And.intro @Pj <| And.intro @Pf <| And.intro @Ja <| And.intro @Aq <| And.intro @Uy <| And.intro @xR <|
 And.intro @Et <| And.intro @Av <| And.intro @Au <| And.intro @QA <| And.intro @Fo <| And.intro @K0 <| And.intro @yx <| @uX):=
 And.intro @Pw <| And.intro @Pv <| And.intro @Pu <| And.intro @acr <| And.intro @acs <| And.intro @ada <| And.intro @adb <| And.intro @VX <| And.intro @JM <| And.intro @JN <| And.intro @Qc <|
 And.intro @Qa <| And.intro @Qb <| And.intro @Wa <| And.intro @acH <| And.intro @acG <| And.intro @acF <| And.intro @QT <| And.intro @QS <| And.intro @Pd <| And.intro @I7 <| And.intro @Po <|
 And.intro @Es <| And.intro @Er <| And.intro @El <| And.intro @I9 <| And.intro @Ei <| And.intro @Ek <| And.intro @Pp <| And.intro @Pn <| And.intro @Ep <| And.intro @Ux <|
 And.intro @Pg <| And.intro @Pq <| And.intro @Pc <| And.intro @Pb <| And.intro @Pe <| And.intro @Ej <| And.intro @EX <| And.intro @EW <| And.intro @Ao <| And.intro @Eo <|
 And.intro @Ph <| And.intro @En <| And.intro @Ap <| And.intro @Jb <| And.intro @Pj <| And.intro @Pf <| And.intro @Ja <| And.intro @Aq <| And.intro @Uy <| And.intro @xR <|
 And.intro @Et <| And.intro @Av <| And.intro @Au <| And.intro @QA <| And.intro @Fo <| And.intro @K0 <| And.intro @yx <| @uX
theorem aci:type_of% (
 And.intro @Kg <| And.intro @E2 <| And.intro @Qe <| And.intro @Kk <| And.intro @Px <| And.intro @Jq <| And.intro @Ke <| And.intro @E0 <| And.intro @Ll <| And.intro @FB <|
 And.intro @Cp <| And.intro @yI <| And.intro @Bj <| And.intro @yo <| And.intro @L8 <| And.intro @LV <| And.intro @L1 <| And.intro @LZ <| And.intro @LY <|
 And.intro @L7 <| And.intro @Rl <| And.intro @LU <| And.intro @yL <| And.intro @L6 <| And.intro @L0 <| And.intro @L2 <| And.intro @L3 <| And.intro @L4 <| And.intro @L5 <|
 And.intro @LX <| And.intro @LW <| And.intro @Mf <| And.intro @Me <| And.intro @L9 <| And.intro @Ma <| And.intro @Mb <| And.intro @Mc <| And.intro @Md <| And.intro @IG <|
 And.intro @IE <| And.intro @IF <| And.intro @J1 <| And.intro @ym <| And.intro @J2 <| And.intro @EU <| And.intro @FO <| And.intro @PR <| And.intro @Cc <| And.intro @JY <|
 And.intro @FK <| And.intro @PM <| And.intro @Lv <| And.intro @U6 <| And.intro @FN <| And.intro @PO <| And.intro @FM <| And.intro @PN <| And.intro @Lw <| And.intro @U7 <| @FP):=
 And.intro @Kg <| And.intro @E2 <| And.intro @Qe <| And.intro @Kk <| And.intro @Px <| And.intro @Jq <| And.intro @Ke <| And.intro @E0 <| And.intro @Ll <| And.intro @FB <|
 And.intro @Cp <| And.intro @yI <| And.intro @Bj <| And.intro @yo <| And.intro @L8 <| And.intro @LV <| And.intro @L1 <| And.intro @LZ <| And.intro @LY <|
 And.intro @L7 <| And.intro @Rl <| And.intro @LU <| And.intro @yL <| And.intro @L6 <| And.intro @L0 <| And.intro @L2 <| And.intro @L3 <| And.intro @L4 <| And.intro @L5 <|
 And.intro @LX <| And.intro @LW <| And.intro @Mf <| And.intro @Me <| And.intro @L9 <| And.intro @Ma <| And.intro @Mb <| And.intro @Mc <| And.intro @Md <| And.intro @IG <|
 And.intro @IE <| And.intro @IF <| And.intro @J1 <| And.intro @ym <| And.intro @J2 <| And.intro @EU <| And.intro @FO <| And.intro @PR <| And.intro @Cc <| And.intro @JY <|
 And.intro @FK <| And.intro @PM <| And.intro @Lv <| And.intro @U6 <| And.intro @FN <| And.intro @PO <| And.intro @FM <| And.intro @PN <| And.intro @Lw <| And.intro @U7 <| @FP
theorem ach:type_of% (
 And.intro @Pr <| And.intro @GC <| And.intro @Eu <| And.intro @Ji <| And.intro @Jj <| And.intro @Ak <| And.intro @Al <| And.intro @yB <| And.intro @vb <|
 And.intro @A6 <| And.intro @EJ <| And.intro @A8 <| And.intro @JU <| And.intro @JV <| And.intro @K9 <| And.intro @KY <| And.intro @EI <| And.intro @Fl <| And.intro @Fi <|
 And.intro @JR <| And.intro @K6 <| And.intro @KV <| And.intro @PF <| And.intro @QI <| And.intro @QC <| And.intro @JS <| And.intro @K7 <| And.intro @KW <| And.intro @PI <|
 And.intro @QJ <| And.intro @QD <| And.intro @JT <| And.intro @K8 <| And.intro @KX <| And.intro @BQ <| And.intro @KZ <| And.intro @KU <| And.intro @EM <| And.intro @EN <|
 And.intro @KD <| And.intro @Ky <| And.intro @Ks <| And.intro @LQ <| And.intro @LL <| And.intro @LC <| And.intro @Q8 <| And.intro @Q3 <| And.intro @QY <| And.intro @Fg <|
 And.intro @Ff <| And.intro @Fc <| And.intro @F0 <| And.intro @FW <| And.intro @FQ <| And.intro @Lu <| And.intro @Lt <| And.intro @Lq <| And.intro @KA <| And.intro @Kv <|
 @Kp):=
 And.intro @Pr <| And.intro @GC <| And.intro @Eu <| And.intro @Ji <| And.intro @Jj <| And.intro @Ak <| And.intro @Al <| And.intro @yB <| And.intro @vb <|
 And.intro @A6 <| And.intro @EJ <| And.intro @A8 <| And.intro @JU <| And.intro @JV <| And.intro @K9 <| And.intro @KY <| And.intro @EI <| And.intro @Fl <| And.intro @Fi <|
 And.intro @JR <| And.intro @K6 <| And.intro @KV <| And.intro @PF <| And.intro @QI <| And.intro @QC <| And.intro @JS <| And.intro @K7 <| And.intro @KW <| And.intro @PI <|
 And.intro @QJ <| And.intro @QD <| And.intro @JT <| And.intro @K8 <| And.intro @KX <| And.intro @BQ <| And.intro @KZ <| And.intro @KU <| And.intro @EM <| And.intro @EN <|
 And.intro @KD <| And.intro @Ky <| And.intro @Ks <| And.intro @LQ <| And.intro @LL <| And.intro @LC <| And.intro @Q8 <| And.intro @Q3 <| And.intro @QY <| And.intro @Fg <|
 And.intro @Ff <| And.intro @Fc <| And.intro @F0 <| And.intro @FW <| And.intro @FQ <| And.intro @Lu <| And.intro @Lt <| And.intro @Lq <| And.intro @KA <| And.intro @Kv <|
 @Kp
theorem acg:type_of% (
 And.intro @LN <| And.intro @LI <| And.intro @Ly <| And.intro @Q5 <| And.intro @Q0 <| And.intro @QV <| And.intro @Qq <| And.intro @Qp <| And.intro @Qn <| And.intro @Rf <|
 And.intro @Re <| And.intro @Q9 <| And.intro @Wm <| And.intro @Wl <| And.intro @Wk <| And.intro @KC <| And.intro @Kx <| And.intro @Kr <| And.intro @LP <| And.intro @LK <|
 And.intro @LB <| And.intro @Q7 <| And.intro @Q2 <| And.intro @QX <| And.intro @KB <| And.intro @Kw <| And.intro @Kq <| And.intro @LO <| And.intro @LJ <| And.intro @LA <|
 And.intro @Q6 <| And.intro @Q1 <| And.intro @QW <| And.intro @Kz <| And.intro @Kt <| And.intro @Ko <| And.intro @LM <| And.intro @LF <| And.intro @Lx <| And.intro @Q4 <|
 And.intro @QZ <| And.intro @QU <| And.intro @PE <| And.intro @JP <| And.intro @Ls <| And.intro @Lr <| And.intro @Fh <| And.intro @BJ <| And.intro @Pt <| And.intro @sG <|
 And.intro @sH <| And.intro @sF <| And.intro @Gm <| And.intro @Db <| And.intro @Gl <| And.intro @Zn <| And.intro @Fx <| And.intro @BY <| And.intro @yf <| @Bd):=
 And.intro @LN <| And.intro @LI <| And.intro @Ly <| And.intro @Q5 <| And.intro @Q0 <| And.intro @QV <| And.intro @Qq <| And.intro @Qp <| And.intro @Qn <| And.intro @Rf <|
 And.intro @Re <| And.intro @Q9 <| And.intro @Wm <| And.intro @Wl <| And.intro @Wk <| And.intro @KC <| And.intro @Kx <| And.intro @Kr <| And.intro @LP <| And.intro @LK <|
 And.intro @LB <| And.intro @Q7 <| And.intro @Q2 <| And.intro @QX <| And.intro @KB <| And.intro @Kw <| And.intro @Kq <| And.intro @LO <| And.intro @LJ <| And.intro @LA <|
 And.intro @Q6 <| And.intro @Q1 <| And.intro @QW <| And.intro @Kz <| And.intro @Kt <| And.intro @Ko <| And.intro @LM <| And.intro @LF <| And.intro @Lx <| And.intro @Q4 <|
 And.intro @QZ <| And.intro @QU <| And.intro @PE <| And.intro @JP <| And.intro @Ls <| And.intro @Lr <| And.intro @Fh <| And.intro @BJ <| And.intro @Pt <| And.intro @sG <|
 And.intro @sH <| And.intro @sF <| And.intro @Gm <| And.intro @Db <| And.intro @Gl <| And.intro @Zn <| And.intro @Fx <| And.intro @BY <| And.intro @yf <| @Bd
theorem acf:type_of% (
 And.intro @pV <| And.intro @ye <| And.intro @WX <| And.intro @Og <| And.intro @Rw <| And.intro @Of <| And.intro @Rv <| And.intro @ia <| And.intro @kL <|
 And.intro @mz <| And.intro @bk <| And.intro @uV <| And.intro @uW <| And.intro @m8 <| And.intro @gC <| And.intro @oI <| And.intro @aM <| And.intro @q6 <|
 And.intro @Mh <| And.intro @F9 <| And.intro @J5 <| And.intro @EV <| And.intro @ET <| And.intro @Bf <| And.intro @zm <| And.intro @dj <| And.intro @Gq <| And.intro @dw <|
 And.intro @dm <| And.intro @cF <| And.intro @TC <| And.intro @eW <| And.intro @eX <| And.intro @Ot <| And.intro @Oy <| And.intro @cV <| And.intro @It <| And.intro @Iu <|
 And.intro @Iw <| And.intro @On <| And.intro @Ou <| And.intro @Oz <| And.intro @Oq <| And.intro @Ox <| And.intro @OA <| And.intro @Oo <| And.intro @Ow <| And.intro @rU <|
 And.intro @rS <| And.intro @yw <| And.intro @Gc <| And.intro @CJ <| And.intro @CI <| And.intro @yO <| And.intro @Ku <| And.intro @Fe <| And.intro @LH <|
 And.intro @FV <| And.intro @Rc <| @Rb):=
 And.intro @pV <| And.intro @ye <| And.intro @WX <| And.intro @Og <| And.intro @Rw <| And.intro @Of <| And.intro @Rv <| And.intro @ia <| And.intro @kL <|
 And.intro @mz <| And.intro @bk <| And.intro @uV <| And.intro @uW <| And.intro @m8 <| And.intro @gC <| And.intro @oI <| And.intro @aM <| And.intro @q6 <|
 And.intro @Mh <| And.intro @F9 <| And.intro @J5 <| And.intro @EV <| And.intro @ET <| And.intro @Bf <| And.intro @zm <| And.intro @dj <| And.intro @Gq <| And.intro @dw <|
 And.intro @dm <| And.intro @cF <| And.intro @TC <| And.intro @eW <| And.intro @eX <| And.intro @Ot <| And.intro @Oy <| And.intro @cV <| And.intro @It <| And.intro @Iu <|
 And.intro @Iw <| And.intro @On <| And.intro @Ou <| And.intro @Oz <| And.intro @Oq <| And.intro @Ox <| And.intro @OA <| And.intro @Oo <| And.intro @Ow <| And.intro @rU <|
 And.intro @rS <| And.intro @yw <| And.intro @Gc <| And.intro @CJ <| And.intro @CI <| And.intro @yO <| And.intro @Ku <| And.intro @Fe <| And.intro @LH <|
 And.intro @FV <| And.intro @Rc <| @Rb
theorem ace:type_of% (
 And.intro @Qo <| And.intro @BE <| And.intro @Ra <| @Bc):=
 And.intro @Qo <| And.intro @BE <| And.intro @Ra <| @Bc
theorem an:type_of% (
 And.intro @EK <| And.intro @Ba <| And.intro @Eb <| And.intro @D6 <| And.intro @I0 <| And.intro @OS <| And.intro @IU <| And.intro @O3 <| And.intro @Ec <| And.intro @IW <|
 And.intro @D3 <| And.intro @D5 <| And.intro @O4 <| And.intro @O2 <| And.intro @Ea <| And.intro @Uj <| And.intro @OX <| And.intro @O5 <| And.intro @OR <| And.intro @OQ <|
 And.intro @OU <| And.intro @D4 <| And.intro @Ag <| And.intro @D9 <| And.intro @OY <| And.intro @D8 <| And.intro @Ah <| And.intro @IY <| And.intro @OZ <| And.intro @OV <|
 And.intro @IX <| And.intro @Ai <| And.intro @Uk <| And.intro @xQ <| And.intro @yd <| And.intro @PL <| And.intro @U5 <| And.intro @Zw <| And.intro @JX <| And.intro @PJ <|
 And.intro @JW <| And.intro @Py <| And.intro @UN <| And.intro @Pz <| And.intro @UL <| And.intro @PB <| And.intro @UP <| And.intro @PA <| And.intro @UO <| And.intro @UM <| And.intro @OH <|
 And.intro @OF <| And.intro @OI <| And.intro @Qk <| And.intro @Qj <| And.intro @Ql <| And.intro @V6 <| And.intro @V5 <| And.intro @CA <| @Ct):=
 And.intro @EK <| And.intro @Ba <| And.intro @Eb <| And.intro @D6 <| And.intro @I0 <| And.intro @OS <| And.intro @IU <| And.intro @O3 <| And.intro @Ec <| And.intro @IW <|
 And.intro @D3 <| And.intro @D5 <| And.intro @O4 <| And.intro @O2 <| And.intro @Ea <| And.intro @Uj <| And.intro @OX <| And.intro @O5 <| And.intro @OR <| And.intro @OQ <|
 And.intro @OU <| And.intro @D4 <| And.intro @Ag <| And.intro @D9 <| And.intro @OY <| And.intro @D8 <| And.intro @Ah <| And.intro @IY <| And.intro @OZ <| And.intro @OV <|
 And.intro @IX <| And.intro @Ai <| And.intro @Uk <| And.intro @xQ <| And.intro @yd <| And.intro @PL <| And.intro @U5 <| And.intro @Zw <| And.intro @JX <| And.intro @PJ <|
 And.intro @JW <| And.intro @Py <| And.intro @UN <| And.intro @Pz <| And.intro @UL <| And.intro @PB <| And.intro @UP <| And.intro @PA <| And.intro @UO <| And.intro @UM <| And.intro @OH <|
 And.intro @OF <| And.intro @OI <| And.intro @Qk <| And.intro @Qj <| And.intro @Ql <| And.intro @V6 <| And.intro @V5 <| And.intro @CA <| @Ct
theorem ak:type_of% (
 And.intro @Cu <| And.intro @F3 <| And.intro @Cy <| And.intro @F4 <| And.intro @iR <| And.intro @gD <| And.intro @Cm <| And.intro @Rh <| And.intro @Cz <| And.intro @LS <|
 And.intro @Cx <| And.intro @Cw <| And.intro @FU <| @Ck):=
 And.intro @Cu <| And.intro @F3 <| And.intro @Cy <| And.intro @F4 <| And.intro @iR <| And.intro @gD <| And.intro @Cm <| And.intro @Rh <| And.intro @Cz <| And.intro @LS <|
 And.intro @Cx <| And.intro @Cw <| And.intro @FU <| @Ck
theorem vcR:type_of% (And.intro @acj <| And.intro @aci <| And.intro @ach <| And.intro @acg <| And.intro @acf <| And.intro @ace <| And.intro @acd <| And.intro @Option.map_some.{0,0} <| And.intro @Option.map_none.{0,0} <| And.intro @Option.bind_some.{0,0} <| And.intro @Option.bind_none.{0,0} <| And.intro @beq_true <| And.intro @beq_false <| And.intro @Bool.not_true <| And.intro @Bool.not_false <| And.intro @BEq.rfl.{0} <| And.intro @Bool.true_beq <| And.intro @Bool.false_beq <| And.intro @and_true <| And.intro @true_and <| And.intro @and_self <| And.intro @decide_true <| And.intro @decide_false <| And.intro @List.length_cons.{0} <| And.intro @List.length_nil.{0} <| And.intro @List.all_cons.{0} <| And.intro @List.all_nil.{0} <| And.intro @Bool.and_true <| And.intro @Bool.and_self <| And.intro @List.getElem?_cons_zero.{0} <| And.intro @List.getElem?_cons_succ.{0} <| And.intro @List.set_cons_zero.{0} <| And.intro @List.set_cons_succ.{0} <| And.intro @List.nil_append.{0} <| And.intro @List.cons_append.{0} <| And.intro @List.append_nil.{0} <| And.intro @List.map_cons.{0,0} <| And.intro @List.map_nil.{0,0} <| And.intro @not_true_eq_false <| And.intro @not_false_eq_true <| And.intro @false_implies <| And.intro @true_implies <| And.intro @List.take_succ_cons.{0} <| And.intro @List.take_zero.{0} <| And.intro @List.take_nil.{0} <| And.intro @List.drop_succ_cons.{0} <| And.intro @List.drop_zero.{0} <| And.intro @List.drop_nil.{0} <| And.intro @List.replicate_zero.{0} <| And.intro @List.replicate_succ.{0} <| And.intro @List.flatMap_cons.{0,0} <| And.intro @List.flatMap_nil.{0,0} <| And.intro @List.length_replicate.{0} <| And.intro @List.length_append.{0} <| And.intro @Nat.le_refl <| And.intro @Nat.le_add_right <| And.intro @Nat.add_assoc <| And.intro @List.append_assoc.{0} <| And.intro @or_true <| And.intro @true_or <| And.intro @or_false <| And.intro @false_or <| And.intro @and_false <| And.intro @false_and <| And.intro @Option.some.injEq.{0} <| And.intro @DV.int.injEq <| And.intro @DV.bool.injEq <| And.intro @DV.sl.injEq <| And.intro @DV.own.injEq <| And.intro @DV.tup.injEq <| And.intro @List.cons.injEq.{0} <| And.intro @Ob.arr.injEq <| And.intro @Ob.box.injEq <| And.intro @Option.map_map.{0,0,0} <| And.intro @Int.toNat_natCast <| And.intro @Int.toNat_zero <| And.intro @Int.toNat_one <| And.intro @Nat.mul_one <| And.intro @Nat.zero_add <| And.intro @Nat.add_zero <| And.intro @List.map_append.{0,0} <| And.intro @List.map_replicate.{0,0} <| And.intro @Int.cast_ofNat_Int <| And.intro @Nat.left_eq_add <| And.intro @Nat.add_eq_left <| @Nat.add_left_cancel_iff):=
 And.intro @acj <| And.intro @aci <| And.intro @ach <| And.intro @acg <| And.intro @acf <| And.intro @ace <| And.intro @acd <| And.intro @Option.map_some.{0,0} <| And.intro @Option.map_none.{0,0} <| And.intro @Option.bind_some.{0,0} <| And.intro @Option.bind_none.{0,0} <| And.intro @beq_true <| And.intro @beq_false <| And.intro @Bool.not_true <| And.intro @Bool.not_false <| And.intro @BEq.rfl.{0} <| And.intro @Bool.true_beq <| And.intro @Bool.false_beq <| And.intro @and_true <| And.intro @true_and <| And.intro @and_self <| And.intro @decide_true <| And.intro @decide_false <| And.intro @List.length_cons.{0} <| And.intro @List.length_nil.{0} <| And.intro @List.all_cons.{0} <| And.intro @List.all_nil.{0} <| And.intro @Bool.and_true <| And.intro @Bool.and_self <| And.intro @List.getElem?_cons_zero.{0} <| And.intro @List.getElem?_cons_succ.{0} <| And.intro @List.set_cons_zero.{0} <| And.intro @List.set_cons_succ.{0} <| And.intro @List.nil_append.{0} <| And.intro @List.cons_append.{0} <| And.intro @List.append_nil.{0} <| And.intro @List.map_cons.{0,0} <| And.intro @List.map_nil.{0,0} <| And.intro @not_true_eq_false <| And.intro @not_false_eq_true <| And.intro @false_implies <| And.intro @true_implies <| And.intro @List.take_succ_cons.{0} <| And.intro @List.take_zero.{0} <| And.intro @List.take_nil.{0} <| And.intro @List.drop_succ_cons.{0} <| And.intro @List.drop_zero.{0} <| And.intro @List.drop_nil.{0} <| And.intro @List.replicate_zero.{0} <| And.intro @List.replicate_succ.{0} <| And.intro @List.flatMap_cons.{0,0} <| And.intro @List.flatMap_nil.{0,0} <| And.intro @List.length_replicate.{0} <| And.intro @List.length_append.{0} <| And.intro @Nat.le_refl <| And.intro @Nat.le_add_right <| And.intro @Nat.add_assoc <| And.intro @List.append_assoc.{0} <| And.intro @or_true <| And.intro @true_or <| And.intro @or_false <| And.intro @false_or <| And.intro @and_false <| And.intro @false_and <| And.intro @Option.some.injEq.{0} <| And.intro @DV.int.injEq <| And.intro @DV.bool.injEq <| And.intro @DV.sl.injEq <| And.intro @DV.own.injEq <| And.intro @DV.tup.injEq <| And.intro @List.cons.injEq.{0} <| And.intro @Ob.arr.injEq <| And.intro @Ob.box.injEq <| And.intro @Option.map_map.{0,0,0} <| And.intro @Int.toNat_natCast <| And.intro @Int.toNat_zero <| And.intro @Int.toNat_one <| And.intro @Nat.mul_one <| And.intro @Nat.zero_add <| And.intro @Nat.add_zero <| And.intro @List.map_append.{0,0} <| And.intro @List.map_replicate.{0,0} <| And.intro @Int.cast_ofNat_Int <| And.intro @Nat.left_eq_add <| And.intro @Nat.add_eq_left <| @Nat.add_left_cancel_iff
def W0 (n:Nat)(f:Nat→Option Nat)(d:DV)(T:aj)(d':DV)(os:aj):Prop:=
 Ren f d d'∧(∀(k:Nat) ob',os[k]?=some (some ob')→∃o ob,f o=some (n+k)∧T[o]?=some (some ob)∧CW f ob ob')∧
  (∀a b x,f a=some x→f b=some x→a=b)∧(∀a x,f a=some x→n≤x∧x<n+os.length)
theorem bN.Ch {E:Prg}{f:Nat}{args:List DV}{n:Nat}{R R':DV→aj→Prop}{T0:aj}(hn:T0.length=n)(h:bN E f args T0 R)
  (hR:∀r T',R r T'→∃g r' os,W0 n g r T' r' os∧R' r' (List.replicate n none++os)):bN E f args T0 R':=by
 intro G w vs h1 h2 h3 h4
 refine Calls.mono (h G w vs h1 h2 h3 h4) fun e w' ⟨v,r,T',G',a,hr,hl,cT,hh,hf⟩=>?_
 obtain ⟨g,r',os,⟨c1,c2,c3,c4⟩,hR'⟩:=hR r T' hr
 open Classical in
 let G2:Gh:={ rd:=G'.rd,pl:=fun x=>if x<n then G.pl x else if hx:∃o,g o=some x then G'.pl (Classical.choose hx) else none}
 have hpl:∀o o' p,g o=some o'→G'.pl o=some p→G2.pl o'=some p:=fun o o' p ho hp=>by
  have h5:=(c4 o o' ho).1
  show (if o'<n then G.pl o' else if hx:∃o,g o=some o' then G'.pl (Classical.choose hx) else none)=some p
  rw [if_neg (by omega),dif_pos ⟨o,ho⟩]
  have:=Classical.choose_spec (⟨o,ho⟩:∃o,g o=some o')
  rw [c3 _ _ _ this ho];exact hp
 have aaD:∀x p,G2.pl x=some p→(x<n∧G.pl x=some p)∨(n≤x∧x<n+os.length∧∃o,g o=some x∧G'.pl o=some p):=fun x p hx=>by
  change (if x<n then G.pl x else if hx:∃o,g o=some x then G'.pl (Classical.choose hx) else none)=some p at hx
  by_cases hlt:x<n
  ·rw [if_pos hlt] at hx;exact .inl ⟨hlt,hx⟩
  ·rw [if_neg hlt] at hx
   by_cases he:∃o,g o=some x
   ·rw [dif_pos he] at hx
    have hs:=Classical.choose_spec he
    exact .inr ⟨by omega,(c4 _ _ hs).2,_,hs,hx⟩
   ·rw [dif_neg he] at hx;cases hx
 have hT:∀(k:Nat) ob,(List.replicate n (none:Option Ob)++os)[k]?=some (some ob)→n≤k∧os[k-n]?=some (some ob):=fun k ob hk=>by
  by_cases hlt:k<n
  ·rw [List.getElem?_append_left (by simpa using hlt)] at hk;exact (cW hk).elim
  ·rw [List.getElem?_append_right (by simpa using hlt)] at hk
   exact ⟨by omega,by simpa using hk⟩
 have hob:∀(k:Nat) ob',(List.replicate n (none:Option Ob)++os)[k]?=some (some ob')→∃o ob,g o=some k∧T'[o]?=some (some ob)∧CW g ob ob':=fun k ob' hk=>by
  obtain ⟨h5,h6⟩:=hT k ob' hk
  obtain ⟨o,ob,h7,h8,h9⟩:=c2 _ _ h6
  rw [show n+(k-n)=k by omega] at h7
  exact ⟨o,ob,h7,h8,h9⟩
 have nO:∀(k:Nat) ob' p,(List.replicate n (none:Option Ob)++os)[k]?=some (some ob')→G2.pl k=some p→∃o ob,g o=some k∧T'[o]?=some (some ob)∧CW g ob ob'∧G'.pl o=some p:=fun k ob' p hk hp=>by
  obtain ⟨o,ob,h5,h6,h7⟩:=hob k ob' hk
  obtain ⟨q,hq,_⟩:=hh.live o ob h6
  rw [hpl o k q h5 hq] at hp
  obtain rfl:=sj hp
  exact ⟨o,ob,h5,h6,h7,hq⟩
 refine ⟨v,r',_,G2,a,hR',by simp [hn],c1.rel (G:=G') (G':=G2) (fun _ _ h=>h) hpl cT,⟨?_,?_,?_,hh.rdv,?_⟩,⟨hf.os,hf.tape,hf.output,hf.size,hf.blk,hf.cell,hf.frz,?_,hf.rdn,⟨hf.le.rd,?_⟩,hf.mko⟩⟩
 ·intro k p hp
  rcases aaD k p hp with ⟨h5,_⟩ | ⟨_,h5,_⟩ <;> simp <;> omega
 ·intro k ob' hk
  obtain ⟨o,ob,h5,h6,h7⟩:=hob k ob' hk
  obtain ⟨q,hq,hl⟩:=hh.live o ob h6
  refine ⟨q,hpl o k q h5 hq,⟨hl.psz.trans h7.1,h7.2.1 ▸ hl.fits,fun row hrow=>?_,hl.there,fun i j row c v hi hj hv=>?_,hl.mko⟩⟩
  ·obtain ⟨i,hi,he⟩:=List.getElem_of_mem hrow
   have hi2:i<ob.rows.length:=by rw [h7.2.1];exact hi
   rw [←(h7.2.2 i ob.rows[i] row (List.getElem?_eq_getElem hi2) (by rw [List.getElem?_eq_getElem hi,he])).1]
   exact hl.size _ (List.getElem_mem hi2)
  ·have hi2:i<ob.rows.length:=by rw [h7.2.1];exact (List.getElem?_eq_some_iff.1 hi).1
   obtain ⟨h8,h9⟩:=h7.2.2 i ob.rows[i] row (List.getElem?_eq_getElem hi2) hi
   have hj2:j<ob.rows[i].length:=by rw [h8];exact (List.getElem?_eq_some_iff.1 hj).1
   exact (h9 j _ c (List.getElem?_eq_getElem hj2) hj).rel (G:=G') (G':=G2) (fun _ _ h=>h) hpl (hl.holds i j ob.rows[i] ob.rows[i][j] v (List.getElem?_eq_getElem hi2) (List.getElem?_eq_getElem hj2) hv)
 ·intro k k' x x' p p' m m' hk hk' hne hp hp' hm hm' e
  obtain ⟨o,ob,h5,h6,h7,h8⟩:=nO k x p hk hp
  obtain ⟨o',ob',h5',h6',h7',h8'⟩:=nO k' x' p' hk' hp'
  refine hh.sep o o' ob ob' p p' m m' h6 h6' (fun e2=>?_) h8 h8' hm hm' e
  subst e2
  exact hne (sj (h5.symm.trans h5'))
 ·intro k x p m hk hp hm
  obtain ⟨o,ob,h5,h6,h7,h8⟩:=nO k x p hk hp
  exact hh.rds o ob p m h6 h8 hm
 ·intro k x p m hk hp hm
  obtain ⟨o,ob,h5,h6,h7,h8⟩:=nO k x p hk hp
  exact hf.mine o ob p m h6 h8 hm
 ·intro k p hp
  have hk:=h2.pls k p hp
  rw [hn] at hk
  show (if k<n then G.pl k else _)=some p
  rw [if_pos hk];exact hp
def lg (T:aj):List Nat→(aj→Prop)→Prop
 | [],k=>k []
 | i::l,k=>bu T[i]? fun x=>bu x fun ob=>Ca ob∧lg T l fun os=>k (some ob::os)
theorem yz {T:aj}:∀{ids:List Nat} {K:aj→Prop},lg T ids K→∃os,K os∧os.length=ids.length∧∀(k:Nat) (ob':Ob),os[k]?=some (some ob')→∃o,ids[k]?=some o∧T[o]?=some (some ob')∧Ca ob'
 | [],K,h=>⟨[],h,rfl,by simp⟩
 | i::l,K,h=>by
  simp only [lg] at h
  cases h1:T[i]? with
  | none=>rw [h1] at h;exact h.elim
  | some x=>
   rw [h1] at h
   cases x with
   | none=>exact h.elim
   | some ob=>
    obtain ⟨h0,h⟩:=h
    obtain ⟨os,h2,h3,h4⟩:=yz h
    refine ⟨some ob::os,h2,by simp [h3],fun k ob' hk=>?_⟩
    rcases k with _ | k
    ·simp at hk;subst hk;exact ⟨i,rfl,h1,h0⟩
    ·exact h4 k ob' (by simpa using hk)
def sO (n:Nat)(d:DV)(T:aj)(K:DV→aj→Prop):Prop:=Bi (dW d)∧clT d∧lg T (dW d) fun os=>K (lC n (dW d) d) os
theorem nD {n:Nat}{d:DV}{T:aj}{K:DV→aj→Prop}(h:sO n d T K):∃g r' os,W0 n g d T r' os∧K r' os:=by
 obtain ⟨hn,hc,hg⟩:=h
 rw [HF] at hn
 obtain ⟨os,h1,h2,h4⟩:=yz hg
 refine ⟨uH n (dW d),_,os,⟨acu (fun _ h=>h) hc,fun k ob' hk=>?_,fun a b x ha hb=>?_,fun a x ha=>?_⟩,h1⟩
 ·obtain ⟨o,h5,h6,h7⟩:=h4 k ob' hk
  have hm:=List.mem_of_getElem? h5
  refine ⟨o,ob',?_,h6,Zv h7⟩
  show (if o∈dW d then some (n+pos o (dW d)) else none)=some (n+k)
  rw [if_pos hm]
  have h8:=lK hm
  have:pos o (dW d)=k:=(List.getElem?_inj (A3 hm) hn).1 (h8.trans h5.symm)
  rw [this]
 ·unfold uH at ha hb
  by_cases hma:a∈dW d
  case neg=>rw [if_neg hma] at ha;cases ha
  by_cases hmb:b∈dW d
  case neg=>rw [if_neg hmb] at hb;cases hb
  rw [if_pos hma] at ha
  rw [if_pos hmb] at hb
  have e:n+pos a (dW d)=n+pos b (dW d):=(sj ha).trans (sj hb).symm
  have h8:=lK hma
  have h9:=lK hmb
  rw [show pos a (dW d)=pos b (dW d) by omega,h9] at h8
  exact (sj h8).symm
 ·unfold uH at ha
  split at ha
  ·rename_i hm
   have:=A3 hm
   obtain rfl:=sj ha
   exact ⟨by omega,by omega⟩
  ·cases ha
def eY (E:Prg)(f:Nat)(args:Nat→List DV)(obs:List Ob)(res:Nat→DV × aj):Prop:=
 ∀n,bN E f (args n) (List.replicate n none++obs.map some) fun r T'=>r=(res (n+obs.length)).1∧T'=List.replicate (n+obs.length) none++(res (n+obs.length)).2
theorem eY.cY {E:Prg}{F:dz}(hF:FOk E F){f:Nat}{ann:List Ann}{rf:RFn}{args:Nat→List DV}{obs:List Ob}{res:Nat→DV × aj}(hc:aK E.P ann f=some rf)(hargs:∀n,(args n).length≤rf.n)
  (h:∀n,rf.code.wp E F rf.n (jW rf.res fun d T'=>n+obs.length≤T'.length∧sO (n+obs.length) d T' fun d' os=>wkT d' (res (n+obs.length)).1∧os=(res (n+obs.length)).2) ⟨dN 0 (args n),List.replicate n none++obs.map some⟩):eY E f args obs res:=by
 intro n
 have hlen:(List.replicate n (none:Option Ob)++obs.map some).length=n+obs.length:=by simp
 have h1:bN E f (args n) (List.replicate n none++obs.map some) fun d T'=>sO (n+obs.length) d T' fun d' os=>wkT d' (res (n+obs.length)).1∧os=(res (n+obs.length)).2:=by
  refine bN.aE hF hc (hargs n) ?_
  refine RC.wp_mono _ (h n) fun e st hh=>?_
  cases e with
  | normal=>
   simp only [jW] at hh ⊢
   split at hh
   ·exact ⟨by rw [hlen];exact hh.1,hh.2⟩
   ·exact hh.elim
  | ret=>
   simp only [jW] at hh ⊢
   split at hh
   ·exact ⟨by rw [hlen];exact hh.1,hh.2⟩
   ·exact hh.elim
  | _=>exact hh
 have h2:bN E f (args n) (List.replicate n none++obs.map some) fun d T'=>wkT d (res (n+obs.length)).1∧T'=List.replicate (n+obs.length) none++(res (n+obs.length)).2:=
  bN.Ch hlen h1 fun r T' hr=>by
   obtain ⟨g,r',os,hc,hk1,hk2⟩:=nD hr
   exact ⟨g,r',os,hc,hk1,by rw [hk2]⟩
 intro G w vs g1 g2 g3 g4
 refine Calls.mono (h2 G w vs g1 g2 g3 g4) fun e w' ⟨v,r,T',G',a,⟨hr,hT⟩,hl,cT,hh,hf⟩=>?_
 exact ⟨v,_,T',G',a,⟨rfl,hT⟩,hl,qI hr cT,hh,hf⟩
def oV:List Nat→aj→aj
 | [],T=>T
 | i::l,T=>oV l (T.set i none)
theorem lV:∀(l:List Nat) (T:aj),(oV l T).length=T.length
 | [],T=>rfl
 | i::l,T=>by simp [oV,lV l]
theorem xp:∀(l:List Nat) (T:aj) (k:Nat) (ob:Ob),(oV l T)[k]?=some (some ob)→k∉l∧T[k]?=some (some ob)
 | [],T,k,ob,h=>⟨by simp,h⟩
 | i::l,T,k,ob,h=>by
  obtain ⟨h1,h2⟩:=xp l _ k ob h
  rw [getElem?_set] at h2
  by_cases e:i=k
  ·rw [if_pos e] at h2
   split at h2
   ·simp at h2
   ·cases h2
  ·rw [if_neg e] at h2
   exact ⟨by simp [h1];exact fun h=>e h.symm,h2⟩
def oE (ids:List Nat)(T:aj):aj:=(List.range T.length).map fun k=>if k∈ids then (T[k]?).getD none else none
theorem kJ (ids:List Nat)(T:aj):(oE ids T).length=T.length:=by simp [oE]
theorem mR {ids:List Nat}{T:aj}{k:Nat}{ob:Ob}:(oE ids T)[k]?=some (some ob)↔k∈ids∧T[k]?=some (some ob):=by
 by_cases hk:k<T.length
 ·simp only [oE,List.getElem?_map,List.getElem?_range hk,Option.map_some,Option.some.injEq,List.getElem?_eq_getElem hk,Option.getD_some]
  by_cases hm:k∈ids
  ·simp [hm]
  ·simp [hm]
 ·rw [List.getElem?_eq_none (by rw [kJ];omega),List.getElem?_eq_none (by omega)]
  simp
theorem aq.hand {E:Prg}{f:Nat}{args:List DV}{T:aj}{K:DV→aj→Prop}(ids:List Nat)(obs:List Ob)(hnd:ids.Nodup)(hlen:obs.length=ids.length)
  (hT:∀(i:Nat) o ob,ids[i]?=some o→obs[i]?=some ob→T[o]?=some (some ob)) (acU:∀d∈args,∀o∈dW d,o∈ids) {ZK:Nat→List DV} (hargs:args.map (lC T.length ids)=ZK T.length) {res:Nat→DV × aj}
  (h:eY E f ZK obs res) (hK:K (res (T.length+ids.length)).1 (oV ids T++(List.replicate ids.length none++(res (T.length+ids.length)).2))):aq E f args T K:=by
 have h0:=h T.length
 rw [←hargs,hlen] at h0
 refine ⟨oE ids T,fun r T'=>r=(res (T.length+ids.length)).1∧T'=List.replicate (T.length+ids.length) none++(res (T.length+ids.length)).2,kJ _ _,fun k ob hk=>(mR.1 hk).2,?_,?_⟩
 ·intro G w vs g1 g2 g3 g4
  let G0:Gh:={ rd:=G.rd,pl:=fun x=>if x<T.length then G.pl x else match ids[x-T.length]? with | some o=>G.pl o | none=>none}
  have hle:G.le G0:=⟨fun _ _ h=>h,fun k p hp=>by
   have:=g2.pls k p hp
   rw [kJ] at this
   simp only [G0]
   rw [if_pos this];exact hp⟩
  have hpl:∀o p,o∈ids→G.pl o=some p→G0.pl (T.length+pos o ids)=some p:=fun o p ho hp=>by
   simp only [G0]
   rw [if_neg (by omega),Nat.add_sub_cancel_left,lK ho]
   exact hp
  have hnew:∀(k:Nat) (ob:Ob),(List.replicate T.length none++obs.map some)[k]?=some (some ob)→∃o,ids[k-T.length]?=some o∧T.length≤k∧(oE ids T)[o]?=some (some ob)∧G0.pl k=G.pl o:=fun k ob hk=>by
   by_cases hlt:k<T.length
   ·rw [List.getElem?_append_left (by simpa using hlt)] at hk;exact (cW hk).elim
   ·rw [List.getElem?_append_right (by simpa using hlt)] at hk
    simp only [List.length_replicate,List.getElem?_map,Option.map_eq_some_iff,Option.some.injEq] at hk
    obtain ⟨ob2,hk,rfl⟩:=hk
    have DC:k-T.length<ids.length:=by rw [←hlen];exact (List.getElem?_eq_some_iff.1 hk).1
    refine ⟨ids[k-T.length],List.getElem?_eq_getElem DC,by omega,mR.2 ⟨List.getElem_mem _,hT _ _ _ (List.getElem?_eq_getElem DC) hk⟩,?_⟩
    simp only [G0]
    rw [if_neg hlt,List.getElem?_eq_getElem DC]
  have hH:rE G0 (List.replicate T.length none++obs.map some) w:=by
   refine ⟨fun k p hp=>?_,fun k ob hob=>?_,?_,g2.rdv,?_⟩
   ·simp only [G0] at hp
    simp only [List.length_append,List.length_replicate,List.length_map,hlen]
    split at hp
    ·omega
    ·split at hp
     ·rename_i o ho
      have:=(List.getElem?_eq_some_iff.1 ho).1
      omega
     ·cases hp
   ·obtain ⟨o,h1,h2,h3,h4⟩:=hnew k ob hob
    obtain ⟨p,hp,hl⟩:=g2.live o ob h3
    exact ⟨p,h4.trans hp,hl.mono hle (fun _ _=>rfl) (fun _ _=>rfl) (fun _ h=>h)⟩
   ·intro k k' r r' p p' i i' h1 h2 hne hp hp' hi hi'
    obtain ⟨o,a1,a2,a3,a4⟩:=hnew k r h1
    obtain ⟨o',b1,b2,b3,b4⟩:=hnew k' r' h2
    refine g2.sep o o' r r' p p' i i' a3 b3 (fun e=>?_) (a4.symm.trans hp) (b4.symm.trans hp') hi hi'
    subst e
    have:=xg hnd a1 b1
    omega
   ·intro k r p i hk hp hi
    obtain ⟨o,a1,a2,a3,a4⟩:=hnew k r hk
    exact g2.rds o r p i a3 (a4.symm.trans hp) hi
  have hsub:∀x,cellsOf G0 (List.replicate T.length none++obs.map some) x→cellsOf G (oE ids T) x:=fun x ⟨k,ob,p,m,h1,h2,h3,h4⟩=>by
   obtain ⟨o,a1,a2,a3,a4⟩:=hnew k ob h1
   exact ⟨o,ob,p,m,a3,a4.symm.trans h2,h3,h4⟩
  refine Calls.mono (h0 G0 w vs (fun g row hg=>(g1 g row hg).mono hle) hH (by simpa using g3) (fun i d hd=>?_)) fun e w' ⟨v,r,T',G',a,hr,hl,cT,hh,hf⟩=>?_
  ·rw [List.getElem?_map,Option.map_eq_some_iff] at hd
   obtain ⟨d0,hd0,rfl⟩:=hd
   exact Lz hle hpl (fun o ho=>acU d0 (List.mem_of_getElem? hd0) o ho) (g4 i d0 hd0)
  ·refine ⟨v,r,T',G',a,hr,by rw [kJ];rw [hr.2];simp;omega,cT,hh,⟨hf.os,hf.tape,hf.output,hf.size,fun b hb hn=>hf.blk b hb fun o ho=>hn o (hsub _ ho),fun x hx hn=>hf.cell x hx fun ho=>hn (hsub _ ho),
    fun x v hx hn=>hf.frz x v hx fun ho=>hn (hsub _ ho),fun k ob p m h1 h2 h3=>?_,fun x v hx=>?_,hle.trans hf.le,hf.mko⟩⟩
   ·rcases hf.mine k ob p m h1 h2 h3 with h4 | h4
    ·exact .inl h4
    ·exact .inr (hsub _ h4)
   ·rcases hf.rdn x v hx with h4 | h4 | h4
    ·exact .inl h4
    ·exact .inr (.inl h4)
    ·exact .inr (.inr (hsub _ h4))
 ·rintro r T1' ⟨rfl,rfl⟩ _
  refine ⟨_,⟨by simp [lV];omega,kJ _ _,fun k ob hk=>(mR.1 hk).2,fun k ob ob' h1 h2=>?_,fun k ob' hlt _ h2=>?_,fun k ob' hge h2=>?_⟩,hK⟩
  ·obtain ⟨h3,h4⟩:=mR.1 h1
   have hlt:=(List.getElem?_eq_some_iff.1 h4).1
   rw [List.getElem?_append_left (by rw [lV];exact hlt)] at h2
   exact absurd h3 (xp _ _ _ _ h2).1
  ·rw [List.getElem?_append_left (by rw [lV];exact hlt)] at h2
   exact .inl (xp _ _ _ _ h2).2
  ·rw [List.getElem?_append_right (by rw [lV];exact hge),lV] at h2
   rw [←List.replicate_append_replicate,List.append_assoc,List.getElem?_append_right (by simpa using hge)]
   simpa using h2
def oW (k:IntKind)(n:Nat):Option (Option Ob)→Prop
 | some (some (.arr sz rows))=>sz=1∧rows=af k (ints rows)∧rows.length=n∧inK k (ints rows)
 | _=>False
def cG:Option (Option Ob)→List Int
 | some (some (.arr _ rows))=>ints rows
 | _=> []
theorem qY {k:IntKind}{n:Nat}{x:Option (Option Ob)}(h:oW k n x):x=some (some (.arr 1 (af k (cG x))))∧(cG x).length=n∧inK k (cG x):=by
 unfold oW at h
 split at h
 ·obtain ⟨rfl,h1,h2,h3⟩:=h
  refine ⟨by simp only [cG];rw [←h1],?_,h3⟩
  simp only [cG]
  rw [←h2];simp [ints]
 ·exact h.elim
theorem E5 (k:IntKind)(n:Nat)(l:List Int):oW k n (some (some (.arr 1 (af k l))))=(l.length=n∧inK k l):=by simp [oW,eA,ia]
theorem yg (k:IntKind)(sz:Nat)(l:List Int):cG (some (some (.arr sz (af k l))))=l:=by simp [cG,eA]
theorem BL (T:aj)(k:aj→Prop):lg T [] k=k []:=au _
theorem yA (T:aj)(i:Nat)(l:List Nat)(k:aj→Prop):lg T (i::l) k=(bu T[i]? fun x=>bu x fun ob=>Ca ob∧lg T l fun os=>k (some ob::os)):=au _
theorem GF (n:Nat)(d:DV)(T:aj)(K:DV→aj→Prop):sO n d T K=(Bi (dW d)∧clT d∧lg T (dW d) fun os=>K (lC n (dW d) d) os):=au _
theorem E3 (T:aj):oV [] T=T:=au _
theorem Bz (i:Nat)(l:List Nat)(T:aj):oV (i::l) T=oV l (T.set i none):=au _
theorem az.zL {E:Prg}{f:Nat}{args:List DV}{s sz:Nat}(h:az E f args fun n r os=>r=.sl s [] .nil∧os=[]):az E f args fun n r os=>r=.own n 0 0∧os=[some (.arr sz [])]:=by
 intro n G w vs g1 g2 g3 g4
 refine Calls.mono (h n G w vs g1 g2 g3 g4) fun e w' ⟨v,r,T',G',a,⟨os,hT,hr,hos⟩,hl,cT,hh,hf⟩=>?_
 subst hr hos
 rw [List.append_nil] at hT
 subst hT
 have hr:dh E ⟨w,G,cellsOf G (List.replicate n none),1⟩ G' ⟨[(0,.sl s [] .nil)],List.replicate n none⟩ ⟨#[v],[]⟩ w':=by
  refine ⟨fun t=>?_,rfl,rfl,hh,hf.ctx,fun g row hg=>(g1 g row hg).mono hf.le⟩
  by_cases e:t=0
  ·subst e;exact cT
  ·have:St.get ⟨[(0,.sl s [] .nil)],List.replicate n none⟩ t=.undef:=by
    simp only [St.get,St.look]
    rw [if_neg (fun h=>e h.symm)]
   rw [this];exact .undef _
 have h2:=hr.Bh sz
 refine ⟨v,.own n 0 0,List.replicate n none++ [some (.arr sz [])],G'.more n ⟨0,0,sz,0⟩,a,⟨_,rfl,rfl,rfl⟩,by simp,?_,?_,?_⟩
 ·cases cT with
  | sl _ _ _ p len cap b' o vals h5 h6 h7 h8 _ _ _=>
   have hl:len=0:=by simpa using h5
   subst hl
   have hc0:cap=0:=h6.2
   subst hc0
   exact .own _ 0 0 ⟨0,0,sz,0⟩ p 0 (by simp [Gh.more]) rfl (Nat.le_refl _) (fun h=>by omega)
 ·have:=h2.heap
  simpa using this
 ·have:=h2.frm.ctx (m:=0)
  simpa using this
def ldV (ag:Bool)(sz:Nat)(T:aj):DV→Option DV
 | .ptr o i j=>(T[o]?).bind fun x=>x.bind fun ob=>(ob.rows[i]?).bind fun row=>rowAt ag sz row j
 | .rp row j=>rowAt ag sz row j
 | _=>none
theorem Zu (st:St)(i:Nat)(ag:Bool)(sz:Nat):Res.ev st (.c i ag sz)=ldV ag sz st.ay (st.get i):=by
 simp only [Res.ev,ldV]
 generalize st.get i=d
 cases d <;> try rfl
 rename_i o r j
 simp only
 cases st.ay[o]? with
 | none=>rfl
 | some x=>
  cases x with
  | none=>rfl
  | some ob=>
   simp only [Option.bind_some]
   cases ob.rows[r]? <;> rfl
theorem P0 (ag:Bool)(sz:Nat)(T:aj)(o i j:Nat):ldV ag sz T (.ptr o i j)=(T[o]?).bind fun x=>x.bind fun ob=>(ob.rows[i]?).bind fun row=>rowAt ag sz row j:=au _
theorem Vx (ag:Bool)(sz:Nat)(T:aj)(row:List DV)(j:Nat):ldV ag sz T (.rp row j)=rowAt ag sz row j:=au _
def uJ:DV→List Nat
 | .tup cs=>cs.flatMap jU
 | d=>jU d
def YS (st:St)(K:DV→aj→Prop):Prop:=K (st.get 0) st.ay
def YR (d:DV)(T:aj)(K:DV→aj→Prop):Prop:=YS (St.fK (uJ d) ⟨[(0,d)],T⟩) K
theorem HQ (d:DV)(T:aj)(K:DV→aj→Prop):YR d T K=YS (St.fK (uJ d) ⟨[(0,d)],T⟩) K:=au _
theorem QE (d:DV)(T:aj)(K:DV→aj→Prop):YS ⟨[(0,d)],T⟩ K=K d T:=au _
theorem EF (cs:List DV):uJ (.tup cs)=cs.flatMap jU:=au _
theorem EG (o off n:Nat):uJ (.own o off n)=[o]:=au _
theorem EH (cs:List DV):uJ (.agg cs)=jU (.agg cs):=au _
theorem JQ (sz:Nat)(rows:List (List DV))(k:SK):uJ (.sl sz rows k)=[]:=au _
theorem A7 (k:IntKind)(n:Int):jU (.int k n)=[]:=au _
theorem yb (b:Bool):jU (.bool b)=[]:=au _
theorem A4 (b:List UInt8):jU (.str b)=[]:=au _
theorem A5 (o i j:Nat):jU (.ptr o i j)=[]:=au _
theorem NG (o:Nat)(st:St):(st.freeze o).ay.length=st.ay.length:=by
 unfold St.freeze
 split
 ·split <;> simp
 ·rfl
theorem yC:∀(l:List Nat) (st:St),(St.fK l st).ay.length=st.ay.length
 | [],st=>rfl
 | o::l,st=>by rw [St.fK,yC l,NG]
theorem bN.frz {E:Prg}{f:Nat}{args:List DV}{T:aj}{R:DV→aj→Prop}(h:bN E f args T R):bN E f args T fun r T'=>∃d T0,R d T0∧r=(St.fK (uJ d) ⟨[(0,d)],T0⟩).get 0∧T'=(St.fK (uJ d) ⟨[(0,d)],T0⟩).ay:=by
 intro G w vs g1 g2 g3 g4
 refine Calls.mono (h G w vs g1 g2 g3 g4) fun e w' ⟨v,r,T',G',a,hR,hl,cT,hh,hf⟩=>?_
 have hr:dR E ⟨w,G,cellsOf G T,1⟩ ⟨[(0,r)],T'⟩ ⟨#[v],[]⟩ w':=by
  refine ⟨G',fun t=>?_,rfl,rfl,hh,hf.ctx,fun g row hg=>(g1 g row hg).mono hf.le⟩
  by_cases e:t=0
  ·subst e;exact cT
  ·have:St.get ⟨[(0,r)],T'⟩ t=.undef:=by
    simp only [St.get,St.look]
    rw [if_neg (fun h=>e h.symm)]
   rw [this];exact .undef _
 obtain ⟨G2,h2⟩:=hr.fK (uJ r)
 refine ⟨v,_,_,G2,a,⟨r,T',hR,rfl,rfl⟩,by rw [yC];exact hl,h2.env 0,h2.heap,h2.frm.ctx⟩
theorem eY.iM {E:Prg}{F:dz}(hF:FOk E F){f:Nat}{ann:List Ann}{rf:RFn}{args:Nat→List DV}{obs:List Ob}{res:Nat→DV × aj}(hc:aK E.P ann f=some rf)(hargs:∀n,(args n).length≤rf.n)
  (h:∀n,rf.code.wp E F rf.n (jW rf.res fun d T'=>n+obs.length≤T'.length∧YR d T' fun d T'=>sO (n+obs.length) d T' fun d' os=>wkT d' (res (n+obs.length)).1∧os=(res (n+obs.length)).2) ⟨dN 0 (args n),List.replicate n none++obs.map some⟩):eY E f args obs res:=by
 intro n
 have hlen:(List.replicate n (none:Option Ob)++obs.map some).length=n+obs.length:=by simp
 have h1:bN E f (args n) (List.replicate n none++obs.map some) fun d T'=>YR d T' fun d T'=>sO (n+obs.length) d T' fun d' os=>wkT d' (res (n+obs.length)).1∧os=(res (n+obs.length)).2:=by
  refine bN.aE hF hc (hargs n) ?_
  refine RC.wp_mono _ (h n) fun e st hh=>?_
  cases e with
  | normal=>
   simp only [jW] at hh ⊢
   split at hh
   ·exact ⟨by rw [hlen];exact hh.1,hh.2⟩
   ·exact hh.elim
  | ret=>
   simp only [jW] at hh ⊢
   split at hh
   ·exact ⟨by rw [hlen];exact hh.1,hh.2⟩
   ·exact hh.elim
  | _=>exact hh
 have h2:bN E f (args n) (List.replicate n none++obs.map some) fun d T'=>wkT d (res (n+obs.length)).1∧T'=List.replicate (n+obs.length) none++(res (n+obs.length)).2:=
  bN.Ch hlen h1.frz fun r T' ⟨d,T0,hr,hd,hT⟩=>by
   subst hd hT
   rw [HQ] at hr
   unfold YS at hr
   obtain ⟨g,r',os,hc,hk1,hk2⟩:=nD hr
   exact ⟨g,r',os,hc,hk1,by rw [hk2]⟩
 intro G w vs g1 g2 g3 g4
 refine Calls.mono (h2 G w vs g1 g2 g3 g4) fun e w' ⟨v,r,T',G',a,⟨hr,hT⟩,hl,cT,hh,hf⟩=>?_
 exact ⟨v,_,T',G',a,⟨rfl,hT⟩,hl,qI hr cT,hh,hf⟩
theorem az.iM {E:Prg}{F:dz}(hF:FOk E F){f:Nat}{ann:List Ann}{rf:RFn}{args:List DV}{res:Nat→DV × aj}(hc:aK E.P ann f=some rf)(hargs:args.length≤rf.n)
  (h:∀n,rf.code.wp E F rf.n (jW rf.res fun d T'=>n≤T'.length∧YR d T' fun d T'=>sO n d T' fun d' os=>wkT d' (res n).1∧os=(res n).2) ⟨dN 0 args,List.replicate n none⟩):az E f args fun n r os=>r=(res n).1∧os=(res n).2:=by
 intro n
 have h1:bN E f args (List.replicate n none) fun r T'=>r=(res n).1∧T'=List.replicate n none++(res n).2:=by
  have:=eY.iM (args:=fun _=>args) (obs:=[]) (res:=res) hF hc (fun _=>hargs) (fun n=>by simpa using h n) n
  simpa using this
 exact h1.mono fun r T' ⟨h2,h3⟩=>⟨_,h3,h2,rfl⟩
def jV (d d':DV):Prop:=∀o,DV.id d=some o→DV.id d'≠some o
theorem FJ {E:Prg}{st:St}{op:ROp}{x p:Opd}(h:op.cQ=[x]):iU E st op p=jV (Opd.ev E st x) (Opd.ev E st p):=by simp [iU,h,jV]
theorem vj (E:Prg)(st:St)(ag:Bool)(sz:Nat)(x p:Opd):iU E st (.load ag sz x) p=jV (Opd.ev E st x) (Opd.ev E st p):=FJ rfl
theorem yF (E:Prg)(st:St)(x p:Opd):iU E st (.conv .b2s x) p=jV (Opd.ev E st x) (Opd.ev E st p):=FJ rfl
theorem rX (E:Prg)(st:St)(sz:Nat)(x y p:Opd):iU E st (.aT sz x y) p=(jV (Opd.ev E st x) (Opd.ev E st p)∧jV (Opd.ev E st y) (Opd.ev E st p)):=by simp [iU,ROp.cQ,jV]
theorem Qt (o i j o' i' j':Nat):jV (.ptr o i j) (.ptr o' i' j')=¬o=o':=by simp [jV,DV.id];exact ⟨fun h e=>h e.symm,fun h e=>h e.symm⟩
theorem Qu (o i j o' i' j':Nat):jV (.ptr o i j) (.own o' i' j')=¬o=o':=by simp [jV,DV.id];exact ⟨fun h e=>h e.symm,fun h e=>h e.symm⟩
theorem Qv (o i j o' i' j':Nat):jV (.own o i j) (.ptr o' i' j')=¬o=o':=by simp [jV,DV.id];exact ⟨fun h e=>h e.symm,fun h e=>h e.symm⟩
theorem Qw (o i j o' i' j':Nat):jV (.own o i j) (.own o' i' j')=¬o=o':=by simp [jV,DV.id];exact ⟨fun h e=>h e.symm,fun h e=>h e.symm⟩
theorem Qr (sz:Nat)(rows:List (List DV))(k:SK)(d:DV):jV (.sl sz rows k) d=True:=by simp [jV,DV.id]
theorem Qs (row:List DV)(j:Nat)(d:DV):jV (.rp row j) d=True:=by simp [jV,DV.id]
theorem KH (k:IntKind)(n:Int)(d:DV):jV (.int k n) d=True:=by simp [jV,DV.id]
theorem KG (sz:Nat)(rows:List (List DV))(k:SK)(d:DV):jV d (.sl sz rows k)=True:=by simp [jV,DV.id]
theorem jE:type_of% (And.intro @HQ <| And.intro @QE <| And.intro @EF <| And.intro @EG <| And.intro @EH <| And.intro @JQ <| And.intro @A7 <| And.intro @yb <| And.intro @A4 <| @A5):=
 And.intro @HQ <| And.intro @QE <| And.intro @EF <| And.intro @EG <| And.intro @EH <| And.intro @JQ <| And.intro @A7 <| And.intro @yb <| And.intro @A4 <| @A5
theorem js:type_of% (And.intro @vj <| And.intro @yF <| And.intro @rX <| And.intro @Qt <| And.intro @Qu <| And.intro @Qv <| And.intro @Qw <| And.intro @Qr <| And.intro @Qs <| And.intro @KH <| @KG):=
 And.intro @vj <| And.intro @yF <| And.intro @rX <| And.intro @Qt <| And.intro @Qu <| And.intro @Qv <| And.intro @Qw <| And.intro @Qr <| And.intro @Qs <| And.intro @KH <| @KG
theorem gR:type_of% (And.intro @Zu <| And.intro @P0 <| And.intro @Vx <| And.intro @E5 <| And.intro @yg <| And.intro @BL <| And.intro @yA <| And.intro @GF <| And.intro @E3 <| @Bz):=
 And.intro @Zu <| And.intro @P0 <| And.intro @Vx <| And.intro @E5 <| And.intro @yg <| And.intro @BL <| And.intro @yA <| And.intro @GF <| And.intro @E3 <| @Bz
section
section
variable (E:Prg) (F:dz) (K:St→Prop) (st:St) (dst:Option Nat) (z:Bool) (f:Nat) (args:List Opd)
theorem OW (dr:Bool)(y:Opd)(name:String):stV E F dr (.inv y name args) dst z st K=HJ E F dr (Fb E st.ay (Opd.ev E st y) name) (args.map (Opd.ev E st)) st.ay fun d T'=>dX (nx st (d,T') z dst) K:=au _
theorem U4 (op:ROp)(k:OT):(OT.mid ⟨dst,op,none,z⟩ k).wp E F K st=stV E F false op dst z st (k.wp E F K):=au _
theorem PK (op:ROp)(t:Nat)(w:Bool)(k:OT):(OT.mid ⟨dst,op,some (t,w),z⟩ k).wp E F K st=nU (st.get t) (fun b=>cnd (b==w) (dX (st.xm t w) fun st=>stV E F false op dst z st (k.wp E F K)) (dX ((st.xm t (!w)).put dst .no) (k.wp E F K))) (dX (st.put dst .no) (k.wp E F K)):=au _
theorem O0 (dr:Bool)(g:Bool)(ks:List CK)(x y:Opd):stV E F dr (.eqS g ks x y) dst z st K=bu (rvl E st (.eqS g ks x y)) fun p=>dX (nx st p z dst) K:=cE E F K st dst (.eqS g ks x y) z dr rfl
theorem IZ (dr:Bool)(sz:Nat)(x y:Opd):stV E F dr (.copy sz x y) dst z st K=bu (rvl E st (.copy sz x y)) fun p=>dX (nx st p z dst) K:=cE E F K st dst (.copy sz x y) z dr rfl
theorem IV (dr:Bool)(l:List Opd):stV E F dr (.xj f l) dst z st K=bu (rvl E st (.xj f l)) fun p=>dX (nx st p z dst) K:=cE E F K st dst (.xj f l) z dr rfl
theorem D7 (dr:Bool)(t:TypeId)(x:Opd):stV E F dr (.rR t x) dst z st K=bu (rvl E st (.rR t x)) fun p=>dX (nx st p z dst) K:=cE E F K st dst (.rR t x) z dr rfl
theorem I3 (dr:Bool)(t:TypeId)(x:Opd):stV E F dr (.DH t x) dst z st K=bu (rvl E st (.DH t x)) fun p=>dX (nx st p z dst) K:=cE E F K st dst (.DH t x) z dr rfl
theorem O1 (dr:Bool)(g:Bool)(x y:Opd):stV E F dr (.eqP g x y) dst z st K=bu (rvl E st (.eqP g x y)) fun p=>dX (nx st p z dst) K:=cE E F K st dst (.eqP g x y) z dr rfl
theorem Pm (g:Bool)(x y:Opd):rvl E st (.eqP g x y)=(SD (x.ev E st) (y.ev E st)).map fun b=>(.bool (if g then !b else b),st.ay):=au _
theorem J3 (o i j:Nat):SD (.ptr o i j) (.lit (.pointer none))=some false:=au _
theorem PS (row:List DV)(j:Nat):SD (.rp row j) (.lit (.pointer none))=some false:=au _
theorem J4:SD (.lit (.pointer none)) (.lit (.pointer none))=some true:=au _
theorem E7 (d:DV)(as:List DV)(T:aj)(L:DV→aj→Prop):HJ E F false (some (f,d)) as T L=(fI E.P f=true∧jl E (F f (d::as)) false f (d::as) T L):=au _
theorem fO (cs as:List DV)(T:aj)(L:DV→aj→Prop):mE E F false (.wrap (.clo f) cs) as T L=(fI E.P f=true∧jl E (F f (as++cs)) false f (as++cs) T L):=au _
theorem E9 (T:aj)(t:TypeId)(x:DV)(name:String):Fb E T (.wrap (.ifc t) [x]) name=tA T x (ki E.P t name):=au _
theorem Fa (T:aj)(t:TypeId)(cs:List DV)(name:String):Fb E T (.wrap (.ifa t) cs) name=tA T (.agg cs) (ki E.P t name):=au _
theorem yq (T:aj)(d:DV)(way:Option (Bool × Nat)):tA T d (some (f,way))=(kj T way d).map fun x=>(f,x):=au _
theorem uU (T:aj)(d:DV):kj T none d=some d:=au _
theorem yt (T:aj)(ag:Bool)(sz o i j:Nat):kj T (some (ag,sz)) (.ptr o i j)=(T[o]?).bind fun x=>x.bind fun ob=>(ob.rows[i]?).bind fun row=>rowAt ag sz row j:=by
 simp only [kj]
 generalize T[o]?=x
 rcases x with _ | _ | ob <;> try rfl
 simp only [Option.bind]
 generalize ob.rows[i]?=y
 cases y <;> rfl
theorem BC (T:aj)(ag:Bool)(sz j:Nat)(row:List DV):kj T (some (ag,sz)) (.rp row j)=rowAt ag sz row j:=au _
theorem I8 (l:List Opd):rvl E st (.xj f l)=some (.wrap (.clo f) (l.map (Opd.ev E st)),st.ay):=au _
def pY (t:TypeId):DV→DV
 | .agg cs=> .wrap (.ifa t) cs
 | d=> .wrap (.ifc t) [d]
theorem Em (t:TypeId)(x:Opd):rvl E st (.rR t x)=some (pY t (x.ev E st),st.ay):=by
 simp only [rvl,rval]
 cases x.ev E st <;> rfl
theorem Bo (t:TypeId)(cs:List DV):pY t (.agg cs)=.wrap (.ifa t) cs:=au _
theorem Bl (t:TypeId)(o i j:Nat):pY t (.ptr o i j)=.wrap (.ifc t) [.ptr o i j]:=au _
theorem EZ (t:TypeId)(row:List DV)(j:Nat):pY t (.rp row j)=.wrap (.ifc t) [.rp row j]:=au _
theorem Bn (t:TypeId)(k:IntKind)(n:Int):pY t (.int k n)=.wrap (.ifc t) [.int k n]:=au _
theorem Bk (t:TypeId)(s:List UInt8):pY t (.str s)=.wrap (.ifc t) [.str s]:=au _
theorem Bm (t:TypeId)(o i j:Nat):pY t (.own o i j)=.wrap (.ifc t) [.own o i j]:=au _
theorem EY (t:TypeId)(s:Nat)(rows:List (List DV))(k:SK):pY t (.sl s rows k)=.wrap (.ifc t) [.sl s rows k]:=au _
def F7 (t:TypeId):DV→Option DV
 | .wrap (.ifc t') [d]=>if t'=t then some d else none
 | .wrap (.ifa t') cs=>if t'=t then some (.agg cs) else none
 | _=>none
theorem Jd (t:TypeId)(x:Opd):rvl E st (.DH t x)=(F7 t (x.ev E st)).map (·,st.ay):=by
 simp only [rvl,rval]
 generalize x.ev E st=d
 unfold F7
 split
 ·dsimp only;split <;> rfl
 ·dsimp only;split <;> rfl
 ·rename_i h1 h2
  split
  ·exact (h1 _ _ rfl).elim
  ·exact (h2 _ _ rfl).elim
  ·rfl
theorem F5 (t:TypeId)(d:DV):F7 t (.wrap (.ifc t) [d])=some d:=by simp [F7]
theorem F6 (t:TypeId)(cs:List DV):F7 t (.wrap (.ifa t) cs)=some (.agg cs):=by simp [F7]
def ade (ks:List CK):DV→DV→Option Bool
 | .agg a,.agg b=>gl ks a b
 | _,_=>none
theorem Pk (neg:Bool)(ks:List CK)(x y:Opd):rvl E st (.eqS neg ks x y)=(ade ks (x.ev E st) (y.ev E st)).map fun e=>(.bool (if neg then !e else e),st.ay):=by
 simp only [rvl,rval]
 cases x.ev E st <;> cases y.ev E st <;> rfl
theorem Lh (ks:List CK)(a b:List DV):ade ks (.agg a) (.agg b)=gl ks a b:=au _
theorem QL:gl [] [] []=some true:=au _
theorem ZE (ks:List CK)(k:IntKind)(a b:Int)(x y:List DV):gl (.i::ks) (.int k a::x) (.int k b::y)=(gl ks x y).map (decide (a=b) && ·):=by simp [gl]
theorem ZF (ks:List CK)(a b:Bool)(x y:List DV):gl (.b::ks) (.bool a::x) (.bool b::y)=(gl ks x y).map (decide (a=b) && ·):=by simp [gl]
def Wb (sz o off n:Nat)(ay:aj)(a:Nat × List (List DV)):Ob→Option (DV × aj)
 | .arr s rows=>if off+n≤rows.length∧s=sz∧(a.1=sz∨a.2=[]) then some (.int .i64 (min a.2.length n:Nat),ay.set o (some (.arr sz (rows.take off++a.2.take (min a.2.length n)++rows.drop (off+min a.2.length n))))) else none
 | _=>none
def copyV (sz:Nat)(ay:aj):DV→Option (Nat × List (List DV))→Option (DV × aj)
 | .own o off n,some a=>(ay[o]?).bind fun x=>x.bind (Wb sz o off n ay a)
 | _,_=>none
theorem Jc (sz:Nat)(x y:Opd):rvl E st (.copy sz x y)=copyV sz st.ay (x.ev E st) (rowsOf st (y.ev E st)):=by
 simp only [rvl,rval]
 generalize rowsOf st (y.ev E st)=a
 cases x.ev E st <;> cases a <;> try rfl
 rename_i o off n a
 obtain ⟨s2,new⟩:=a
 simp only [copyV]
 generalize st.ay[o]?=x
 rcases x with _ | _ | ob <;> try rfl
 cases ob <;> rfl
theorem FD (sz:Nat)(ay:aj)(o off n:Nat)(a:Nat × List (List DV)):copyV sz ay (.own o off n) (some a)=(ay[o]?).bind fun x=>x.bind (Wb sz o off n ay a):=au _
theorem FE (sz o off n:Nat)(ay:aj)(a:Nat × List (List DV))(s:Nat)(rows:List (List DV)):Wb sz o off n ay a (.arr s rows)=if off+n≤rows.length∧s=sz∧(a.1=sz∨a.2=[]) then some (.int .i64 (min a.2.length n:Nat),ay.set o (some (.arr sz (rows.take off++a.2.take (min a.2.length n)++rows.drop (off+min a.2.length n))))) else none:=au _
end
def ady (E:Prg)(f:Nat)(vals:List DV)(T:aj)(K:DV→aj→Prop) [Tg K] (_:True:=trivial):Prop:=aq E f vals T K
theorem Ri (E:Prg)(f:Nat)(as:List DV)(T:aj)(L:DV→aj→Prop):jl E none false f as T L=ady E f as T L:=au _
def WpH (E:Prg)(F:dz)(n:Nat)(c:RC)(Q:Exit→St→Prop)(st:St) [Tg Q] [Tg c] (_:True:=trivial):Prop:=c.wp E F n Q st
theorem OK (f:Nat)(as:List DV):tab [] f as=none:=au _
theorem EB (st:St):eZ st []=some (.tup []):=au _
theorem ab9:type_of% (And.intro @Ri <| And.intro @OK <| @EB):=And.intro @Ri <| And.intro @OK <| @EB
theorem Z4:type_of% (And.intro @OW <| And.intro @O1 <| And.intro @Pm <| And.intro @J3 <| And.intro @PS <| And.intro @J4 <| And.intro @O0 <| And.intro @IZ <| And.intro @IV <| And.intro @D7 <| And.intro @I3 <| And.intro @U4 <| And.intro @PK <| And.intro @E7 <| And.intro @fO <| And.intro @E9 <| And.intro @Fa <| And.intro @yq <| And.intro @uU <| And.intro @yt <| And.intro @BC <| And.intro @I8 <| And.intro @Em <| And.intro @Bo <| And.intro @Bl <| And.intro @EZ <| And.intro @Bn <| And.intro @Bk <| And.intro @Bm <| And.intro @EY <| And.intro @Jd <| And.intro @F5 <| And.intro @F6 <| And.intro @Pk <| And.intro @Lh <| And.intro @QL <| And.intro @ZE <| And.intro @ZF <| And.intro @Jc <| And.intro @FD <| And.intro @FE <| And.intro @Rg <| And.intro @ZL <| @O6):=
 (And.intro @OW <| And.intro @O1 <| And.intro @Pm <| And.intro @J3 <| And.intro @PS <| And.intro @J4 <| And.intro @O0 <| And.intro @IZ <| And.intro @IV <| And.intro @D7 <| And.intro @I3 <| And.intro @U4 <| And.intro @PK <| And.intro @E7 <| And.intro @fO <| And.intro @E9 <| And.intro @Fa <| And.intro @yq <| And.intro @uU <| And.intro @yt <| And.intro @BC <| And.intro @I8 <| And.intro @Em <| And.intro @Bo <| And.intro @Bl <| And.intro @EZ <| And.intro @Bn <| And.intro @Bk <| And.intro @Bm <| And.intro @EY <| And.intro @Jd <| And.intro @F5 <| And.intro @F6 <| And.intro @Pk <| And.intro @Lh <| And.intro @QL <| And.intro @ZE <| And.intro @ZF <| And.intro @Jc <| And.intro @FD <| And.intro @FE <| And.intro @Rg <| And.intro @ZL <| @O6)
end
def Rn (T T2:aj):Prop:=T2.length=T.length∧∀(k:Nat) (ob2:Ob),T2[k]?=some (some ob2)→∃ob,T[k]?=some (some ob)∧ob2.sz=ob.sz∧∃m,ob2.rows=ob.rows.take m
theorem Rn.refl (T:aj):Rn T T:=⟨rfl,fun k ob h=>⟨ob,h,rfl,ob.rows.length,by rw [List.take_length]⟩⟩
theorem Rn.arr {T:aj}{q s:Nat}{rows:List (List DV)}(m:Nat)(h:T[q]?=some (some (.arr s rows))):Rn T (T.set q (some (.arr s (rows.take m)))):=by
 have hlt:q<T.length:=(List.getElem?_eq_some_iff.1 h).1
 refine ⟨by simp,fun k ob2 hk=>?_⟩
 by_cases e:q=k
 ·subst e
  rw [List.getElem?_set_self hlt] at hk
  obtain rfl:=sj (sj hk)
  exact ⟨_,h,rfl,m,rfl⟩
 ·rw [List.getElem?_set_ne e] at hk
  exact ⟨ob2,hk,rfl,ob2.rows.length,by rw [List.take_length]⟩

theorem bh {α:Type}(T l:List α)(i:Nat):(T++l)[T.length+i]?=l[i]?:=by rw [List.getElem?_append_right (by omega)];congr 1;omega
theorem bq {α:Type}(T l:List α)(a:α):(T++a::l)[T.length]?=some a:=by simp
theorem Gx {α:Type}(T l:List α)(i:Nat)(y:α):(T++l).set (T.length+i) y=T++l.set i y:=by
 rw [List.set_append_right _ _ (by omega)];congr 2;omega
theorem Gy {α:Type}(T l:List α)(a y:α):(T++a::l).set T.length y=T++y::l:=by
 rw [List.set_append_right _ _ (Nat.le_refl _)];simp
theorem IQ {α:Type}(T l:List α)(o i:Nat)(x:α):(T.set o x++l)[T.length+i]?=l[i]?:=by
 have:=bh (T.set o x) l i;rwa [List.length_set] at this
theorem Ab {α:Type}(T l:List α)(o:Nat)(x a:α):(T.set o x++a::l)[T.length]?=some a:=by
 have:=bq (T.set o x) l a;rwa [List.length_set] at this
theorem IN {α:Type}(T l:List α)(o i:Nat)(x y:α):(T.set o x++l).set (T.length+i) y=T.set o x++l.set i y:=by
 have:=Gx (T.set o x) l i y;rwa [List.length_set] at this
theorem IP {α:Type}(T l:List α)(o:Nat)(x a y:α):(T.set o x++a::l).set T.length y=T.set o x++y::l:=by
 have:=Gy (T.set o x) l a y;rwa [List.length_set] at this
theorem eC {α:Type}{T:List α}{q:Nat}{x:α}(h:T[q]?=some x):q<T.length:=(List.getElem?_eq_some_iff.1 h).1
theorem gT {α:Type}{T:List α}{q:Nat}{x:α}(h:T[q]?=some x)(l:List α):(T++l)[q]?=some x:=by
 rw [List.getElem?_append_left (eC h)];exact h
theorem Ue {α:Type}{T:List α}{q:Nat}{x:α}(h:T[q]?=some x)(l:List α)(y:α):(T++l).set q y=T.set q y++l:=List.set_append_left _ _ (eC h)
theorem bX {α:Type}{T:List α}{q:Nat}{x:α}(h:T[q]?=some x)(y:α):(T.set q y)[q]?=some y:=List.getElem?_set_self (eC h)
theorem MU {α:Type}{T:List α}{q:Nat}{x:α}(h:T[q]?=some x)(y:α)(l:List α):(T.set q y++l)[q]?=some y:=gT (bX h y) l
theorem Ud {α:Type}{T:List α}{q:Nat}{x:α}(h:T[q]?=some x)(z y:α)(l:List α):(T.set q z++l).set q y=T.set q y++l:=by
 rw [Ue (bX h z),List.set_set]
theorem aY {α:Type}{T:List α}{k j:Nat}{x:α}(h:T[k]?=some x)(y:α)(hne:k≠j):(T.set j y)[k]?=some x:=by rw [List.getElem?_set_ne (Ne.symm hne)];exact h
def idO (E:Prg)(st:St)(p:Opd):Option Opd→Prop
 | none=>True
 | some y=>jV (Opd.ev E st y) (Opd.ev E st p)
theorem KF (E:Prg)(st:St)(p:Opd):idO E st p none=True:=au _
theorem KE (E:Prg)(st:St)(p y:Opd):idO E st p (some y)=jV (Opd.ev E st y) (Opd.ev E st p):=au _
theorem rW (E:Prg)(st:St)(sz:Nat)(x p:Opd)(lo hi mx:Option Opd):iU E st (.slice sz x lo hi mx) p=(jV (Opd.ev E st x) (Opd.ev E st p)∧idO E st p lo∧idO E st p hi∧idO E st p mx):=by
 cases lo <;> cases hi <;> cases mx <;> simp [iU,ROp.cQ,pT,jV,idO]
theorem IS:type_of% (And.intro @KF <| And.intro @KE <| @rW):=And.intro @KF <| And.intro @KE <| @rW
theorem ah:type_of% (And.intro @IS <| And.intro @bh <| And.intro @bq <| And.intro @Gx <| And.intro @Gy <| And.intro @IQ <| And.intro @Ab <| And.intro @IN <| @IP):=
 And.intro @IS <| And.intro @bh <| And.intro @bq <| And.intro @Gx <| And.intro @Gy <| And.intro @IQ <| And.intro @Ab <| And.intro @IN <| @IP
theorem ai {T:aj}{q:Nat}{x:Option Ob}(h:T[q]?=some x):type_of% (And.intro h <| And.intro (gT h) <| And.intro (Ue h) <| And.intro (bX h) <| And.intro (MU h) <| Ud h):=
 And.intro h <| And.intro (gT h) <| And.intro (Ue h) <| And.intro (bX h) <| And.intro (MU h) <| Ud h
def aA (T T':aj)(ids:List Nat):Prop:=T.length≤T'.length∧∀(k:Nat) ob,k∉ids→T[k]?=some (some ob)→T'[k]?=some (some ob)
theorem aA.refl (T:aj)(ids:List Nat):aA T T ids:=⟨Nat.le_refl _,fun _ _ _ h=>h⟩
theorem aA.app (T l:aj)(ids:List Nat):aA T (T++l) ids:=⟨by simp,fun _ _ _ h=>gT h l⟩
theorem aA.trans {A B C:aj}{i j k:List Nat}(h1:aA A B i)(h2:aA B C j)(hi:∀x∈i,x∈k)(hj:∀x∈j,x∈k∨A.length≤x):aA A C k:=
 ⟨Nat.le_trans h1.1 h2.1,fun x ob hx ha=>h2.2 x ob (fun hm=>by
  rcases hj x hm with h | h
  ·exact hx h
  ·have:=eC ha;omega) (h1.2 x ob (fun hm=>hx (hi x hm)) ha)⟩
theorem aA.new {A B C:aj}{j:List Nat}(h1:aA A B [])(h2:aA B C j)(hj:∀x∈j,A.length≤x):aA A C []:=h1.trans h2 (by simp) fun x hx=> .inr (hj x hx)
theorem aA.eE {A B:aj}(h1:aA A B [])(l:aj):aA A (B++l) []:=h1.trans (aA.app B l []) (by simp) (by simp)
theorem aA.at {A B:aj}{i:List Nat}(h:aA A B i){k:Nat}{ob:Ob}(ha:A[k]?=some (some ob))(hk:k∉i):B[k]?=some (some ob):=h.2 k ob hk ha
section
open Go.RowKit Go.ChangeShapes Go.WideShapes
theorem S1 {k:IntKind}{d:DV}(h:zD (.sl [.int k]) d):∃l,d=.sl 1 (af k l) .any∧(∀n∈l,k.min≤n∧n≤k.max):=by
 cases h with
 | sl row rows h1 h2 h3=>
  refine ⟨ints rows,?_,?_⟩
  ·congr 1
   have:∀R:List (List DV),(∀r∈R,r.length=1)→(∀r∈R,∀(i:Nat) c d,[CS.int k][i]?=some c→r[i]?=some d→zD c d)→R=af k (ints R):=by
    intro R
    induction R with
    | nil=>intro _ _;rfl
    | cons r R ih=>
     intro g1 g2
     have g3:=g1 r (by simp)
     match r,g3 with
     | [c],_=>
      have g4:=g2 [c] (by simp) 0 (.int k) c rfl rfl
      cases g4 with
      | int k n a b=>
       have:=ih (fun r hr=>g1 r (by simp [hr])) (fun r hr=>g2 r (by simp [hr]))
       conv=>lhs;rw [this]
       simp [ints,af]
   exact this rows h2 h3
  ·intro n hn
   simp only [ints,List.mem_map] at hn
   obtain ⟨r,hr,rfl⟩:=hn
   have g3:=h2 r hr
   match r,g3 with
   | [c],_=>
    have g4:=h3 [c] hr 0 (.int k) c rfl rfl
    cases g4 with
    | int k n a b=>exact ⟨a,b⟩
theorem B3 {k:IntKind}{d:DV}(h:My (false,[.sl [.int k]]) d):∃l,d=.sl 1 (af k l) .any∧(∀n∈l,k.min≤n∧n≤k.max):=by
 obtain ⟨c,h1,h2⟩:=h
 obtain rfl:=(List.cons.inj h1).1
 exact S1 h2
theorem xF {k:IntKind}{d:DV}(h:My (false,[.int k]) d):∃n,d=.int k n∧k.min≤n∧n≤k.max:=by
 obtain ⟨c,h1,h2⟩:=h
 obtain rfl:=(List.cons.inj h1).1
 cases h2 with
 | int k n a b=>exact ⟨n,rfl,a,b⟩
section
variable {H:Type} {enc:TypeId × Value→H} {P:Program} {w:World} {base:Nat} {spare:Nat→Bool} {held:Bool}
theorem aq.g {E:Prg}{f:Nat}{args:List DV}{K:DV→aj→Prop}{R:DV→Prop}(h:aq E f args [] K)(hK:∀r T,K r T→R r):bN E f args [] fun r _=>R r:=by
 obtain ⟨T1,Q,h1,h2,h3,h4⟩:=h
 have:T1=[]:=List.length_eq_zero_iff.1 h1
 subst this
 intro G w vs g1 g2 g3 g4
 refine (h3 G w vs g1 g2 g3 g4).mono fun e w' ⟨v,r,T',G',a,b,c,d⟩=>⟨v,r,T',G',a,?_,c,d⟩
 obtain ⟨T2,_,k⟩:=h4 r T' b (Nat.zero_le _)
 exact hK r T2 k
theorem DA {E:Prg}{f:FuncId}{fn:Func}{s:ChangeSpec}{tb:TypeId}{k:Nat}{l:List (Bool × List CS)}{apart fresh handsOn:Bool}(hres:fn.resultTypes=#[tb])(hb:E.P.underlying tb=some .bool)
  (hs:∀ds:List (DataW H),ds.length=k→s.fn H ds={ results:=[.lit (.bool true)],args:=ds}) (hsv:s.vars=[]) (hk:fn.params.size=k) (hsh:CB E.P fn.params.toList=some l)
  (hG:GlobOk E (Gh.all w)) (adP:∀dv,vW l dv→bN E f dv [] fun r _=>r=.bool true) {b0:Nat} {args:Array Value} {ds gs:List (DataW H)} {before:List MemPlace}
  (hval:∀(j:Nat) t v,fn.params[j]?=some t→args[j]?=some v→Value.okWide E.P w .any b0 t v) (hW:DataW.Whole enc E.P fn.params.toList s.vars apart w args.toList ds gs before) :
  Calls E.P f args w fun e W'=>∃v,e=.returned v∧s.post enc E.P fn apart fresh handsOn false w args v W':=by
 have hW':=hW
 obtain ⟨p,q,hA,hV,rfl,hfz,hnd⟩:=hW
 obtain ⟨dv,hc,hl,cT⟩:=Mg hsh (fun j t v ht hv=>hval j t v (by simpa using ht) (by simpa using hv)) hA
 rw [hsv] at hV
 obtain ⟨rfl,rfl⟩:gs=[]∧q=[]:=by
  cases gs with
  | nil=>exact ⟨rfl,hV⟩
  | cons=>exact hV.elim
 have hdl:ds.length=k:=by rw [xO hA];simpa using hk
 have h:=adP dv hc (Gh.all w) w args hG (Gh.Wx w) (by simpa using hl.symm) (fun i d hd=>by
  have:=cT i d hd
  simpa [Array.getD_eq_getD_getElem?,List.getD_eq_getElem?_getD] using this)
 refine h.mono fun e W' ⟨v,r,T',G',he,hr,_,hrv,ad3,aaN⟩=>?_
 subst he hr
 have hno:∀a,¬cellsOf (Gh.all w) [] a:=fun a ⟨k,ob,p,m,h1,_⟩=>by simp at h1
 have YI:∀b:Nat,b<w.heap.size→W'.heap[b]?=w.heap[b]?:=fun b hb=>aaN.blk b hb fun o=>hno _
 have hv:v=.bool true:=by cases hrv;rfl
 subst hv
 refine ⟨_,rfl,?_⟩
 rw [List.append_nil] at hfz hnd hW'
 have aaB:=hs ds hdl
 have hlt:∀x∈p,x.block<w.heap.size:=hW'.lt
 have acM:∀(b:Nat) (sp:Nat→Bool) (hd:Bool),DataW.TrodAll enc E.P W' b sp hd fn.resultTypes.toList ((Value.bool true).resultList fn.resultTypes.size) [.lit (.bool true)] []:=fun b sp hd=>by
  rw [hres]
  exact trodAll_cons_mk (shut_bool hb _) trodAll_mk0
 refine ⟨ds,[],p,[],p,[],hW',?_,?_,?_,⟨aaN.os,aaN.output,fun i hi=>?_⟩,fun h=>by cases h⟩
 ·rw [List.append_nil,aaB];exact acM _ _ _
 ·rw [List.append_nil,aaB];exact rG YI hsh hA fun x hx=>by simpa using hlt x hx
 ·rw [List.append_nil,aaB,hsv];rfl
 ·rw [YI i hi]
  split
  ·rename_i h1 h2;rw [h1] at h2;obtain ⟨rfl,rfl,rfl⟩:=Obj.cells.injEq .. ▸ sj h2;exact ⟨rfl,rfl,rfl,fun _ _=>rfl⟩
  ·rename_i h1 h2;rw [h1] at h2;obtain ⟨rfl,rfl⟩:=Obj.map.injEq .. ▸ sj h2;exact Or.inr ⟨rfl,rfl⟩
  ·rfl
end
end
structure WkS (st st':St):Prop where
 env:∀t,st'.get t=st.get t
 len:st'.ay.length=st.ay.length
 obj:∀(k:Nat) ob',st'.ay[k]?=some (some ob')→∃ob,st.ay[k]?=some (some ob)∧DD wk0 ob ob'
theorem dh.wkS {E:Prg}{C:Ctx}{G:Gh}{st st':St}{a:Act}{w:World}(h:dh E C G st a w)(hF:WkS st st'):dh E C G st' a w:=by
 refine ⟨fun t=>by rw [hF.env t];exact h.env t,h.num,h.defs,⟨?_,?_,?_,h.heap.rdv,?_⟩,⟨h.frm.os,h.frm.tape,h.frm.output,h.frm.size,h.frm.blk,h.frm.cell,h.frm.frz,?_,h.frm.rdn,h.frm.le,h.frm.mko⟩,h.o9⟩
 ·intro k q hq
  rw [hF.len];exact h.heap.pls k q hq
 ·intro k r hk
  obtain ⟨r',hk',hfr⟩:=hF.obj k r hk
  obtain ⟨q,hq,hlq⟩:=h.heap.live k r' hk'
  exact ⟨q,hq,Fp (.refl _) (fun c c' v hc r=>Gr hc r) hfr hlq⟩
 ·intro k k' r r' q q' m m' hk hk' hne hq hq' hm hm'
  obtain ⟨s,h1,_⟩:=hF.obj k r hk
  obtain ⟨s',h1',_⟩:=hF.obj k' r' hk'
  exact h.heap.sep k k' s s' q q' m m' h1 h1' hne hq hq' hm hm'
 ·intro k r q m hk hq hm
  obtain ⟨s,h1,_⟩:=hF.obj k r hk
  exact h.heap.rds k s q m h1 hq hm
 ·intro k r q m hk hq hm
  obtain ⟨s,h1,_⟩:=hF.obj k r hk
  exact h.frm.mine k s q m h1 hq hm
inductive eG:St→St→Prop where
 | refl (st:St):eG st st
 | frz {a b c:St} (o sz:Nat) (rows:List (List DV)):adx o sz rows a b→eG b c→eG a c
 | wk {a b c:St}:a.wk b→eG b c→eG a c
 | cell {a b c:St}:WkS a b→eG b c→eG a c
theorem eG.trans {a b c:St}(h:eG a b)(k:eG b c):eG a c:=by
 induction h with
 | refl=>exact k
 | frz o sz rows h1 _ ih=>exact .frz o sz rows h1 (ih k)
 | wk h1 _ ih=>exact .wk h1 (ih k)
 | cell h1 _ ih=>exact .cell h1 (ih k)
theorem dR.aa0 {E:Prg}{C:Ctx}{a:Act}{w:World}{st st':St}(h:dR E C st a w)(hF:eG st st'):dR E C st' a w:=by
 induction hF with
 | refl=>exact h
 | frz o sz rows h1 _ ih=>
  obtain ⟨G,h⟩:=h
  exact ih (h.ac8 h1)
 | wk h1 _ ih=>exact ih (h.wk h1)
 | cell h1 _ ih=>
  obtain ⟨G,h⟩:=h
  exact ih ⟨G,h.wkS h1⟩
theorem eG.len {a b:St}(h:eG a b):b.ay.length=a.ay.length:=by
 induction h with
 | refl=>rfl
 | frz o sz rows h1 _ ih=>rw [ih,h1.len]
 | wk h1 _ ih=>rw [ih];exact (th h1.2).1
 | cell h1 _ ih=>rw [ih];exact h1.len
theorem bN.aa0 {E:Prg}{f:Nat}{args:List DV}{T:aj}{R:DV→aj→Prop}(h:bN E f args T fun d T'=>∃d' T'',eG ⟨[(0,d)],T'⟩ ⟨[(0,d')],T''⟩∧R d' T''):bN E f args T R:=by
 intro G w vs g1 g2 g3 g4
 refine Calls.mono (h G w vs g1 g2 g3 g4) fun e w' ⟨v,r,T',G',a,⟨d',T'',hF,hR⟩,hl,cT,hh,hf⟩=>?_
 have hr:dR E ⟨w,G,cellsOf G T,1⟩ ⟨[(0,r)],T'⟩ ⟨#[v],[]⟩ w':=by
  refine ⟨G',fun t=>?_,rfl,rfl,hh,hf.ctx,fun g row hg=>(g1 g row hg).mono hf.le⟩
  by_cases e:t=0
  ·subst e;exact cT
  ·have:St.get ⟨[(0,r)],T'⟩ t=.undef:=by
    simp only [St.get,St.look]
    rw [if_neg (fun h=>e h.symm)]
   rw [this];exact .undef _
 obtain ⟨G2,h2⟩:=hr.aa0 hF
 exact ⟨v,d',T'',G2,a,hR,by rw [show T''.length=T'.length from hF.len];exact hl,h2.env 0,h2.heap,h2.frm.ctx⟩
theorem aq.fM {E:Prg}{F:dz}(hF:FOk E F){f:Nat}{ann:List Ann}{rf:RFn}{args:List DV}{T:aj}{K:DV→aj→Prop}(hc:aK E.P ann f=some rf)(hargs:args.length≤rf.n)
  (h:rf.code.wp E F rf.n (jW rf.res fun d T'=>T.length≤T'.length∧∃d' T'',eG ⟨[(0,d)],T'⟩ ⟨[(0,d')],T''⟩∧K d' T'') ⟨dN 0 args,T⟩):aq E f args T K:=
 aq.all (bN.aa0 (bN.aE hF hc hargs h))
theorem jf {T:aj}{d:DV}(t:Nat):St.get ⟨[(0,d)],T⟩ t=if t=0 then d else .undef:=by
 simp only [St.get,St.look]
 by_cases h:t=0
 ·subst h;simp
 ·rw [if_neg h,if_neg (fun e=>h e.symm)]
theorem eG.own {T:aj}{q off n sz:Nat}{rows:List (List DV)}(h:T[q]?=some (some (.arr sz rows)))(hn:off+n≤rows.length):eG ⟨[(0,.own q off n)],T⟩ ⟨[(0,.sl sz ((rows.drop off).take n) .any)],T.set q none⟩:=by
 refine .frz q sz rows ⟨h,fun t=>?_,by simp,fun k ob' hk=>?_⟩ (.refl _)
 ·rw [jf,jf]
  split
  ·right;simp [DV.lp,DV.qa,DV.ie,hn]
  ·exact .inl rfl
 ·rw [getElem?_set] at hk
  by_cases e:q=k
  ·rw [if_pos e] at hk;split at hk <;> simp at hk
  ·rw [if_neg e] at hk;exact ⟨fun e'=>e e'.symm,ob',hk,DD.refl (fr0.refl _ _ _) _⟩
theorem TE (d:DV):wk0 d d:=by cases d <;> simp [wk0]
theorem eG.rows {env:List (Nat × DV)}{T:aj}{q sz:Nat}{rows dA:List (List DV)}(hq:T[q]?=some (some (.arr sz rows)))
  (hr:dA.length=rows.length∧∀(i:Nat) row',dA[i]?=some row'→∃row,rows[i]?=some row∧BS wk0 row row'):eG ⟨env,T⟩ ⟨env,T.set q (some (.arr sz dA))⟩:=by
 have hlt:=eC hq
 refine .cell (b:=⟨env,T.set q (some (.arr sz dA))⟩) ⟨fun t=>rfl,by simp,fun k ob' hk=>?_⟩ (.refl _)
 simp only at hk
 rw [getElem?_set] at hk
 by_cases e:q=k
 ·subst e
  rw [if_pos rfl,if_pos hlt] at hk
  obtain rfl:Ob.arr sz dA=ob':=by simpa using hk
  exact ⟨_,hq,rfl,hr.1,hr.2⟩
 ·rw [if_neg e] at hk;exact ⟨ob',hk,DD.refl TE _⟩
theorem az.Vl {E:Prg}{f:Nat}{args:List DV}{v:DV}(hv:∀n T,sO n v T fun d os=>d=v∧os=[])(h:∀T,aq E f args T fun r T'=>r=v):az E f args fun n r os=>r=v∧os=[]:=by
 intro n
 obtain ⟨T1,Q,h1,h2,h3,h4⟩:=h (List.replicate n none)
 have hT:T1=List.replicate n none:=by
  refine List.ext_getElem (by simpa using h1) fun i a b=>?_
  rw [List.getElem_replicate]
  cases hx:T1[i] with
  | none=>rfl
  | some ob=>exact (cW (h2 i ob (by rw [List.getElem?_eq_getElem a,hx]))).elim
 subst hT
 have g1:bN E f args (List.replicate n none) fun r T'=>r=v:=by
  intro G w vs g1 g2 g3 g4
  refine (h3 G w vs g1 g2 g3 g4).mono fun e w' ⟨r0,r,T',G',a,b,c,d⟩=>⟨r0,r,T',G',a,?_,c,d⟩
  obtain ⟨T2,_,k⟩:=h4 r T' b c
  exact k
 refine (bN.Ch (n:=n) (R':=fun r T'=>r=v∧T'=List.replicate n none) (by simp) g1 fun r T' hr=>?_).mono fun r T' hh=>⟨[],by simp [hh.2],hh.1,rfl⟩
 subst hr
 obtain ⟨g,r',os,hc,hk1,hk2⟩:=nD (hv n T')
 exact ⟨g,r',os,hc,hk1,by rw [hk2];simp⟩
structure Td (E:Prg) (F:dz) (rf:RFn) (args:List DV) (T:aj) (Post:DV→aj→Prop):Prop where
 w:rf.code.wp E F rf.n (jW rf.res Post) ⟨dN 0 args,T⟩
theorem Td.k {E:Prg}{F:dz}(hF:FOk E F){f:Nat}{ann:List Ann}{rf:RFn}{args:List DV}{T:aj}{K:DV→aj→Prop}(hc:aK E.P ann f=some rf)(hargs:args.length≤rf.n)
  (h:Td E F rf args T fun d T'=>T.length≤T'.length∧K d T'):aq E f args T K:=aq.aE hF hc hargs h.w
theorem Td.kF {E:Prg}{F:dz}(hF:FOk E F){f:Nat}{ann:List Ann}{rf:RFn}{args:List DV}{T:aj}{K:DV→aj→Prop}(hc:aK E.P ann f=some rf)(hargs:args.length≤rf.n)
  (h:Td E F rf args T fun d T'=>T.length≤T'.length∧∃d' T'',eG ⟨[(0,d)],T'⟩ ⟨[(0,d')],T''⟩∧K d' T''):aq E f args T K:=aq.fM hF hc hargs h.w
theorem BK {T T2:aj}(hs:∀(k:Nat) (ob:Ob),T[k]?=some (some ob)→T2[k]?=some (some ob)):∀{ids:List Nat} {K:aj→Prop},lg T ids K→lg T2 ids K
 | [],K,h=>h
 | i::l,K,h=>by
  simp only [lg] at h ⊢
  cases h1:T[i]? with
  | none=>rw [h1] at h;exact h.elim
  | some x=>
   cases x with
   | none=>rw [h1] at h;exact h.elim
   | some ob=>
    rw [h1] at h
    rw [hs i ob h1]
    exact ⟨h.1,BK hs h.2⟩
theorem UI {T T2:aj}(hs:∀(k:Nat) (ob:Ob),T[k]?=some (some ob)→T2[k]?=some (some ob)){n:Nat}{d:DV}{K:DV→aj→Prop}(h:sO n d T K):sO n d T2 K:=⟨h.1,h.2.1,BK hs h.2.2⟩
theorem az.acE {E:Prg}{f:Nat}{args:List DV}{res:Nat→DV × aj}(h:∀n T,T.length=n→aq E f args T fun r T'=>sO n r T' fun d os=>d=(res n).1∧os=(res n).2):az E f args fun n r os=>r=(res n).1∧os=(res n).2:=by
 intro n
 obtain ⟨T1,Q,h1,h2,h3,h4⟩:=h n (List.replicate n none) (by simp)
 have g1:bN E f args T1 fun r T'=>sO n r T' fun d os=>d=(res n).1∧os=(res n).2:=by
  intro G w vs g1 g2 g3 g4
  refine (h3 G w vs g1 g2 g3 g4).mono fun e w' ⟨r0,r,T',G',a,b,c,d⟩=>⟨r0,r,T',G',a,?_,c,d⟩
  obtain ⟨T2,hm,k⟩:=h4 r T' b c
  refine UI (fun j ob hj=>?_) k
  rcases Nat.lt_or_ge j (List.replicate n (none:Option Ob)).length with hlt | hge
  ·by_cases hx:∃ob,T1[j]?=some (some ob)
   ·obtain ⟨ob2,hx⟩:=hx
    exact hm.over j ob2 ob hx hj
   ·rcases hm.kept j ob hlt (fun ob2 h=>hx ⟨ob2,h⟩) hj with h5 | h5
    ·exact (cW h5).elim
    ·exact h5
  ·exact hm.new j ob hge hj
 have hT:T1=List.replicate n none:=by
  refine List.ext_getElem (by simpa using h1) fun i a b=>?_
  rw [List.getElem_replicate]
  cases hx:T1[i] with
  | none=>rfl
  | some ob=>exact (cW (h2 i ob (by rw [List.getElem?_eq_getElem a,hx]))).elim
 subst hT
 refine (bN.Ch (n:=n) (R':=fun r T'=>r=(res n).1∧T'=List.replicate n none++(res n).2) (by simp) g1 fun r T' hr=>?_).mono fun r T' hh=>⟨(res n).2,hh.2,hh.1,rfl⟩
 obtain ⟨g,r',os,hc,hk1,hk2⟩:=nD hr
 exact ⟨g,r',os,hc,hk1,by rw [hk2]⟩
theorem UJ {n p m sz:Nat}{T:aj}{rows:List (List DV)}(hT:T[p]?=some (some (.arr sz rows)))(hc:gJ rows):sO n (.own p 0 m) T fun d os=>d=.own n 0 m∧os=[some (.arr sz rows)]:=by
 rw [GF]
 simp [dW,oJ,jG,Bi,clT,clA,cl0,lg,bu,hT,Ca,lC,qe,nR,pos,hc,rQ]
theorem vcS:type_of% (And.intro @gR <| And.intro @js <| And.intro @jE <| And.intro @Z4 <| And.intro @ab9 <| And.intro @vcR <| And.intro @if_true.{1} <| And.intro @if_false.{1} <| And.intro @implies_true.{1} <| And.intro @ne_eq.{1} <| And.intro @exists_eq_left.{1} <| And.intro @exists_eq_left'.{1} <| @Function.comp_apply.{1,1,1}):=
 And.intro @gR <| And.intro @js <| And.intro @jE <| And.intro @Z4 <| And.intro @ab9 <| And.intro @vcR <| And.intro @if_true.{1} <| And.intro @if_false.{1} <| And.intro @implies_true.{1} <| And.intro @ne_eq.{1} <| And.intro @exists_eq_left.{1} <| And.intro @exists_eq_left'.{1} <| @Function.comp_apply.{1,1,1}
end Go.Proofs.YtjmnbpilnneonaaGreatDoor
