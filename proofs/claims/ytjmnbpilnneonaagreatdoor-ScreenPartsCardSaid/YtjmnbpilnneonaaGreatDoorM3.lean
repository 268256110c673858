/- Texts Ab19, Ab20, Ab21, Ab22, Ab23, Ab24, Ab25, Ab26, Ab27, Ab28, Ab29, Ab30, Ab31, Ab32, Ab33, Ab34, Ab35, Ab36 in one. -/
import Derived.Test.YtjmnbpilnneonaaGreatDoorM2
import Derived.IntWalk
import Derived.ChangeSlices
import Derived.OpenShut
import Derived.Deep.DeepHandedRow
import Derived.Lib.LaidTab
set_option linter.unusedVariables false
set_option linter.unusedSimpArgs false
set_option maxRecDepth 10000
namespace Go.Proofs.YtjmnbpilnneonaaGreatDoor
open Go.RowKit
def Cl (d:DV):Prop:=∀(G G':Gh) (v:Value),(∀a x,G.rd a=some x→G'.rd a=some x)→Rel G d v→Rel G' d v
theorem Cl.int (k:IntKind)(n:Int):Cl (.int k n):=fun G G' v _ h=>by cases h;exact .int k n
theorem Cl.bool (b:Bool):Cl (.bool b):=fun G G' v _ h=>by cases h;exact .bool b
theorem Cl.str (s:List UInt8):Cl (.str s):=fun G G' v _ h=>by cases h;exact .str s
theorem Cl.undef:Cl .undef:=fun G G' v _ h=>by cases h;exact .undef v
theorem Cl.lit (v:Value):Cl (.lit v):=fun G G' u _ h=>by cases h;exact .lit v
theorem Cl.sl (sz:Nat)(rows:List (List DV))(k:SK)(h:∀row∈rows,∀c∈row,Cl c):Cl (.sl sz rows k):=fun G G' v hle r=>by
 cases r with
 | sl sz rows k p len cap b o vals h1 h2 h3 h4 h5 h6 h7=>
  exact .sl sz rows k p len cap b o vals h1 h2 h3 h4 h5 (fun i j row c a b=>hle _ _ (h6 i j row c a b)) fun i j row c hr hc=>h row (List.mem_of_getElem? hr) c (List.mem_of_getElem? hc) G G' _ hle (h7 i j row c hr hc)
theorem Cl.agg (cs:List DV)(h:∀c∈cs,Cl c):Cl (.agg cs):=fun G G' v hle r=>by
 cases r with
 | agg cs vs h1 h2=>exact .agg cs vs h1 fun i c hc=>h c (List.mem_of_getElem? hc) G G' _ hle (h2 i c hc)
theorem Cl.rp (row:List DV)(j:Nat)(h:∀c∈row,Cl c):Cl (.rp row j):=fun G G' v hle r=>by
 cases r with
 | rp row j b o vals h1 h2=>exact .rp row j b o vals (fun m c hc=>hle _ _ (h1 m c hc)) fun m c hc=>h c (List.mem_of_getElem? hc) G G' _ hle (h2 m c hc)
inductive Ren (f:Nat→Option Nat):DV→DV→Prop where
 | cl (d:DV):Cl d→Ren f d d
 | own (o o' off n:Nat):f o=some o'→Ren f (.own o off n) (.own o' off n)
 | ptr (o o' i j:Nat):f o=some o'→Ren f (.ptr o i j) (.ptr o' i j)
 | agg (cs ds:List DV):cs.length=ds.length→(∀(i:Nat) c d,cs[i]?=some c→ds[i]?=some d→Ren f c d)→Ren f (.agg cs) (.agg ds)
 | tup (cs ds:List DV):cs.length=ds.length→(∀(i:Nat) c d,cs[i]?=some c→ds[i]?=some d→Ren f c d)→Ren f (.tup cs) (.tup ds)
 | wrap (w:WK) (cs ds:List DV):cs.length=ds.length→(∀(i:Nat) c d,cs[i]?=some c→ds[i]?=some d→Ren f c d)→Ren f (.wrap w cs) (.wrap w ds)
theorem Ren.rel {f:Nat→Option Nat}{G G':Gh}(hle:∀a x,G.rd a=some x→G'.rd a=some x)(hpl:∀o o' p,f o=some o'→G.pl o=some p→G'.pl o'=some p){d d':DV}(h:Ren f d d'):∀{v:Value},Rel G d v→Rel G' d' v:=by
 induction h with
 | cl d hc=>exact fun r=>hc G G' _ hle r
 | own o o' off n hf=>
  intro v r
  cases r with
  | own o off n pl p c h1 h2 h3 h4=>exact .own o' off n pl p c (hpl o o' pl hf h1) h2 h3 h4
 | ptr o o' i j hf=>
  intro v r
  cases r with
  | ptr o i j pl h1=>exact .ptr o' i j pl (hpl o o' pl hf h1)
 | agg cs ds hl _ ih=>
  intro v r
  cases r with
  | agg cs vs h1 h2=>
   refine .agg ds vs (by rw [h1,hl]) fun i d hd=>?_
   have hi:i<cs.length:=by rw [hl];exact (List.getElem?_eq_some_iff.1 hd).1
   exact ih i cs[i] d (List.getElem?_eq_getElem hi) hd (h2 i cs[i] (List.getElem?_eq_getElem hi))
 | tup cs ds hl _ ih=>
  intro v r
  cases r with
  | tup cs vs h1 h2=>
   refine .tup ds vs (by rw [h1,hl]) fun i d hd=>?_
   have hi:i<cs.length:=by rw [hl];exact (List.getElem?_eq_some_iff.1 hd).1
   exact ih i cs[i] d (List.getElem?_eq_getElem hi) hd (h2 i cs[i] (List.getElem?_eq_getElem hi))
 | wrap w cs ds hl _ ih=>
  intro v r
  cases r with
  | ifc t d v h1=>
   match ds,hl with
   | [d2],_=>exact .ifc t d2 v (ih 0 d d2 rfl rfl h1)
  | ifa t cs vs h1 h2=>
   refine .ifa t ds vs (by rw [h1,hl]) fun i d hd=>?_
   have hi:i<cs.length:=by rw [hl];exact (List.getElem?_eq_some_iff.1 hd).1
   exact ih i cs[i] d (List.getElem?_eq_getElem hi) hd (h2 i cs[i] (List.getElem?_eq_getElem hi))
  | clo g cs vs h1 h2=>
   refine .clo g ds vs (by rw [h1,hl]) fun i d hd=>?_
   have hi:i<cs.length:=by rw [hl];exact (List.getElem?_eq_some_iff.1 hd).1
   exact ih i cs[i] d (List.getElem?_eq_getElem hi) hd (h2 i cs[i] (List.getElem?_eq_getElem hi))
def CP (f:Nat→Option Nat)(a b:Ob):Prop:=
 a.sz=b.sz∧a.rows.length=b.rows.length∧∀(i:Nat) ra rb,a.rows[i]?=some ra→b.rows[i]?=some rb→ra.length=rb.length∧∀(j:Nat) c d,ra[j]?=some c→rb[j]?=some d→Ren f c d
def Canon (n:Nat)(f:Nat→Option Nat)(d:DV)(T:aj)(d':DV)(os:aj):Prop:=
 Ren f d d'∧(∀(k:Nat) ob',os[k]?=some (some ob')→∃o ob,f o=some (n+k)∧T[o]?=some (some ob)∧CP f ob ob')∧
  (∀a b x,f a=some x→f b=some x→a=b)∧(∀a x,f a=some x→n≤a∧n≤x∧x<n+os.length)
theorem bN.canon {E:Prg}{f:Nat}{args:List DV}{n:Nat}{R R':DV→aj→Prop}(h:bN E f args (List.replicate n none) R)
  (hR:∀r T',R r T'→∃g r' os,Canon n g r T' r' os∧R' r' (List.replicate n none++os)):bN E f args (List.replicate n none) R':=by
 intro G w vs h1 h2 h3 h4
 refine Calls.mono (h G w vs h1 h2 h3 h4) fun e w' ⟨v,r,T',G',a,hr,hl,cT,hh,hf⟩=>?_
 obtain ⟨g,r',os,⟨c1,c2,c3,c4⟩,hR'⟩:=hR r T' hr
 open Classical in
 let G2:Gh:={ rd:=G'.rd,pl:=fun x=>if x<n then G.pl x else if hx:∃o,g o=some x then G'.pl (Classical.choose hx) else none}
 have hpl:∀o o' p,g o=some o'→G'.pl o=some p→G2.pl o'=some p:=fun o o' p ho hp=>by
  have h5:=(c4 o o' ho).2.1
  show (if o'<n then G.pl o' else if hx:∃o,g o=some o' then G'.pl (Classical.choose hx) else none)=some p
  rw [if_neg (by omega),dif_pos ⟨o,ho⟩]
  have:=Classical.choose_spec (⟨o,ho⟩:∃o,g o=some o')
  rw [c3 _ _ _ this ho];exact hp
 have aad:∀x p,G2.pl x=some p→(x<n∧G.pl x=some p)∨(n≤x∧x<n+os.length∧∃o,g o=some x∧G'.pl o=some p):=fun x p hx=>by
  change (if x<n then G.pl x else if hx:∃o,g o=some x then G'.pl (Classical.choose hx) else none)=some p at hx
  by_cases hlt:x<n
  ·rw [if_pos hlt] at hx;exact .inl ⟨hlt,hx⟩
  ·rw [if_neg hlt] at hx
   by_cases he:∃o,g o=some x
   ·rw [dif_pos he] at hx
    have hs:=Classical.choose_spec he
    exact .inr ⟨by omega,(c4 _ _ hs).2.2,_,hs,hx⟩
   ·rw [dif_neg he] at hx;cases hx
 have hT:∀(k:Nat) ob,(List.replicate n (none:Option Ob)++os)[k]?=some (some ob)→n≤k∧os[k-n]?=some (some ob):=fun k ob hk=>by
  by_cases hlt:k<n
  ·rw [List.getElem?_append_left (by simpa using hlt)] at hk;exact (cW hk).elim
  ·rw [List.getElem?_append_right (by simpa using hlt)] at hk
   exact ⟨by omega,by simpa using hk⟩
 have hob:∀(k:Nat) ob',(List.replicate n (none:Option Ob)++os)[k]?=some (some ob')→∃o ob,g o=some k∧T'[o]?=some (some ob)∧CP g ob ob':=fun k ob' hk=>by
  obtain ⟨h5,h6⟩:=hT k ob' hk
  obtain ⟨o,ob,h7,h8,h9⟩:=c2 _ _ h6
  rw [show n+(k-n)=k by omega] at h7
  exact ⟨o,ob,h7,h8,h9⟩
 have nJ:∀(k:Nat) ob' p,(List.replicate n (none:Option Ob)++os)[k]?=some (some ob')→G2.pl k=some p→∃o ob,g o=some k∧T'[o]?=some (some ob)∧CP g ob ob'∧G'.pl o=some p:=fun k ob' p hk hp=>by
  obtain ⟨o,ob,h5,h6,h7⟩:=hob k ob' hk
  obtain ⟨q,hq,_⟩:=hh.live o ob h6
  rw [hpl o k q h5 hq] at hp
  obtain rfl:=sj hp
  exact ⟨o,ob,h5,h6,h7,hq⟩
 refine ⟨v,r',_,G2,a,hR',by simp,c1.rel (G:=G') (G':=G2) (fun _ _ h=>h) hpl cT,⟨?_, ?_, ?_,hh.rdv, ?_⟩,⟨hf.os,hf.tape,hf.output,hf.size,hf.blk,hf.cell,hf.frz, ?_,hf.rdn,⟨hf.le.rd, ?_⟩,hf.mko⟩⟩
 ·intro k p hp
  rcases aad k p hp with ⟨h5,_⟩ | ⟨_,h5,_⟩ <;> simp <;> omega
 ·intro k ob' hk
  obtain ⟨o,ob,h5,h6,h7⟩:=hob k ob' hk
  obtain ⟨q,hq,hl⟩:=hh.live o ob h6
  refine ⟨q,hpl o k q h5 hq,⟨hl.psz.trans h7.1,h7.2.1 ▸ hl.fits,fun row hrow=>?_,hl.there,fun i j row c v hi hj hv=>?_,hl.mko⟩⟩
  ·obtain ⟨i,hi,he⟩:=List.getElem_of_mem hrow
   have hi2:i<ob.rows.length:=by rw [h7.2.1];exact hi
   rw [←(h7.2.2 i ob.rows[i] row (List.getElem?_eq_getElem hi2) (by rw [List.getElem?_eq_getElem hi,he])).1]
   exact hl.size _ (List.getElem_mem hi2)
  ·have hi2:i<ob.rows.length:=by rw [h7.2.1];exact (List.getElem?_eq_some_iff.1 hi).1
   obtain ⟨h8,h9⟩:=h7.2.2 i ob.rows[i] row (List.getElem?_eq_getElem hi2) hi
   have hj2:j<ob.rows[i].length:=by rw [h8];exact (List.getElem?_eq_some_iff.1 hj).1
   exact (h9 j _ c (List.getElem?_eq_getElem hj2) hj).rel (G:=G') (G':=G2) (fun _ _ h=>h) hpl (hl.holds i j ob.rows[i] ob.rows[i][j] v (List.getElem?_eq_getElem hi2) (List.getElem?_eq_getElem hj2) hv)
 ·intro k k' x x' p p' m m' hk hk' hne hp hp' hm hm' e
  obtain ⟨o,ob,h5,h6,h7,h8⟩:=nJ k x p hk hp
  obtain ⟨o',ob',h5',h6',h7',h8'⟩:=nJ k' x' p' hk' hp'
  refine hh.sep o o' ob ob' p p' m m' h6 h6' (fun e2=>?_) h8 h8' hm hm' e
  subst e2
  exact hne (sj (h5.symm.trans h5'))
 ·intro k x p m hk hp hm
  obtain ⟨o,ob,h5,h6,h7,h8⟩:=nJ k x p hk hp
  exact hh.rds o ob p m h6 h8 hm
 ·intro k x p m hk hp hm
  obtain ⟨o,ob,h5,h6,h7,h8⟩:=nJ k x p hk hp
  exact hf.mine o ob p m h6 h8 hm
 ·intro k p hp
  have hk:=h2.pls k p hp
  simp at hk
  show (if k<n then G.pl k else _)=some p
  rw [if_pos hk];exact hp
def gF (rows:List (List DV)):Prop:=∀row∈rows,∀c∈row,Cl c
def jC:DV→List Nat
 | .own o _ _=> [o]
 | .ptr o _ _=> [o]
 | _=> []
def oE:DV→List Nat
 | .agg cs=>cs.flatMap jC
 | .wrap _ cs=>cs.flatMap jC
 | d=>jC d
def dV:DV→List Nat
 | .tup cs=>cs.flatMap oE
 | d=>oE d
def pos (o:Nat):List Nat→Nat
 | []=>0
 | a::l=>if a=o then 0 else pos o l+1
def nM (n:Nat)(ids:List Nat):DV→DV
 | .own o off m=> .own (n+pos o ids) off m
 | .ptr o i j=> .ptr (n+pos o ids) i j
 | d=>d
def p9 (n:Nat)(ids:List Nat):DV→DV
 | .agg cs=> .agg (cs.map (nM n ids))
 | .wrap w cs=> .wrap w (cs.map (nM n ids))
 | d=>nM n ids d
def ld (n:Nat)(ids:List Nat):DV→DV
 | .tup cs=> .tup (cs.map (p9 n ids))
 | d=>p9 n ids d
def cl0:DV→Prop
 | .int .. | .bool .. | .str .. | .own .. | .ptr .. | .undef | .lit _=>True
 | .sl _ rows _=>gF rows
 | d=>Cl d
def clA:DV→Prop
 | .agg cs=>∀c∈cs,cl0 c
 | .wrap _ cs=>∀c∈cs,cl0 c
 | d=>cl0 d
def clT:DV→Prop
 | .tup cs=>∀c∈cs,clA c
 | d=>clA d
def B4:Ob→Prop
 | .box cs=>∀c∈cs,Cl c
 | .arr _ rows=>gF rows
def BF (n:Nat)(T:aj):List Nat→(aj→Prop)→Prop
 | [],k=>k []
 | i::l,k=>n≤i∧bu T[i]? fun x=>bu x fun ob=>B4 ob∧BF n T l fun os=>k (some ob::os)
def As (n:Nat)(d:DV)(T:aj)(K:DV→aj→Prop):Prop:=(dV d).Nodup∧clT d∧BF n T (dV d) fun os=>K (ld n (dV d) d) os
def uC (n:Nat)(ids:List Nat)(x:Nat):Option Nat:=if x∈ids then some (n+pos x ids) else none
theorem AW {o:Nat}:∀{l:List Nat},o∈l→pos o l<l.length
 | a::l,h=>by
  simp only [pos]
  by_cases e:a=o
  ·simp [e]
  ·rw [if_neg e]
   have:o∈l:=by simpa [Ne.symm (show a≠o from e),fun h:o=a=>e h.symm] using h
   have:=AW this
   simp;omega
theorem lG {o:Nat}:∀{l:List Nat},o∈l→l[pos o l]?=some o
 | a::l,h=>by
  simp only [pos]
  by_cases e:a=o
  ·simp [e]
  ·rw [if_neg e]
   have:o∈l:=by
    rcases List.mem_cons.1 h with h | h
    ·exact absurd h.symm e
    ·exact h
   simpa using lG this
theorem ZP {n:Nat}{ids:List Nat}{d:DV}(h:∀o∈jC d,o∈ids)(hc:cl0 d):Ren (uC n ids) d (nM n ids d):=by
 cases d with
 | own o off m=>exact .own _ _ _ _ (if_pos (h o (by simp [jC])))
 | ptr o i j=>exact .ptr _ _ _ _ (if_pos (h o (by simp [jC])))
 | int k n=>exact .cl _ (Cl.int k n)
 | bool b=>exact .cl _ (Cl.bool b)
 | str s=>exact .cl _ (Cl.str s)
 | undef=>exact .cl _ Cl.undef
 | lit v=>exact .cl _ (Cl.lit v)
 | sl sz rows k=>exact .cl _ (Cl.sl sz rows k hc)
 | agg cs=>exact .cl _ hc
 | tup cs=>exact .cl _ hc
 | rp row j=>exact .cl _ hc
 | wrap w cs=>exact .cl _ hc
theorem aby {n:Nat}{ids:List Nat}{d:DV}(h:∀o∈oE d,o∈ids)(hc:clA d):Ren (uC n ids) d (p9 n ids d):=by
 cases d with
 | agg cs=>
  refine .agg _ _ (by simp) fun i c d hc' hd=>?_
  rw [List.getElem?_map,hc'] at hd
  obtain rfl:=sj hd
  have hm:=List.mem_of_getElem? hc'
  exact ZP (fun o ho=>h o (List.mem_flatMap.2 ⟨c,hm,ho⟩)) (hc c hm)
 | wrap w cs=>
  refine .wrap _ _ _ (by simp) fun i c d hc' hd=>?_
  rw [List.getElem?_map,hc'] at hd
  obtain rfl:=sj hd
  have hm:=List.mem_of_getElem? hc'
  exact ZP (fun o ho=>h o (List.mem_flatMap.2 ⟨c,hm,ho⟩)) (hc c hm)
 | _=>exact ZP h hc
theorem abx {n:Nat}{ids:List Nat}{d:DV}(h:∀o∈dV d,o∈ids)(hc:clT d):Ren (uC n ids) d (ld n ids d):=by
 cases d with
 | tup cs=>
  refine .tup _ _ (by simp) fun i c d hc' hd=>?_
  rw [List.getElem?_map,hc'] at hd
  obtain rfl:=sj hd
  have hm:=List.mem_of_getElem? hc'
  exact aby (fun o ho=>h o (List.mem_flatMap.2 ⟨c,hm,ho⟩)) (hc c hm)
 | _=>exact aby h hc
theorem Zd {f:Nat→Option Nat}{ob:Ob}(h:B4 ob):CP f ob ob:=by
 refine ⟨rfl,rfl,fun i ra rb ha hb=>?_⟩
 rw [ha] at hb
 obtain rfl:=sj hb
 refine ⟨rfl,fun j c d hc hd=>?_⟩
 rw [hc] at hd
 obtain rfl:=sj hd
 have h1:=List.mem_of_getElem? ha
 have h2:=List.mem_of_getElem? hc
 cases ob with
 | box cs=>
  simp only [Ob.rows,List.mem_singleton] at h1
  subst h1
  exact .cl _ (h c h2)
 | arr sz rows=>exact .cl _ (h ra h1 c h2)
theorem BB {n:Nat}{T:aj}:∀{ids:List Nat} {K:aj→Prop},BF n T ids K→∃os,K os∧os.length=ids.length∧(∀o∈ids,n≤o)∧∀(k:Nat) (ob':Ob),os[k]?=some (some ob')→∃o,ids[k]?=some o∧T[o]?=some (some ob')∧B4 ob'
 | [],K,h=>⟨[],h,rfl,by simp,by simp⟩
 | i::l,K,h=>by
  obtain ⟨h1,h2⟩:=h
  cases hT:T[i]? with
  | none=>rw [hT] at h2;exact h2.elim
  | some x=>cases x with
   | none=>rw [hT] at h2;exact h2.elim
   | some ob=>
    rw [hT] at h2
    obtain ⟨h3,h4⟩:=h2
    obtain ⟨os,h5,h6,h7,h8⟩:=BB h4
    refine ⟨some ob::os,h5,by simp [h6],by simpa using ⟨h1,h7⟩,fun k ob' hk=>?_⟩
    rcases k with _ | k
    ·simp at hk;subst hk;exact ⟨i,rfl,hT,h3⟩
    ·simpa using h8 k ob' (by simpa using hk)
theorem Et {n:Nat}{d:DV}{T:aj}{K:DV→aj→Prop}(h:As n d T K):∃g r' os,Canon n g d T r' os∧K r' os:=by
 obtain ⟨hn,hc,hg⟩:=h
 obtain ⟨os,h1,h2,h3,h4⟩:=BB hg
 refine ⟨uC n (dV d),_,os,⟨abx (fun _ h=>h) hc,fun k ob' hk=>?_,fun a b x ha hb=>?_,fun a x ha=>?_⟩,h1⟩
 ·obtain ⟨o,h5,h6,h7⟩:=h4 k ob' hk
  have hm:=List.mem_of_getElem? h5
  refine ⟨o,ob', ?_,h6,Zd h7⟩
  show (if o∈dV d then some (n+pos o (dV d)) else none)=some (n+k)
  rw [if_pos hm]
  have h8:=lG hm
  have:pos o (dV d)=k:=(List.getElem?_inj (AW hm) hn).1 (h8.trans h5.symm)
  rw [this]
 ·unfold uC at ha hb
  by_cases hma:a∈dV d
  case neg=>rw [if_neg hma] at ha;cases ha
  by_cases hmb:b∈dV d
  case neg=>rw [if_neg hmb] at hb;cases hb
  rw [if_pos hma] at ha
  rw [if_pos hmb] at hb
  have e:n+pos a (dV d)=n+pos b (dV d):=(sj ha).trans (sj hb).symm
  have h8:=lG hma
  have h9:=lG hmb
  rw [show pos a (dV d)=pos b (dV d) by omega,h9] at h8
  exact (sj h8).symm
 ·unfold uC at ha
  split at ha
  ·rename_i hm
   have:=AW hm
   obtain rfl:=sj ha
   exact ⟨h3 a hm,by omega,by omega⟩
  ·cases ha
theorem aS.cY {E : Prg} {F : dz} (hF : FOk E F) {f : Nat} {ann : List Ann} {rf : RFn} {args : List DV} {s : aS} (hc : aK E.P ann f = some rf) (hargs : args.length ≤ rf.n)
    (h : ∀ n, rf.code.wp E F rf.n (jS rf.res fun d T' => n ≤ T'.length ∧ As n d T' fun d' os => d' = (s.res n).1 ∧ os = (s.res n).2) ⟨dN 0 args, List.replicate n none⟩) : az E f args fun n r os => r = (s.res n).1 ∧ os = (s.res n).2 := by
  intro n
  have h1 : bN E f args (List.replicate n none) fun r T' => As n r T' fun d' os => d' = (s.res n).1 ∧ os = (s.res n).2 := by
    refine bN.aE hF hc hargs (RC.wp_mono _ (h n) fun e st hh => ?_)
    have key : ∀ st : St, (match eX st rf.res with
        | some d => n ≤ st.ay.length ∧ As n d st.ay fun d' os => d' = (s.res n).1 ∧ os = (s.res n).2
        | none => False) → (match eX st rf.res with
        | some d => (List.replicate n (none : Option Ob)).length ≤ st.ay.length ∧ As n d st.ay fun d' os => d' = (s.res n).1 ∧ os = (s.res n).2
        | none => False) := fun st hh => by
      cases hres : eX st rf.res with
      | none => rw [hres] at hh; exact hh
      | some d => rw [hres] at hh; exact ⟨by simpa using hh.1, hh.2⟩
    cases e with
    | normal => exact key st hh
    | ret => exact key st hh
    | _ => exact hh
  exact (h1.canon fun r T' hr => by
    obtain ⟨g, r', os, hg, hK⟩ := Et hr
    exact ⟨g, r', os, hg, os, rfl, hK⟩)
theorem WN (n:Nat)(l:aj):(List.replicate n none++l).length=n+l.length:=by simp
theorem N8 (n k:Nat)(l:aj):(List.replicate n none++l)[n+k]?=l[k]?:=by
 rw [List.getElem?_append_right (by simp)]
 simp
theorem Rn (n:Nat)(l:aj):(List.replicate n none++l)[n]?=l[0]?:=N8 n 0 l
theorem N7 (n k:Nat)(l:aj)(x:Option Ob):(List.replicate n none++l).set (n+k) x=List.replicate n none++l.set k x:=by
 rw [List.set_append_right _ _ (by simp)]
 simp
theorem Rm (n:Nat)(l:aj)(x:Option Ob):(List.replicate n none++l).set n x=List.replicate n none++l.set 0 x:=N7 n 0 l x
def af (k:IntKind)(l:List Int):List (List DV):=l.map fun n=> [.int k n]
theorem gZ (k:IntKind)(l:List Int):(af k l).length=l.length:=by simp [af]
theorem kH (k:IntKind)(l:List Int)(i:Nat):(af k l)[i]?=(l[i]?).map fun n=> [.int k n]:=by simp [af]
theorem mo (k:IntKind)(a b:List Int):af k a++af k b=af k (a++b):=by simp [af]
theorem bk (k:IntKind):af k []=[]:=rfl
theorem uQ (k:IntKind)(l:List Int)(n:Nat):(af k l).take n=af k (l.take n):=by simp [af]
theorem uR (k:IntKind)(l:List Int)(n:Nat):(af k l).drop n=af k (l.drop n):=by simp [af]
theorem yo (k:IntKind)(l:List Int)(i:Nat)(n:Int):(af k l).set i [.int k n]=af k (l.set i n):=by simp [af,List.map_set]
theorem Bx (k:IntKind)(l:List Int):(af k l=[])=(l=[]):=by simp [af]
theorem tO (k:IntKind)(l:List Int):gF (af k l):=fun row hr c hc=>by
 simp only [af,List.mem_map] at hr
 obtain ⟨n,_,rfl⟩:=hr
 simp only [List.mem_singleton] at hc
 subst hc
 exact Cl.int k n
theorem Oe:gF []:=fun row h=>by cases h
theorem mZ (l:List Int):iq (af .u8 l)=some (l.map fun n=>UInt8.ofNat n.toNat):=by
 induction l with
 | nil=>rfl
 | cons a l ih=>
  show iq ([.int .u8 a]::af .u8 l)=_
  simp only [iq,ih,Option.map,List.map_cons]
def ints (rows:List (List DV)):List Int:=rows.map fun
 | [.int _ n]=>n
 | _=>0
theorem eu (k:IntKind)(l:List Int):ints (af k l)=l:=by
 simp only [ints,af,List.map_map]
 exact List.map_id'' (fun _=>rfl) l
def inK (k:IntKind)(l:List Int):Prop:=l.length≤4611686018427387904∧∀n∈l,k.min≤n∧n≤k.max
theorem fF (k:IntKind):inK k []:=⟨by simp,by simp⟩
theorem inK.u8 {l:List Int}(h:inK .u8 l){n:Int}(hn:n∈l):0≤n∧n≤255:=by
 have:=h.2 n hn
 simpa [IntKind.min,IntKind.max,IntKind.signed,IntKind.bits] using this
theorem inK.i32 {l:List Int}(h:inK .i32 l){n:Int}(hn:n∈l):-2147483648≤n∧n≤2147483647:=by
 have:=h.2 n hn
 simpa [IntKind.min,IntKind.max,IntKind.signed,IntKind.bits] using this
theorem inK.i64 {l:List Int}(h:inK .i64 l){n:Int}(hn:n∈l):-9223372036854775808≤n∧n≤9223372036854775807:=by
 have:=h.2 n hn
 simpa [IntKind.min,IntKind.max,IntKind.signed,IntKind.bits] using this
theorem k6 {l:List Int}(h:l.length≤4611686018427387904)(hn:∀n∈l,0≤n∧n≤255):inK .u8 l:=⟨h,by simpa [IntKind.min,IntKind.max,IntKind.signed,IntKind.bits] using hn⟩
theorem Qa {l:List Int}(h:l.length≤4611686018427387904)(hn:∀n∈l, -2147483648≤n∧n≤2147483647):inK .i32 l:=⟨h,by simpa [IntKind.min,IntKind.max,IntKind.signed,IntKind.bits] using hn⟩
theorem inK.take {k:IntKind}{l:List Int}(h:inK k l)(n:Nat):inK k (l.take n):=⟨Nat.le_trans (by simp;omega) h.1,fun x hx=>h.2 x (List.mem_of_mem_take hx)⟩
theorem inK.drop {k:IntKind}{l:List Int}(h:inK k l)(n:Nat):inK k (l.drop n):=⟨Nat.le_trans (by simp) h.1,fun x hx=>h.2 x (List.mem_of_mem_drop hx)⟩
theorem inK.append {k:IntKind}{a b:List Int}(ha:inK k a)(hb:inK k b)(h:a.length+b.length≤4611686018427387904):inK k (a++b):=⟨by simpa using h,fun x hx=>(List.mem_append.1 hx).elim (ha.2 x) (hb.2 x)⟩
def aD (k:IntKind):DV→Prop
 | .sl sz rows _=>rows=af k (ints rows)∧(sz=1∨rows=[])∧inK k (ints rows)
 | _=>False
def aF:DV→List Int
 | .sl _ rows _=>ints rows
 | _=> []
theorem gx (k:IntKind)(l:List Int)(s:SK):aD k (.sl 1 (af k l) s)=inK k l:=by simp [aD,eu]
theorem oD (k:IntKind)(sz:Nat)(s:SK):aD k (.sl sz [] s)=True:=by simp [aD,ints,af,inK]
theorem aM (k:IntKind)(sz:Nat)(l:List Int)(s:SK):aF (.sl sz (af k l) s)=l:=eu k l
theorem qV (sz:Nat)(s:SK):aF (.sl sz [] s)=[]:=rfl
theorem aL {k:IntKind}{d:DV}(h:aD k d):∃sz s,d=.sl sz (af k (aF d)) s∧(sz=1∨aF d=[])∧inK k (aF d):=by
 cases d with
 | sl sz rows s=>
  obtain ⟨h1,h2,h3⟩:=h
  refine ⟨sz,s, ?_,h2.imp id fun h=>(by subst h;rfl),h3⟩
  show DV.sl sz rows s=.sl sz (af k (ints rows)) s
  rw [←h1]
 | _=>exact h.elim
theorem aP {n:Int}(h1:-9223372036854775808≤n)(h2:n≤9223372036854775807):IntKind.i64.wrap n=n:=by rw [IntKind.wrap_i64];omega
theorem Mz {n:Int}(h1:-2147483648≤n)(h2:n≤2147483647):IntKind.i32.wrap n=n:=by rw [IntKind.wrap_i32];omega
theorem wU8 {n:Int}(h1:0≤n)(h2:n≤255):IntKind.u8.wrap n=n:=by rw [IntKind.wrap_u8];omega
def zw (p:DV→Prop):List DV→Prop
 | []=>True
 | c::l=>p c∧zw p l
theorem qX (p:DV→Prop):∀l:List DV,zw p l=∀c∈l,p c
 | []=>by simp [zw]
 | c::l=>by simp [zw,qX p l]
def rL (a:Nat):List Nat→Prop
 | []=>True
 | b::l=> ¬a=b∧rL a l
theorem JU (a:Nat):∀l:List Nat,rL a l=(a∉l)
 | []=>by simp [rL]
 | b::l=>by simp [rL,JU a l]
def Bc:List Nat→Prop
 | []=>True
 | a::l=>rL a l∧Bc l
theorem Hz:∀l:List Nat,Bc l=l.Nodup
 | []=>by simp [Bc]
 | a::l=>by simp [Bc,Hz l,JU]
theorem Kx (k:IntKind)(v:Int):jC (.int k v)=[]:=au _
theorem Ks (k:IntKind)(v:Int):oE (.int k v)=[]:=au _
theorem Km (k:IntKind)(v:Int):dV (.int k v)=[]:=au _
theorem LJ (n:Nat)(ids:List Nat)(k:IntKind)(v:Int):nM n ids (.int k v)=.int k v:=au _
theorem LB (n:Nat)(ids:List Nat)(k:IntKind)(v:Int):p9 n ids (.int k v)=.int k v:=au _
theorem Lv (n:Nat)(ids:List Nat)(k:IntKind)(v:Int):ld n ids (.int k v)=.int k v:=au _
theorem Q0 (k:IntKind)(v:Int):cl0 (.int k v)=True:=au _
theorem QV (k:IntKind)(v:Int):clA (.int k v)=True:=au _
theorem QN (k:IntKind)(v:Int):clT (.int k v)=True:=au _
theorem E9 (b:Bool):jC (.bool b)=[]:=au _
theorem E8 (b:Bool):oE (.bool b)=[]:=au _
theorem E6 (b:Bool):dV (.bool b)=[]:=au _
theorem FQ (n:Nat)(ids:List Nat)(b:Bool):nM n ids (.bool b)=.bool b:=au _
theorem FP (n:Nat)(ids:List Nat)(b:Bool):p9 n ids (.bool b)=.bool b:=au _
theorem FJ (n:Nat)(ids:List Nat)(b:Bool):ld n ids (.bool b)=.bool b:=au _
theorem Ln (b:Bool):cl0 (.bool b)=True:=au _
theorem Lm (b:Bool):clA (.bool b)=True:=au _
theorem Li (b:Bool):clT (.bool b)=True:=au _
theorem Ku (s:List UInt8):jC (.str s)=[]:=au _
theorem Kp (s:List UInt8):oE (.str s)=[]:=au _
theorem Kj (s:List UInt8):dV (.str s)=[]:=au _
theorem LF (n:Nat)(ids:List Nat)(s:List UInt8):nM n ids (.str s)=.str s:=au _
theorem Ly (n:Nat)(ids:List Nat)(s:List UInt8):p9 n ids (.str s)=.str s:=au _
theorem Lr (n:Nat)(ids:List Nat)(s:List UInt8):ld n ids (.str s)=.str s:=au _
theorem QX (s:List UInt8):cl0 (.str s)=True:=au _
theorem QS (s:List UInt8):clA (.str s)=True:=au _
theorem QK (s:List UInt8):clT (.str s)=True:=au _
theorem Qj (sz:Nat)(rows:List (List DV))(k:SK):jC (.sl sz rows k)=[]:=au _
theorem Qi (sz:Nat)(rows:List (List DV))(k:SK):oE (.sl sz rows k)=[]:=au _
theorem Qg (sz:Nat)(rows:List (List DV))(k:SK):dV (.sl sz rows k)=[]:=au _
theorem Q7 (n:Nat)(ids:List Nat)(sz:Nat)(rows:List (List DV))(k:SK):nM n ids (.sl sz rows k)=.sl sz rows k:=au _
theorem Q6 (n:Nat)(ids:List Nat)(sz:Nat)(rows:List (List DV))(k:SK):p9 n ids (.sl sz rows k)=.sl sz rows k:=au _
theorem Q1 (n:Nat)(ids:List Nat)(sz:Nat)(rows:List (List DV))(k:SK):ld n ids (.sl sz rows k)=.sl sz rows k:=au _
theorem Wd (sz:Nat)(rows:List (List DV))(k:SK):cl0 (.sl sz rows k)=gF rows:=au _
theorem Wc (sz:Nat)(rows:List (List DV))(k:SK):clA (.sl sz rows k)=gF rows:=au _
theorem Wb (sz:Nat)(rows:List (List DV))(k:SK):clT (.sl sz rows k)=gF rows:=au _
theorem Kw (o off m:Nat):jC (.own o off m)=[o]:=au _
theorem Kr (o off m:Nat):oE (.own o off m)=[o]:=au _
theorem Kl (o off m:Nat):dV (.own o off m)=[o]:=au _
theorem LI (n:Nat)(ids:List Nat)(o off m:Nat):nM n ids (.own o off m)=.own (n+pos o ids) off m:=au _
theorem LA (n:Nat)(ids:List Nat)(o off m:Nat):p9 n ids (.own o off m)=.own (n+pos o ids) off m:=au _
theorem Lu (n:Nat)(ids:List Nat)(o off m:Nat):ld n ids (.own o off m)=.own (n+pos o ids) off m:=au _
theorem QZ (o off m:Nat):cl0 (.own o off m)=True:=au _
theorem QU (o off m:Nat):clA (.own o off m)=True:=au _
theorem QM (o off m:Nat):clT (.own o off m)=True:=au _
theorem Kv (o i j:Nat):jC (.ptr o i j)=[o]:=au _
theorem Kq (o i j:Nat):oE (.ptr o i j)=[o]:=au _
theorem Kk (o i j:Nat):dV (.ptr o i j)=[o]:=au _
theorem LH (n:Nat)(ids:List Nat)(o i j:Nat):nM n ids (.ptr o i j)=.ptr (n+pos o ids) i j:=au _
theorem Lz (n:Nat)(ids:List Nat)(o i j:Nat):p9 n ids (.ptr o i j)=.ptr (n+pos o ids) i j:=au _
theorem Lt (n:Nat)(ids:List Nat)(o i j:Nat):ld n ids (.ptr o i j)=.ptr (n+pos o ids) i j:=au _
theorem QY (o i j:Nat):cl0 (.ptr o i j)=True:=au _
theorem QT (o i j:Nat):clA (.ptr o i j)=True:=au _
theorem QL (o i j:Nat):clT (.ptr o i j)=True:=au _
theorem Kt (cs:List DV):oE (.agg cs)=cs.flatMap jC:=au _
theorem Kn (cs:List DV):dV (.agg cs)=cs.flatMap jC:=au _
theorem Ki (cs:List DV):dV (.tup cs)=cs.flatMap oE:=au _
theorem LC (n:Nat)(ids:List Nat)(cs:List DV):p9 n ids (.agg cs)=.agg (cs.map (nM n ids)):=au _
theorem Lw (n:Nat)(ids:List Nat)(cs:List DV):ld n ids (.agg cs)=.agg (cs.map (nM n ids)):=au _
theorem Lq (n:Nat)(ids:List Nat)(cs:List DV):ld n ids (.tup cs)=.tup (cs.map (p9 n ids)):=au _
theorem QW (cs:List DV):clA (.agg cs)=zw cl0 cs:=by simp [clA,qX]
theorem QO (cs:List DV):clT (.agg cs)=zw cl0 cs:=by simp [clT,clA,qX]
theorem QJ (cs:List DV):clT (.tup cs)=zw clA cs:=by simp [clT,qX]
theorem Px (o:Nat):pos o []=0:=au _
theorem JJ (o a:Nat)(l:List Nat):pos o (a::l)=if a=o then 0 else pos o l+1:=au _
theorem Ll (sz:Nat)(rows:List (List DV)):B4 (.arr sz rows)=gF rows:=au _
theorem Lj (cs:List DV):B4 (.box cs)=zw Cl cs:=by simp [B4,qX]
theorem Ma (p:DV→Prop):zw p []=True:=au _
theorem F3 (p:DV→Prop)(c:DV)(l:List DV):zw p (c::l)=(p c∧zw p l):=au _
theorem JZ:Bc []=True:=au _
theorem EO (a:Nat)(l:List Nat):Bc (a::l)=(rL a l∧Bc l):=au _
theorem EM (a:Nat):rL a []=True:=au _
theorem A9 (a b:Nat)(l:List Nat):rL a (b::l)=(¬a=b∧rL a l):=au _
theorem Fa (n:Nat)(T:aj)(k:aj→Prop):BF n T [] k=k []:=au _
theorem BC (n:Nat)(T:aj)(i:Nat)(l:List Nat)(k:aj→Prop):BF n T (i::l) k=(n≤i∧bu T[i]? fun x=>bu x fun ob=>B4 ob∧BF n T l fun os=>k (some ob::os)):=au _
theorem Pk (n:Nat)(d:DV)(T:aj)(K:DV→aj→Prop):As n d T K=(Bc (dV d)∧clT d∧BF n T (dV d) fun os=>K (ld n (dV d) d) os):=by simp [As,Hz]
theorem zf (row:List DV)(l:List (List DV)):gF (row::l)=(zw Cl row∧gF l):=by simp [gF,qX]
theorem sB:gF []=True:=eq_true Oe
theorem sC (k:IntKind)(l:List Int):gF (af k l)=True:=eq_true (tO k l)
theorem sA (k:IntKind)(v:Int):gF [[.int k v]]=True:=eq_true (tO k [v])
theorem Gf (k:IntKind)(v:Int):Cl (.int k v)=True:=eq_true (Cl.int k v)
theorem CW (b:Bool):Cl (.bool b)=True:=eq_true (Cl.bool b)
theorem Ge (s:List UInt8):Cl (.str s)=True:=eq_true (Cl.str s)
theorem Y5 (e e2:List (Nat × DV))(o o2:aj):St.wk ⟨e,o⟩ ⟨e2,o2⟩=(BS e e2∧ff o o2):=au _
theorem Fq (e:List (Nat × DV)):BS e []=True:=by simp [BS]
theorem BR {e:List (Nat × DV)}{t:Nat}{d:DV}{l:List (Nat × DV)}:BS e ((t,d)::l)=((d=.undef∨wkT (St.look t e) d)∧BS e l):=by
 simp [BS]
theorem Cq (l:List Int)(n:Nat)(f:Int→Prop):bu l[n]? f=(n<l.length∧f (l.getD n 0)):=by
 by_cases h:n<l.length
 ·simp [List.getElem?_eq_getElem h,bu,h]
 ·simp [List.getElem?_eq_none (Nat.le_of_not_lt h),bu,h]
theorem Cp (l:List UInt8)(n:Nat)(f:UInt8→Prop):bu l[n]? f=(n<l.length∧f (l.getD n 0)):=by
 by_cases h:n<l.length
 ·simp [List.getElem?_eq_getElem h,bu,h]
 ·simp [List.getElem?_eq_none (Nat.le_of_not_lt h),bu,h]
theorem ya (o:aj):ff o o=True:=eq_true (aJ o)
theorem A7:ff [] []=True:=au _
theorem pQ (a:Option Ob)(l m:aj):ff (a::l) (none::m)=ff l m:=by simp [ff]
theorem x9 (a b:Ob)(l m:aj):ff (some a::l) (some b::m)=(a=b∧ff l m):=by simp [ff]
theorem ja (w:Nat)(a:Int):(((BitVec.ofInt w a).toNat:Nat):Int)=a % (2 ^ w:Int):=by
 rw [BitVec.toNat_ofInt,Int.toNat_of_nonneg (Int.emod_nonneg _ (by exact_mod_cast Nat.ne_of_gt (Nat.two_pow_pos w)))]
 simp
theorem Np (w m:Nat)(h:m≤w):(BitVec.ofInt w (2 ^ m-1)).toNat=2 ^ m-1:=by
 have h2:(2:Nat) ^ m≤2 ^ w:=Nat.pow_le_pow_right (by omega) h
 have h3:=Nat.two_pow_pos m
 have h4:=ja w (2 ^ m-1)
 have h6:(1:Int)≤2 ^ m:=by exact_mod_cast h3
 have h7:(2:Int) ^ m≤2 ^ w:=by exact_mod_cast h2
 rw [Int.emod_eq_of_lt (by omega) (by omega)] at h4
 have:((2 ^ m-1:Nat):Int)=2 ^ m-1:=by rw [Int.natCast_sub h3];simp
 omega
theorem YU (w m:Nat)(a:Int)(h:m≤w):(((BitVec.ofInt w a &&& BitVec.ofInt w (2 ^ m-1)).toNat:Nat):Int)=a % (2 ^ m:Int):=by
 rw [BitVec.toNat_and,Np w m h,Nat.and_two_pow_sub_one_eq_mod]
 have h2:=ja w a
 rw [Int.natCast_emod,h2]
 simp only [Int.natCast_pow,Int.cast_ofNat_Int]
 exact Int.emod_emod_of_dvd a (by exact_mod_cast Nat.pow_dvd_pow 2 h)
theorem wrap_small (k:IntKind)(m:Nat)(x:Int)(h:m<k.bits):k.wrap (x % (2 ^ m:Int))=x % (2 ^ m:Int):=by
 have h0:(0:Int)<2 ^ m:=by exact_mod_cast Nat.two_pow_pos m
 have h1:=Int.emod_nonneg x (Int.ne_of_gt h0)
 have h2:=Int.emod_lt_of_pos x h0
 have h3:(2:Int) ^ m≤2 ^ (k.bits-1):=by exact_mod_cast Nat.pow_le_pow_right (by omega) (by omega)
 have h4:(2:Int) ^ (k.bits-1)≤2 ^ k.bits:=by exact_mod_cast Nat.pow_le_pow_right (by omega) (by omega)
 unfold IntKind.wrap
 simp only
 rw [Int.emod_eq_of_lt h1 (by omega)]
 rw [if_neg]
 simp
 intro _
 omega
theorem vh (k:IntKind)(m:Nat)(a:Int)(h:m<k.bits):k.wrap ((BitVec.ofInt k.bits a &&& BitVec.ofInt k.bits (2 ^ m-1)).toNat:Nat)=a % (2 ^ m:Int):=by
 rw [YU k.bits m a (Nat.le_of_lt h),wrap_small k m a h]
theorem HS (a:Int):IntKind.u8.wrap ((BitVec.ofInt IntKind.u8.bits a &&& BitVec.ofInt IntKind.u8.bits 7).toNat:Nat)=a % 8:=vh .u8 3 a (by decide)
theorem Cy (a:Int):IntKind.u8.wrap ((BitVec.ofInt IntKind.u8.bits a &&& BitVec.ofInt IntKind.u8.bits 15).toNat:Nat)=a % 16:=vh .u8 4 a (by decide)
theorem Cx (a:Int):IntKind.u8.wrap ((BitVec.ofInt IntKind.u8.bits a &&& BitVec.ofInt IntKind.u8.bits 31).toNat:Nat)=a % 32:=vh .u8 5 a (by decide)
theorem vi (a:Int):IntKind.u8.wrap ((BitVec.ofInt IntKind.u8.bits a &&& BitVec.ofInt IntKind.u8.bits 63).toNat:Nat)=a % 64:=vh .u8 6 a (by decide)
theorem ZT (w m:Nat)(x y:Int)(hx:x % 2 ^ m=0)(h0:0≤x)(hy:0≤y)(hy2:y<2 ^ m)(hw:x+y<2 ^ w):(((BitVec.ofInt w x ||| BitVec.ofInt w y).toNat:Nat):Int)=x+y:=by
 have h1:=ja w x
 have h2:=ja w y
 rw [Int.emod_eq_of_lt h0 (by omega)] at h1
 rw [Int.emod_eq_of_lt hy (by omega)] at h2
 rw [BitVec.toNat_or]
 generalize (BitVec.ofInt w x).toNat=a at h1 ⊢
 generalize (BitVec.ofInt w y).toNat=b at h2 ⊢
 subst h1 h2
 have hb:b<2 ^ m:=by exact_mod_cast hy2
 have ha:a % 2 ^ m=0:=by exact_mod_cast hx
 have:a=2 ^ m*(a / 2 ^ m):=by
  have:=Nat.div_add_mod a (2 ^ m)
  omega
 rw [this,←Nat.two_pow_add_eq_or_of_lt hb]
 simp
theorem s9 (m:Nat)(x y:Int)(hx:x % 2 ^ m=0)(h0:0≤x)(hy:0≤y)(hy2:y<2 ^ m)(hw:x+y≤2147483647):IntKind.i32.wrap ((BitVec.ofInt IntKind.i32.bits x ||| BitVec.ofInt IntKind.i32.bits y).toNat:Nat)=x+y:=by
 rw [ZT IntKind.i32.bits m x y hx h0 hy hy2 (by simp only [IntKind.bits];omega),Mz (by omega) (by omega)]
theorem F2 (a:Int):IntKind.u8.wrap ((BitVec.ofInt IntKind.u8.bits a &&& BitVec.ofInt IntKind.u8.bits 192).toNat:Nat)=a % 256 / 64*64:=by
 have h1:=ja 8 a
 have key:∀b:Fin 256,(b.val &&& 192)=b.val / 64*64:=by decide +kernel
 rw [BitVec.toNat_and]
 have h2:(BitVec.ofInt IntKind.u8.bits 192).toNat=192:=by decide
 rw [h2]
 change (((BitVec.ofInt IntKind.u8.bits a).toNat:Nat):Int)=a % 256 at h1
 have h3:(BitVec.ofInt IntKind.u8.bits a).toNat<256:=(BitVec.ofInt IntKind.u8.bits a).isLt
 generalize (BitVec.ofInt IntKind.u8.bits a).toNat=b at h1 h3 ⊢
 have h4:=key ⟨b,h3⟩
 simp only at h4
 rw [h4,wU8] <;> omega
theorem D7 (a:Int):IntKind.i32.wrap (a*2 ^ min (6:Int).toNat IntKind.i32.bits)=IntKind.i32.wrap (a*64):=rfl
theorem az.weaken {E:Prg}{f:Nat}{args:List DV}{R R2:Nat→DV→aj→Prop}(h:az E f args R)(hR:∀n r os,R n r os→∃r2,wkT r r2∧R2 n r2 os):az E f args R2:=by
 intro n G w vs h1 h2 h3 h4
 refine Calls.mono (h n G w vs h1 h2 h3 h4) fun e w' ⟨v,r,T',G',a,⟨os,ho,hr⟩,hl,cT,hh,hf⟩=>?_
 obtain ⟨r2,hw,hr2⟩:=hR n r os hr
 exact ⟨v,r2,T',G',a,⟨os,ho,hr2⟩,hl,qD hw cT,hh,hf⟩
theorem az.args {E:Prg}{f:Nat}{args args2:List DV}{R:Nat→DV→aj→Prop}(h:az E f args R)(hl:args2.length=args.length)(hw:∀(G:Gh) (i:Nat) d2 v,args2[i]?=some d2→Rel G d2 v→∃d,args[i]?=some d∧Rel G d v):az E f args2 R:=by
 intro n G w vs h1 h2 h3 h4
 refine h n G w vs h1 h2 (h3.trans hl) fun i d hd=>?_
 have hi:i<args2.length:=by rw [hl];exact (List.getElem?_eq_some_iff.1 hd).1
 obtain ⟨d',hd',hr⟩:=hw G i args2[i] _ (List.getElem?_eq_getElem hi) (h4 i _ (List.getElem?_eq_getElem hi))
 rw [hd] at hd'
 obtain rfl:=sj hd'
 exact hr
theorem Rel.S3 {G:Gh}{sz:Nat}{rows:List (List DV)}{k:SK}{v:Value}(h:Rel G (.sl sz rows k) v):(rows=[]∧Rel G (.sl sz rows .nil) v)∨Rel G (.sl sz rows .gf) v:=by
 cases h with
 | sl sz rows k p len cap b o vals a1 a2 a3 a4 a5 a6 a7=>
  cases p with
  | none=>
   have hr:rows=[]:=by
    by_cases hr:rows=[]
    ·exact hr
    ·cases a4 hr
   have hc:cap=0:=by
    cases k with
    | any=>exact a2 rfl
    | nil=>exact a2.2
    | gf=>cases a2
    | zero=>exact a2
   exact .inl ⟨hr,.sl sz rows .nil none len cap b o vals a1 ⟨rfl,hc⟩ a3 a4 a5 a6 a7⟩
  | some x=>exact .inr (.sl sz rows .gf _ len cap b o vals a1 rfl a3 a4 a5 a6 a7)
theorem az.oK {E:Prg}{f:Nat}{i:Nat}{args:List DV}{sz:Nat}{rows:List (List DV)}{k:SK}{R:Nat→DV→aj→Prop}(hi:args[i]?=some (.sl sz rows k))(h1:rows=[]→az E f (args.set i (.sl sz rows .nil)) R)(h2:az E f (args.set i (.sl sz rows .gf)) R):az E f args R:=by
 intro n G w vs g1 g2 g3 g4
 have hlt:i<args.length:=(List.getElem?_eq_some_iff.1 hi).1
 have rest:∀x,Rel G x (vs.getD i undef)→∀(j:Nat) d,(args.set i x)[j]?=some d→Rel G d (vs.getD j undef):=fun x hx j d hd=>by
  by_cases e:i=j
  ·subst e
   rw [List.getElem?_set_self hlt] at hd
   obtain rfl:=sj hd
   exact hx
  ·rw [List.getElem?_set_ne e] at hd
   exact g4 j d hd
 rcases (g4 i _ hi).S3 with ⟨hr,h⟩ | h
 ·exact h1 hr n G w vs g1 g2 (by simpa using g3) (rest _ h)
 ·exact h2 n G w vs g1 g2 (by simpa using g3) (rest _ h)
theorem az.cY {E : Prg} {F : dz} (hF : FOk E F) {f : Nat} {ann : List Ann} {rf : RFn} {args : List DV} {res : Nat → DV × aj} (hc : aK E.P ann f = some rf) (hargs : args.length ≤ rf.n)
    (h : ∀ n, rf.code.wp E F rf.n (jS rf.res fun d T' => n ≤ T'.length ∧ As n d T' fun d' os => wkT d' (res n).1 ∧ os = (res n).2) ⟨dN 0 args, List.replicate n none⟩) : az E f args fun n r os => r = (res n).1 ∧ os = (res n).2 := by
  have h1 : az E f args fun n r os => wkT r (res n).1 ∧ os = (res n).2 := by
    intro n
    have h1 : bN E f args (List.replicate n none) fun r T' => As n r T' fun d' os => wkT d' (res n).1 ∧ os = (res n).2 := by
      refine bN.aE hF hc hargs (RC.wp_mono _ (h n) fun e st hh => ?_)
      have key : ∀ st : St, (match eX st rf.res with
          | some d => n ≤ st.ay.length ∧ As n d st.ay fun d' os => wkT d' (res n).1 ∧ os = (res n).2
          | none => False) → (match eX st rf.res with
          | some d => (List.replicate n (none : Option Ob)).length ≤ st.ay.length ∧ As n d st.ay fun d' os => wkT d' (res n).1 ∧ os = (res n).2
          | none => False) := fun st hh => by
        cases hres : eX st rf.res with
        | none => rw [hres] at hh; exact hh
        | some d => rw [hres] at hh; exact ⟨by simpa using hh.1, hh.2⟩
      cases e with
      | normal => exact key st hh
      | ret => exact key st hh
      | _ => exact hh
    exact (h1.canon fun r T' hr => by
      obtain ⟨g, r', os, hg, hK⟩ := Et hr
      exact ⟨g, r', os, hg, os, rfl, hK⟩)
  exact h1.weaken fun n r os ⟨h1, h2⟩ => ⟨_, h1, rfl, h2⟩
theorem rO (k:IntKind)(a:Int):[[DV.int k a]]=af k [a]:=au _
theorem rN (k:IntKind)(a:Int)(l:List Int):[DV.int k a]::af k l=af k (a::l):=au _
theorem dj (a b:List DV):wkT (.tup a) (.tup b)=wkL wkA a b:=au _
theorem Gj (a b:List DV):wkT (.agg a) (.agg b)=wkL wk0 a b:=au _
theorem dw (a b:List DV):wkA (.agg a) (.agg b)=wkL wk0 a b:=au _
theorem dm (p:DV→DV→Prop):wkL p [] []=True:=au _
theorem cF (p:DV→DV→Prop)(x y:DV)(a b:List DV):wkL p (x::a) (y::b)=(p x y∧wkL p a b):=au _
theorem Tt (sz:Nat)(rows:List (List DV))(k:SK)(sz2:Nat)(ku:List (List DV))(k2:SK):wkT (.sl sz rows k) (.sl sz2 ku k2)=(rows=ku∧(k2=.any∨k=k2)∧(sz=sz2∨rows=[])):=au _
theorem eU (sz:Nat)(rows:List (List DV))(k:SK)(sz2:Nat)(ku:List (List DV))(k2:SK):wkA (.sl sz rows k) (.sl sz2 ku k2)=(rows=ku∧(k2=.any∨k=k2)∧(sz=sz2∨rows=[])):=au _
theorem eV (sz:Nat)(rows:List (List DV))(k:SK)(sz2:Nat)(ku:List (List DV))(k2:SK):wk0 (.sl sz rows k) (.sl sz2 ku k2)=(rows=ku∧(k2=.any∨k=k2)∧(sz=sz2∨rows=[])):=au _
theorem Oj (k:IntKind)(n:Int)(d:DV):wkT (.int k n) d=(DV.int k n=d):=au _
theorem Oo (k:IntKind)(n:Int)(d:DV):wkA (.int k n) d=(DV.int k n=d):=au _
theorem cV (k:IntKind)(n:Int)(d:DV):wk0 (.int k n) d=(DV.int k n=d):=au _
theorem Im (b:Bool)(d:DV):wkT (.bool b) d=(DV.bool b=d):=au _
theorem Io (b:Bool)(d:DV):wkA (.bool b) d=(DV.bool b=d):=au _
theorem Iq (b:Bool)(d:DV):wk0 (.bool b) d=(DV.bool b=d):=au _
theorem Og (s:List UInt8)(d:DV):wkT (.str s) d=(DV.str s=d):=au _
theorem Ok (s:List UInt8)(d:DV):wkA (.str s) d=(DV.str s=d):=au _
theorem Oq (s:List UInt8)(d:DV):wk0 (.str s) d=(DV.str s=d):=au _
theorem Oi (o off n:Nat)(d:DV):wkT (.own o off n) d=(DV.own o off n=d):=au _
theorem On (o off n:Nat)(d:DV):wkA (.own o off n) d=(DV.own o off n=d):=au _
theorem Ot (o off n:Nat)(d:DV):wk0 (.own o off n) d=(DV.own o off n=d):=au _
theorem Oh (o i j:Nat)(d:DV):wkT (.ptr o i j) d=(DV.ptr o i j=d):=au _
theorem Om (o i j:Nat)(d:DV):wkA (.ptr o i j) d=(DV.ptr o i j=d):=au _
section
open Go.RowKit Go.ChangeShapes Go.WideShapes
inductive CS where
 | int (k:IntKind)
 | bool
 | str
 | sl (row:List CS)
def IY (P:Program)(sh:TypeId→Option (List CS)):List Field→Nat→Option (List CS)
 | [],_=>some []
 | f::fs,off=>match sh f.type with
  | some l=>if f.offset=off∧P.cellsOf f.type=l.length then (IY P sh fs (off+l.length)).map (l++·) else none
  | none=>none
def tY (P:Program):Nat→TypeId→Option (List CS)
 | 0,_=>none
 | n+1,t=>match P.underlying t with
  | some .bool=>some [.bool]
  | some (.int k)=>some [.int k]
  | some .string=>some [.str]
  | some (.slice e)=>match tY P n e with
   | some row=>if row.length=P.cellsOf e∧0<row.length then some [.sl row] else none
   | none=>none
  | some (.struct fs)=>match IY P (tY P n) fs.toList 0 with
   | some l=>if l.length=P.cellsOf t then some l else none
   | none=>none
  | _=>none
inductive zx:CS→DV→Prop where
 | int (k:IntKind) (n:Int):k.min≤n→n≤k.max→zx (.int k) (.int k n)
 | bool (b:Bool):zx .bool (.bool b)
 | str (s:List UInt8):s.length≤9223372036854775807→zx .str (.str s)
 | sl (row:List CS) (rows:List (List DV)):rows.length≤9223372036854775807→(∀r∈rows,r.length=row.length)→
   (∀r∈rows,∀(i:Nat) c d,row[i]?=some c→r[i]?=some d→zx c d)→zx (.sl row) (.sl row.length rows .any)
def Gh.all (w:World):Gh:={ rd:=fun a=>match w.cell? a with | some v=>if v.oneCell'=true then some v else none | none=>none,pl:=fun _=>none}
theorem Gh.Wn {w:World}{a:Addr}{v:Value}(h:w.cell? a=some v)(h1:v.oneCell'=true):(Gh.all w).rd a=some v:=by simp [Gh.all,h,h1]
theorem Gh.Wo (w:World):ru (Gh.all w) [] w where
 pls:=fun k p h=>by simp [Gh.all] at h
 live:=fun k ob h=>by simp at h
 sep:=fun k k' rows dA p p' m m' h=>by simp at h
 rdv:=fun a v h=>by
  simp only [Gh.all] at h
  split at h
  ·rename_i x hx
   split at h
   ·rename_i h1;obtain rfl:=sj h;exact ⟨hx,h1⟩
   ·cases h
  ·cases h
 rds:=fun k rows p m h=>by simp at h
section
variable {H:Type} {enc:TypeId × Value→H} {P:Program} {w:World}
theorem HT (a:Addr)(m n:Nat):(a.add m).add n=a.add (m+n):=by
 simp only [Addr.add]
 by_cases hm:m=0
 ·subst hm;simp
 ·by_cases hn:n=0
  ·subst hn;simp
  ·simp [hm,hn,Nat.add_assoc]
theorem CB {a:Addr}(h:a.spot=none)(n:Nat):a.add n=⟨a.block,a.off+n,none⟩:=by
 cases a
 simp at h
 subst h
 simp only [Addr.add]
 split
 ·rename_i h;subst h;rfl
 ·rfl
def vK (w:World)(l:List CS)(cs:List Value):Prop:=
 cs.length=l.length∧∃ds:List DV,ds.length=l.length∧∀(i:Nat) c d v,l[i]?=some c→ds[i]?=some d→cs[i]?=some v→zx c d∧Rel (Gh.all w) d v∧v.oneCell'=true
theorem vK.one {c:CS}{v:Value}{d:DV}(h:zx c d)(h2:Rel (Gh.all w) d v)(h3:v.oneCell'=true):vK w [c] [v]:=by
 refine ⟨rfl,[d],rfl,fun i c' d' v' hc hd hv=>?_⟩
 rcases i with _ | i
 ·simp at hc hd hv;subst hc hd hv;exact ⟨h,h2,h3⟩
 ·simp at hc
theorem vK.append {l l':List CS}{cs cs':List Value}(h:vK w l cs)(h':vK w l' cs'):vK w (l++l') (cs++cs'):=by
 obtain ⟨h1,ds,h2,h3⟩:=h
 obtain ⟨h1',ds',h2',h3'⟩:=h'
 refine ⟨by simp [h1,h1'],ds++ds',by simp [h2,h2'],fun i c d v hc hd hv=>?_⟩
 by_cases hi:i<l.length
 ·rw [List.getElem?_append_left (by omega)] at hc hd hv
  exact h3 i c d v hc hd hv
 ·rw [List.getElem?_append_right (by omega)] at hc hd hv
  rw [h2] at hd;rw [h1] at hv
  exact h3' _ c d v hc hd hv
theorem IX {sh:TypeId→Option (List CS)}{base m:Nat}{held:Bool}{spare:Nat→Bool}
  (ih:∀t l,sh t=some l→∀cs x,DataW.trod enc P w base spare held m t cs=some x→vK w l cs):∀(fs:List Field) (off:Nat) (l:List CS) (cs:List Value),IY P sh fs off=some l→cs.length=off+l.length→
  (∀f∈fs,∃x,DataW.trod enc P w base spare held m f.type ((cs.drop f.offset).take (P.cellsOf f.type))=some x)→vK w l (cs.drop off)
 | [],off,l,cs,h,hl,hx=>by
  obtain rfl:=sj h
  have:cs.drop off=[]:=List.drop_eq_nil_of_le (by simp at hl;omega)
  rw [this]
  exact ⟨rfl,[],rfl,fun i c d v hc=>by simp at hc⟩
 | f::fs,off,l,cs,h,hl,hx=>by
  simp only [IY] at h
  split at h
  ·rename_i lf hlf
   split at h
   ·rename_i hc
    cases hr:IY P sh fs (off+lf.length) with
    | none=>rw [hr] at h;cases h
    | some lr=>
     rw [hr] at h
     obtain rfl:=sj h
     obtain ⟨x,hx1⟩:=hx f (by simp)
     rw [hc.1,hc.2] at hx1
     have h1:=ih _ _ hlf _ _ hx1
     have h2:=IX ih fs (off+lf.length) lr cs hr (by simp at hl;omega) fun f hf=>hx f (by simp [hf])
     have:cs.drop off=(cs.drop off).take lf.length++cs.drop (off+lf.length):=by rw [←List.drop_drop,List.take_append_drop]
     rw [this]
     exact h1.append h2
   ·cases h
  ·cases h
theorem zU {base:Nat}{held:Bool}{spare:Nat→Bool}:∀(n:Nat) (t:TypeId) (l:List CS),tY P n t=some l→∀(fuel:Nat) (cs:List Value) (x:DataW H × List MemPlace),
  DataW.trod enc P w base spare held fuel t cs=some x→vK w l cs
 | 0,t,l,h,_,_,_,_=>by cases h
 | n+1,t,l,h,fuel,cs,x,hx=>by
  simp only [tY] at h
  split at h
  ·rename_i ht;obtain rfl:=sj h
   obtain ⟨b,rfl,rfl⟩:=DataW.trod_bool ht hx
   exact .one (.bool b) (.bool b) rfl
  ·rename_i k ht;obtain rfl:=sj h
   obtain ⟨n,rfl,rfl,hw⟩:=DataW.trod_int ht hx
   have:k.min≤n∧n≤k.max:=by simpa [Lit.wf] using hw
   exact .one (.int k n this.1 this.2) (.int k n) rfl
  ·rename_i ht;obtain rfl:=sj h
   obtain ⟨s,rfl,rfl,hw⟩:=DataW.trod_string ht hx
   have e:s=⟨s.data.toList.toArray⟩:=by cases s;rfl
   refine .one (d:=.str s.data.toList) (.str _ (by have:s.size=s.data.toList.length:=(by cases s;rfl);rw [←this];have h2:maxLen=9223372036854775807:=(by decide);omega)) ?_ rfl
   rw [e];exact .str _
  ·rename_i e ht
   split at h
   ·rename_i row hrow
    split at h
    ·rename_i hc
     obtain rfl:=sj h
     rcases DataW.trod_slice ht hx with ⟨rfl,rfl⟩ | ⟨a,len,cap,elems,rest,m,_,rfl,rfl,hb,hl,hm,hlen,hel,_,_⟩
     ·refine .one (d:=.sl row.length [] .any) (.sl row [] (by simp) (by simp) (by simp)) ?_ rfl
      exact .sl _ _ _ _ _ _ 0 0 (fun _ _=>Go.undef) rfl (fun _=>rfl) (Nat.le_refl _) (by simp) (by simp) (by simp) (by simp)
     ·have key:∀i,∃cs':List Value,∃ds:List DV,i<len→ds.length=row.length∧cs'.length=row.length∧(∀j,j<row.length→w.cell? (a.add (i*row.length+j))=cs'[j]?)∧
        ∀(j:Nat) c d v,row[j]?=some c→ds[j]?=some d→cs'[j]?=some v→zx c d∧Rel (Gh.all w) d v∧v.oneCell'=true:=by
       intro i
       by_cases hi:i<len
       ·have h1:=hel i hi
        rw [List.getElem?_eq_getElem (by omega),Option.bind_eq_some_iff] at h1
        obtain ⟨cs',h2,h3⟩:=h1
        obtain ⟨h4,ds,h5,h6⟩:=zU n e row hrow m cs' _ h3
        obtain ⟨_,h7,h8⟩:=World.cells?_some h2
        refine ⟨cs',ds,fun _=>⟨h5,h4,fun j hj=>?_,h6⟩⟩
        have:=h8 j (by omega)
        rw [←hc.1] at this
        rw [←this]
        rw [HT]
       ·exact ⟨[],[],fun h=>absurd h hi⟩
      have Z8:=Classical.axiomOfChoice key
      obtain ⟨cf,Z8⟩:=Z8
      have Kd:=Classical.axiomOfChoice Z8
      obtain ⟨df,Kd⟩:=Kd
      have abO:maxLen=9223372036854775807:=by decide
      have Zi:0<len→a.spot=none:=fun h0=>by
       obtain ⟨k1,k2,k3,_⟩:=Kd 0 h0
       have:=k3 0 hc.2
       rw [List.getElem?_eq_getElem (by omega)] at this
       simp only [Nat.zero_mul,Nat.add_zero] at this
       rw [Addr.add,if_pos rfl] at this
       unfold World.cell? at this
       split at this
       ·split at this
        ·cases this
        ·rename_i hs
         cases hsp:a.spot with
         | none=>rfl
         | some s=>rw [hsp] at hs;simp at hs
       ·cases this
      have hrow?:∀(i:Nat) (r:List DV),((List.range len).map df)[i]?=some r→i<len∧r=df i:=fun i r hr=>by
       simp only [List.getElem?_map,Option.map_eq_some_iff] at hr
       obtain ⟨i',hi',rfl⟩:=hr
       have:=List.getElem?_range (n:=len) (i:=i)
       by_cases hi:i<len
       ·rw [List.getElem?_range hi] at hi';obtain rfl:=sj hi';exact ⟨hi,rfl⟩
       ·rw [List.getElem?_eq_none (by simp;omega)] at hi';cases hi'
      refine .one (d:=.sl row.length ((List.range len).map df) .any) (.sl row _ (by rw [List.length_map,List.length_range];exact Nat.le_trans hl (abO ▸ hm)) ?_ ?_) ?_ rfl
      ·intro r hr
       obtain ⟨i,hi⟩:=List.getElem?_of_mem hr
       obtain ⟨hi2,rfl⟩:=hrow? i r hi
       exact (Kd i hi2).1
      ·intro r hr j c d h1 h2
       obtain ⟨i,hi⟩:=List.getElem?_of_mem hr
       obtain ⟨hi2,rfl⟩:=hrow? i r hi
       obtain ⟨k1,k2,k3,k4⟩:=Kd i hi2
       have hj:j<row.length:=(List.getElem?_eq_some_iff.1 h1).1
       exact (k4 j c d _ h1 h2 (List.getElem?_eq_getElem (by omega))).1
      ·refine .sl _ _ _ _ _ _ a.block a.off (fun i j=>(cf i).getD j Go.undef) (by simp) (fun h=>by cases h) hl ?_ ?_ ?_ ?_
       ·intro hne
        have h0:0<len:=by
         rcases Nat.eq_zero_or_pos len with h0 | h0
         ·subst h0;simp at hne
         ·exact h0
        have:=Zi h0
        cases a;simp at this;subst this;rfl
       ·intro i r hi
        obtain ⟨hi2,rfl⟩:=hrow? i r hi
        exact (Kd i hi2).1
       ·intro i j r c hi hj
        obtain ⟨hi2,rfl⟩:=hrow? i r hi
        obtain ⟨k1,k2,k3,k4⟩:=Kd i hi2
        have hj':j<row.length:=by have:=(List.getElem?_eq_some_iff.1 hj).1;omega
        have h1:=k3 j hj'
        have h2:(cf i)[j]?=some ((cf i).getD j Go.undef):=by rw [List.getD_eq_getElem?_getD,List.getElem?_eq_getElem (by omega)];rfl
        have hs:=Zi (by omega)
        rw [h2] at h1
        have h3:a.add (i*row.length+j)=⟨a.block,a.off+(i*row.length+j),none⟩:=CB hs _
        rw [h3] at h1
        exact Gh.Wn h1 (k4 j _ c _ (List.getElem?_eq_getElem hj') hj h2).2.2
       ·intro i j r c hi hj
        obtain ⟨hi2,rfl⟩:=hrow? i r hi
        obtain ⟨k1,k2,k3,k4⟩:=Kd i hi2
        have hj':j<row.length:=by have:=(List.getElem?_eq_some_iff.1 hj).1;omega
        have h2:(cf i)[j]?=some ((cf i).getD j Go.undef):=by rw [List.getD_eq_getElem?_getD,List.getElem?_eq_getElem (by omega)];rfl
        exact (k4 j _ c _ (List.getElem?_eq_getElem hj') hj h2).2.1
    ·cases h
   ·cases h
  ·rename_i fs ht
   split at h
   ·rename_i l' hl'
    split at h
    ·rename_i hc
     obtain rfl:=sj h
     obtain ⟨xs,m,rfl,rfl,h1,h2,h3⟩:=DataW.trod_struct ht hx
     have:=IX (enc:=enc) (P:=P) (w:=w) (base:=base) (held:=held) (spare:=spare) (m:=m) (fun t l h cs x=>zU n t l h m cs x) fs.toList 0 l' cs hl' (by omega) fun f hf=>by
      obtain ⟨i,hi⟩:=List.getElem?_of_mem hf
      have hi':fs[i]?=some f:=by simpa using hi
      have:=h3 i f hi'
      have hlt:i<xs.length:=by have:=(Array.getElem?_eq_some_iff.1 hi').1;omega
      rw [List.getElem?_eq_getElem hlt] at this
      exact ⟨_,this⟩
     simpa using this
    ·cases h
   ·cases h
  ·cases h
end
end
section
open Go.RowKit Go.ChangeShapes Go.WideShapes
def isStruct (P:Program)(t:TypeId):Bool:=match P.underlying t with | some (.struct _)=>true | _=>false
def YR (P:Program)(t:TypeId):Option (Bool × List CS):=(tY P 8 t).map fun l=>(isStruct P t,l)
def Mr:Bool × List CS→DV→Prop
 | (false,l),d=>∃c,l=[c]∧zx c d
 | (true,l),d=>∃ds,d=.agg ds∧ds.length=l.length∧∀(i:Nat) c x,l[i]?=some c→ds[i]?=some x→zx c x
def Cu (P:Program):List TypeId→Option (List (Bool × List CS))
 | []=>some []
 | t::ts=>match YR P t,Cu P ts with
  | some a,some l=>some (a::l)
  | _,_=>none
def vR:List (Bool × List CS)→List DV→Prop
 | [],[]=>True
 | a::l,d::ds=>Mr a d∧vR l ds
 | _,_=>False
theorem vR.nil {ds:List DV}(h:vR [] ds):ds=[]:=by
 cases ds with
 | nil=>rfl
 | cons=>exact h.elim
theorem vR.cons {a:Bool × List CS}{l:List (Bool × List CS)}{ds:List DV}(h:vR (a::l) ds):∃d r,ds=d::r∧Mr a d∧vR l r:=by
 cases ds with
 | nil=>exact h.elim
 | cons d r=>exact ⟨d,r,rfl,h.1,h.2⟩
section
variable {H:Type} {enc:TypeId × Value→H} {P:Program} {w:World}
theorem Hx {r:Reach}{b0:Nat}{t:TypeId}{v:Value}{l:List CS}(h:Value.okWide P w r b0 t v)(hs:tY P 8 t=some l)(hn:isStruct P t=false):v.cells.toList=[v]:=by
 unfold isStruct at hn
 have key:∀cs,v≠ .agg cs:=by
  intro cs e
  subst e
  rw [tY] at hs
  unfold Value.okWide Cell.okWide Cell.ok at h
  split at hs <;> rename_i ht <;> first | (rw [ht] at h;exact h.elim) | (rw [ht] at hn;cases hn) | cases hs
 cases v <;> first | rfl | exact absurd rfl (key _)
theorem No {r:Reach}{b0:Nat}{t:TypeId}{v:Value}(h:Value.okWide P w r b0 t v)(hn:isStruct P t=true):∃cs,v=.agg cs:=by
 unfold isStruct at hn
 split at hn
 ·rename_i ht
  unfold Value.okWide at h
  rw [ht] at h
  obtain ⟨cs,h,_⟩:=h
  exact ⟨cs,h⟩
 ·cases hn
theorem YS {r:Reach}{b0 base:Nat}{spare:Nat→Bool}{held:Bool}{t:TypeId}{v:Value}{d:DataW H}{ps:List MemPlace}{a:Bool × List CS}(ha:YR P t=some a)(hv:Value.okWide P w r b0 t v)
  (hd:DataW.Trod enc P w base spare held t v d ps):∃x,Mr a x∧Rel (Gh.all w) x v:=by
 unfold YR at ha
 cases hl:tY P 8 t with
 | none=>rw [hl] at ha;cases ha
 | some l=>
  rw [hl] at ha
  obtain rfl:=sj ha
  obtain ⟨fuel,hf⟩:=hd
  obtain ⟨h1,ds,h2,h3⟩:=zU 8 t l hl fuel _ _ hf
  cases hn:isStruct P t with
  | false=>
   rw [Hx hv hl hn] at h1 h3
   match l,h1 with
   | [c],_=>
    match ds,h2 with
    | [x],_=>
     obtain ⟨k1,k2,_⟩:=h3 0 c x v rfl rfl rfl
     exact ⟨x,⟨c,rfl,k1⟩,k2⟩
  | true=>
   obtain ⟨cs,rfl⟩:=No hv hn
   simp only [Value.cells] at h1 h3
   refine ⟨.agg ds,⟨ds,rfl,h2,fun i c x hc hx=>?_⟩,.agg ds cs (by simpa using h1.trans h2.symm) fun i c hc=>?_⟩
   ·have hi:i<cs.toList.length:=by have:=(List.getElem?_eq_some_iff.1 hc).1;omega
    exact (h3 i c x _ hc hx (List.getElem?_eq_getElem hi)).1
   ·have hi:i<ds.length:=(List.getElem?_eq_some_iff.1 hc).1
    have hi2:i<cs.toList.length:=by omega
    have hi3:i<cs.size:=by simpa using hi2
    have:=(h3 i _ c _ (List.getElem?_eq_getElem (by omega)) hc (List.getElem?_eq_getElem hi2)).2.1
    simpa [Array.getD,hi3] using this
theorem L9 {base b0:Nat}{spare:Nat→Bool}{held:Bool}{r:Reach}:∀{ts:List TypeId} {vs:List Value} {ds:List (DataW H)} {ps:List MemPlace} {l:List (Bool × List CS)},Cu P ts=some l→
  (∀(j:Nat) t v,ts[j]?=some t→vs[j]?=some v→Value.okWide P w r b0 t v)→DataW.TrodAll enc P w base spare held ts vs ds ps→
  ∃dv:List DV,vR l dv∧dv.length=vs.length∧∀(i:Nat) d,dv[i]?=some d→Rel (Gh.all w) d (vs.getD i Go.undef)
 | [],[],[],ps,l,hl,hv,h=>by
  obtain rfl:=sj hl
  exact ⟨[],trivial,rfl,by simp⟩
 | t::ts,v::vs,d::ds,ps,l,hl,hv,⟨p,q,h1,h2,h3⟩=>by
  simp only [Cu] at hl
  split at hl
  ·rename_i a l' ha hl'
   obtain rfl:=sj hl
   obtain ⟨x,hx,hr⟩:=YS ha (hv 0 t v rfl rfl) h1
   obtain ⟨dv,k1,k2,k3⟩:=L9 hl' (fun j t v ht hv'=>hv (j+1) t v (by simpa using ht) (by simpa using hv')) h2
   refine ⟨x::dv,⟨hx,k1⟩,by simp [k2],fun i d hd=>?_⟩
   rcases i with _ | i
   ·simp at hd;subst hd;simpa using hr
   ·have:=k3 i d (by simpa using hd)
    simpa using this
  ·cases hl
theorem HM {w':World}{a:Addr}{n:Nat}{cs:List Value}(hb:∀b:Nat,b<w.heap.size→w'.heap[b]?=w.heap[b]?)(h:w.cells? 0 a n=some cs):w'.cells? 0 a n=some cs:=by
 rw [←h]
 have hl:=(World.cells?_some h).2
 unfold World.cells?
 simp only [Nat.zero_le,if_true]
 have:∀i,i<n→w'.cell? (a.add i)=w.cell? (a.add i):=fun i hi=>by
  have h1:=hl.2 i hi
  rw [List.getElem?_eq_getElem (by omega)] at h1
  have h2:(a.add i).block<w.heap.size:=by
   unfold World.cell? at h1
   split at h1
   ·rename_i h2
    exact (Array.getElem?_eq_some_iff.1 h2).1
   ·cases h1
  unfold World.cell?
  rw [hb _ h2]
 have key:∀l:List Nat,(∀i∈l,i<n)→l.mapM (fun i=>w'.cell? (a.add i))=l.mapM (fun i=>w.cell? (a.add i)):=by
  intro l
  induction l with
  | nil=>intro _;rfl
  | cons x l ih=>intro hx;rw [List.mapM_cons,List.mapM_cons,this x (hx x (by simp)),ih fun i hi=>hx i (by simp [hi])]
 exact key _ fun i hi=>by simpa using hi
theorem oB {α β:Type}{f g:α→Option β}:∀{l:List α} {r:List β},l.mapM f=some r→(∀(i:Nat) x y,l[i]?=some x→r[i]?=some y→f x=some y→g x=some y)→l.mapM g=some r
 | [],r,h,_=>h
 | x::l,r,h,hg=>by
  rw [List.mapM_cons] at h ⊢
  cases hx:f x with
  | none=>rw [hx] at h;cases h
  | some y=>
   cases hl:l.mapM f with
   | none=>rw [hx,hl] at h;cases h
   | some ys=>
    rw [hx,hl] at h
    obtain rfl:=sj h
    rw [hg 0 x y rfl rfl hx,oB hl fun i x y h1 h2=>hg (i+1) x y (by simpa using h1) (by simpa using h2)]
    rfl
theorem sF {w':World}{sp:Nat→Bool}(hb:∀b:Nat,b<w.heap.size→w'.heap[b]?=w.heap[b]?):∀(n:Nat) (t:TypeId) (l:List CS),tY P n t=some l→∀(fuel:Nat) (cs:List Value) (x:DataW H × List MemPlace),
  DataW.trod enc P w 0 (fun _=>true) true fuel t cs=some x→(∀p∈x.2,sp p.block=true)→DataW.trod enc P w' 0 sp true fuel t cs=some x
 | 0,t,l,h,_,_,_,_=>by cases h
 | n+1,t,l,h,fuel,cs,x,hx=>by
  intro hsp
  cases fuel with
  | zero=>simp [DataW.trod] at hx
  | succ m=>
   simp only [tY] at h
   split at h
   ·rename_i ht
    obtain ⟨b,rfl,rfl⟩:=DataW.trod_bool ht hx
    simp [DataW.trod,ht]
   ·rename_i k ht
    obtain ⟨b,rfl,rfl,hw⟩:=DataW.trod_int ht hx
    simp [DataW.trod,ht,hw]
   ·rename_i ht
    obtain ⟨b,rfl,rfl,hw⟩:=DataW.trod_string ht hx
    simp [DataW.trod,ht,hw]
   ·rename_i e ht
    split at h
    ·rename_i row hrow
     split at h
     ·rename_i hc
      unfold DataW.trod at hx ⊢
      rw [ht] at hx ⊢
      split at hx
      all_goals (rename_i hA;first | cases hA | skip)
      all_goals first
       | exact hx
       | cases hx
       | skip
      rename_i a len cap
      simp only [if_true] at hx
      split at hx
      ·rename_i iG
       rw [if_pos iG]
       cases he:(List.range len).mapM fun i=>(w.cells? 0 (a.add (i*P.cellsOf e)) (P.cellsOf e)).bind (DataW.trod enc P w 0 (fun _=>true) true m e) with
       | none=>rw [he] at hx;cases hx
       | some elems=>
        rw [he] at hx
        simp only [Option.bind_some] at hx
        cases hr:(List.range (cap-len)).mapM fun j=>(w.cells? 0 (a.add ((len+j)*P.cellsOf e)) (P.cellsOf e)).bind (DataW.trod enc P w 0 (fun _=>true) true m e) with
        | none=>rw [hr] at hx;cases hx
        | some rest=>
         rw [hr] at hx
         obtain rfl:=sj hx
         have hel:elems.length=len:=by simpa using mapM_some_length he
         have hrl:rest.length=cap-len:=by simpa using mapM_some_length hr
         have step:∀(k:Nat) (y:DataW H × List MemPlace),(∀p∈y.2,sp p.block=true)→(w.cells? 0 (a.add (k*P.cellsOf e)) (P.cellsOf e)).bind (DataW.trod enc P w 0 (fun _=>true) true m e)=some y→
           (w'.cells? 0 (a.add (k*P.cellsOf e)) (P.cellsOf e)).bind (DataW.trod enc P w' 0 sp true m e)=some y:=by
          intro k y hy h1
          rw [Option.bind_eq_some_iff] at h1
          obtain ⟨cs',h2,h3⟩:=h1
          rw [HM hb h2,Option.bind_some]
          exact sF hb n e row hrow m cs' y h3 hy
         have hmem:∀y∈elems++rest,∀p∈y.2,sp p.block=true:=fun y hy p hp=>hsp p (by
          simp only [List.mem_append]
          exact Or.inr (List.mem_flatMap.2 ⟨y,hy,hp⟩))
         rw [oB he fun i k y h1 h2 h3=>step k y (hmem y (List.mem_append_left _ (List.mem_of_getElem? h2))) h3,Option.bind_some]
         have hr2:=oB hr fun i k y h1 h2 h3=>step (len+k) y (hmem y (List.mem_append_right _ (List.mem_of_getElem? h2))) h3
         by_cases hz:cap-len=0
         ·have hrn:rest=[]:=List.eq_nil_of_length_eq_zero (by omega)
          subst hrn
          rw [hz]
          split <;> rfl
         ·have hsa:sp a.block=true:=by
           have:MemPlace.cell a.block (a.off+0)∈MemPlace.row a ((elems.length+rest.length)*P.cellsOf e):=by
            unfold MemPlace.row
            refine List.mem_map.2 ⟨0, ?_,rfl⟩
            rw [List.mem_range]
            exact Nat.mul_pos (by omega) (by omega)
           exact hsp (.cell a.block (a.off+0)) (by simp only [List.mem_append];exact Or.inl this)
          rw [if_pos hsa,hr2]
          rfl
      ·cases hx
     ·cases h
    ·cases h
   ·rename_i fs ht
    split at h
    ·rename_i l' hl'
     split at h
     ·rename_i hc
      unfold DataW.trod at hx ⊢
      rw [ht] at hx ⊢
      split at hx
      all_goals (rename_i hA;first | cases hA | skip)
      all_goals first
       | cases hx
       | (exfalso;simp_all;done)
       | skip
      rename_i cs _ _
      split at hx
      ·rename_i hcl
       rw [if_pos hcl]
       cases he:fs.toList.mapM fun f=>DataW.trod enc P w 0 (fun _=>true) true m f.type ((cs.drop f.offset).take (P.cellsOf f.type)) with
       | none=>rw [he] at hx;cases hx
       | some xs=>
        rw [he] at hx
        obtain rfl:=sj hx
        have hfs:∀(L:List Field) (off:Nat) (r:List CS),IY P (tY P n) L off=some r→∀f∈L,∃lf,tY P n f.type=some lf:=by
         intro L
         induction L with
         | nil=>intro _ _ _ f hf;cases hf
         | cons g L ih=>
          intro off r h f hf
          simp only [IY] at h
          split at h
          ·rename_i lf hlf
           split at h
           ·cases hr:IY P (tY P n) L (off+lf.length) with
            | none=>rw [hr] at h;cases h
            | some lr=>
             rcases List.mem_cons.1 hf with rfl | hf
             ·exact ⟨_,hlf⟩
             ·exact ih _ _ hr f hf
           ·cases h
          ·cases h
        rw [oB he fun i f y h1 h2 h3=>by
         obtain ⟨lf,hlf⟩:=hfs _ _ _ hl' f (List.mem_of_getElem? h1)
         exact sF hb n f.type lf hlf m _ y h3 fun p hp=>hsp p (List.mem_flatMap.2 ⟨y,List.mem_of_getElem? h2,hp⟩)]
        rfl
      ·cases hx
     ·cases h
    ·cases h
   ·cases h
theorem rB {w':World}{sp:Nat→Bool}(hb:∀b:Nat,b<w.heap.size→w'.heap[b]?=w.heap[b]?):∀{ts:List TypeId} {vs:List Value} {ds:List (DataW H)} {ps:List MemPlace} {l:List (Bool × List CS)},Cu P ts=some l→
  DataW.TrodAll enc P w 0 (fun _=>true) true ts vs ds ps→(∀p∈ps,sp p.block=true)→DataW.TrodAll enc P w' 0 sp true ts vs ds ps
 | [],[],[],ps,l,hl,h,_=>h
 | t::ts,v::vs,d::ds,ps,l,hl,⟨p,q,⟨f,h1⟩,h2,h3⟩,hs=>by
  subst h3
  simp only [Cu] at hl
  split at hl
  ·rename_i a l' ha hl'
   unfold YR at ha
   cases hl8:tY P 8 t with
   | none=>rw [hl8] at ha;cases ha
   | some lt=>
    exact ⟨p,q,⟨f,sF hb 8 t lt hl8 f _ _ h1 fun x hx=>hs x (List.mem_append_left _ hx)⟩,rB hb hl' h2 fun x hx=>hs x (List.mem_append_right _ hx),rfl⟩
  ·cases hl
end
end
section
open Go.RowKit Go.ChangeShapes Go.WideShapes
def flat {H:Type}:Nat→DataW H→List Value
 | n+1,.lit (.int k z)=> [.int k z]
 | n+1,.lit (.bool b)=> [.bool b]
 | n+1,.agg l=>l.flatMap (flat n)
 | _,_=> []
def xp (P:Program)(ok:TypeId→Bool):List Field→Nat→Option Nat
 | [],off=>some off
 | f::fs,off=>if ok f.type=true∧f.offset=off then xp P ok fs (off+P.cellsOf f.type) else none
def u7 (P:Program):Nat→TypeId→Bool
 | 0,_=>false
 | n+1,t=>match P.underlying t with
  | some (.int _)=>true
  | some .bool=>true
  | some (.array k e)=>u7 P n e && decide (P.cellsOf t=k*P.cellsOf e)
  | some (.struct fs)=>xp P (u7 P n) fs.toList 0==some (P.cellsOf t)
  | _=>false
section
variable {H:Type} {enc:TypeId × Value→H} {P:Program} {w:World} {base:Nat} {spare:Nat→Bool} {held:Bool}
theorem pieces {α:Type}(sz:Nat):∀(k:Nat) (cs:List α),cs.length=k*sz→cs=(List.range k).flatMap fun i=>(cs.drop (i*sz)).take sz
 | 0,cs,h=>by
  have:cs=[]:=List.eq_nil_of_length_eq_zero (by simpa using h)
  subst this;rfl
 | k+1,cs,h=>by
  rw [List.range_succ_eq_map,List.flatMap_cons,List.flatMap_map]
  have h1:=pieces sz k (cs.drop sz) (by rw [List.length_drop,h,Nat.succ_mul];omega)
  simp only [List.drop_drop] at h1
  have h2:∀i,sz+i*sz=(i+1)*sz:=fun i=>by rw [Nat.succ_mul];omega
  simp only [h2] at h1
  simp only [Nat.zero_mul,List.drop_zero]
  conv=>lhs;rw [←List.take_append_drop sz cs,h1]
theorem ju {α β γ:Type}{f:α→List γ}{g:β→List γ}:∀{l:List α} {m:List β},l.length=m.length→(∀(i:Nat) a b,l[i]?=some a→m[i]?=some b→f a=g b)→l.flatMap f=m.flatMap g
 | [],[],_,_=>rfl
 | a::l,b::m,h,hg=>by
  rw [List.flatMap_cons,List.flatMap_cons,hg 0 a b rfl rfl,ju (by simpa using h) fun i a b h1 h2=>hg (i+1) a b (by simpa using h1) (by simpa using h2)]
theorem Fj {ok:TypeId→Bool}{m:Nat}{cs:List Value}:∀(fs:List Field) (off e:Nat),xp P ok fs off=some e→e=cs.length→off≤cs.length∧cs.drop off=fs.flatMap fun f=>(cs.drop f.offset).take (P.cellsOf f.type)
 | [],off,e,h,he=>by
  obtain rfl:=sj h
  refine ⟨by omega, ?_⟩
  rw [he];simp
 | f::fs,off,e,h,he=>by
  simp only [xp] at h
  split at h
  ·rename_i hc
   obtain ⟨h1,h2⟩:=Fj (m:=m) (cs:=cs) fs _ _ h he
   refine ⟨by omega, ?_⟩
   rw [List.flatMap_cons,←h2,hc.2,←List.drop_drop,List.take_append_drop]
  ·cases h
theorem vU:∀(n:Nat) (t:TypeId),u7 P n t=true→∀(fuel:Nat) (cs:List Value) (x:DataW H × List MemPlace),DataW.trod enc P w base spare held fuel t cs=some x→cs=flat n x.1
 | 0,t,h,_,_,_,_=>by cases h
 | n+1,t,h,fuel,cs,x,hx=>by
  simp only [u7] at h
  split at h
  ·rename_i k ht
   obtain ⟨z,rfl,rfl,_⟩:=DataW.trod_int ht hx
   rfl
  ·rename_i ht
   obtain ⟨z,rfl,rfl⟩:=DataW.trod_bool ht hx
   rfl
  ·rename_i k e ht
   simp only [Bool.and_eq_true,decide_eq_true_eq] at h
   obtain ⟨xs,m,rfl,rfl,h1,h2,h3⟩:=DataW.trod_array ht hx
   simp only [flat,List.flatMap_map]
   conv=>lhs;rw [pieces (P.cellsOf e) k cs (by rw [h1,h.2])]
   refine ju (by simp [h2]) fun i a b ha hb=>?_
   have hi:i<k:=by have:=(List.getElem?_eq_some_iff.1 ha).1;simpa using this
   rw [List.getElem?_range hi] at ha
   obtain rfl:=sj ha
   exact vU n e h.1 m _ _ ((h3 i hi).trans hb)
  ·rename_i fs ht
   obtain ⟨xs,m,rfl,rfl,h1,h2,h3⟩:=DataW.trod_struct ht hx
   simp only [flat,List.flatMap_map]
   have h4:=(Fj (m:=0) (cs:=cs) fs.toList 0 (P.cellsOf t) (by simpa using h) h1.symm).2
   rw [List.drop_zero] at h4
   conv=>lhs;rw [h4]
   have hok:∀(L:List Field) (off e:Nat),xp P (u7 P n) L off=some e→∀f∈L,u7 P n f.type=true:=by
    intro L
    induction L with
    | nil=>intro _ _ _ f hf;cases hf
    | cons g L ih=>
     intro off e h f hf
     simp only [xp] at h
     split at h
     ·rename_i hc
      rcases List.mem_cons.1 hf with rfl | hf
      ·exact hc.1
      ·exact ih _ _ h f hf
     ·cases h
   refine ju (by simp [h2]) fun i a b ha hb=>?_
   have ha':fs[i]?=some a:=by simpa using ha
   exact vU n a.type (hok _ _ _ (by simpa using h) a (List.mem_of_getElem? ha)) m _ _ ((h3 i a ha').trans hb)
  ·cases h
theorem laid_cells {laid:List (String × DataW Unit)}(h:laidMetH P laid w)(hn:laid.all (fun x=>x.2.handleName?.isNone)=true){name:String}{d:DataW Unit}(hm:(name,d)∈laid){g:Nat}{t:TypeId}{n:Nat}
  (hg:P.globalNamed name=some g) (hty:(P.globals[g]?).map (·.type)=some t) (hf:u7 P n t=true):∀i,w.cell? ⟨g,i,none⟩=(flat n d)[i]?:=by
 have h0:laidMet P laid w:=by
  unfold laidMetH at h
  have:laid.filter (fun x=>x.2.handleName?.isSome)=[]:=by
   rw [List.filter_eq_nil_iff]
   intro x hx
   have:=List.all_eq_true.1 hn x hx
   simp at this
   simp [this]
  rw [this] at h
  exact h
 obtain ⟨ps,h1,h2⟩:=h0
 clear h hn h2
 induction laid generalizing ps with
 | nil=>cases hm
 | cons x r ih=>
  obtain ⟨n0,d0⟩:=x
  obtain ⟨g',t',cs,fuel,p,q,hg',acH,acG,hd,hr,_⟩:=h1
  rcases List.mem_cons.1 hm with e | hm
  ·obtain ⟨rfl,rfl⟩:=Prod.mk.injEq .. ▸ e
   obtain rfl:=sj (hg.symm.trans hg')
   obtain rfl:=sj (hty.symm.trans acH)
   intro i
   rw [World.var?_cell hg acG i,←vU n t hf fuel _ _ hd]
   simp
  ·exact ih hm q hr
theorem Ja {g:Nat}{row:List DV}{vs:List Value}(h:∀i,w.cell? ⟨g,i,none⟩=vs[i]?)(hl:row.length=vs.length)(hr:∀(i:Nat) d v,row[i]?=some d→vs[i]?=some v→Rel (Gh.all w) d v∧v.oneCell'=true) :
  Rel (Gh.all w) (.rp row 0) (.pointer (some ⟨g,0,none⟩)):=by
 have:=Rel.rp (G:=Gh.all w) row 0 g 0 (fun m=>vs.getD m Go.undef) (fun m c hm=>?_) (fun m c hm=>?_)
 ·exact this
 ·have hi:m<vs.length:=by have:=(List.getElem?_eq_some_iff.1 hm).1;omega
  have h1:vs[m]?=some (vs.getD m Go.undef):=by rw [List.getD_eq_getElem?_getD,List.getElem?_eq_getElem hi];rfl
  rw [Nat.zero_add]
  exact Gh.Wn ((h m).trans h1) (hr m c _ hm h1).2
 ·have hi:m<vs.length:=by have:=(List.getElem?_eq_some_iff.1 hm).1;omega
  have h1:vs[m]?=some (vs.getD m Go.undef):=by rw [List.getD_eq_getElem?_getD,List.getElem?_eq_getElem hi];rfl
  exact (hr m c _ hm h1).1
theorem xJ:∀{ts:List TypeId} {vs:List Value} {ds:List (DataW H)} {ps:List MemPlace},DataW.TrodAll enc P w base spare held ts vs ds ps→ds.length=ts.length
 | [],[],[],_,_=>rfl
 | _::_,_::_,_::_,_,⟨_,_,_,h,_⟩=>by simp [xJ h]
end
end
section
def oV (a:Nat):List Nat→List Nat
 | []=> [a]
 | b::l=>if a=b then b::l else b::oV a l
def lp:List Nat→List Nat→List Nat
 | [],acc=>acc
 | a::l,acc=>lp l (oV a acc)
def nI:List (Nat × DV)→List Nat→List Nat
 | [],acc=>acc
 | (_,d)::l,acc=>nI l (lp (dV d) acc)
def HN (m:Nat)(ids:List Nat):List (Nat × DV)→List (Nat × DV)
 | []=> []
 | (t,d)::l=>(t,ld m ids d)::HN m ids l
def oI:Option (Option Ob)→List Nat→List Nat
 | some (some (.box cs)),acc=>lp (cs.flatMap jC) acc
 | _,acc=>acc
def mw (T:aj):List Nat→List Nat→List Nat
 | [],acc=>acc
 | i::l,acc=>mw T l (oI T[i]? acc)
def oT (m:Nat)(ids:List Nat):Ob→Ob
 | .box cs=> .box (cs.map (nM m ids))
 | ob=>ob
def inL (a:Nat):List Nat→Prop
 | []=>False
 | b::l=>a=b∨inL a l
theorem P0 {a:Nat}:∀{l:List Nat},inL a l→a∈l
 | b::l,h=>by
  rcases h with rfl | h
  ·simp
  ·exact List.mem_cons_of_mem _ (P0 h)
def vk (all:List Nat):List Nat→Prop
 | []=>True
 | a::l=>inL a all∧vk all l
theorem F5 {all:List Nat}:∀{l:List Nat},vk all l→∀a∈l,a∈all
 | b::l,h,a,ha=>by
  rcases List.mem_cons.1 ha with rfl | ha
  ·exact P0 h.1
  ·exact F5 h.2 a ha
def EK:Ob→List Nat
 | .box cs=>cs.flatMap jC
 | _=> []
def yB (T:aj)(all:List Nat):List Nat→(aj→Prop)→Prop
 | [],k=>k []
 | i::l,k=>bu T[i]? fun x=>bu x fun ob=>vk all (EK ob)∧yB T all l fun os=>k (some (oT T.length all ob)::os)
def aaN (T:aj)(ids:List Nat)(e:List (Nat × DV))(K:Nat→St→Prop):Prop:=yB T ids ids fun os=>K T.length ⟨HN T.length ids e,List.replicate T.length none++os⟩
def YP (st:St)(K:Nat→St→Prop):Prop:=aaN st.ay (mw st.ay (nI st.env []) (nI st.env [])) st.env K
theorem w9 {a x:Nat}:∀{l:List Nat},x∈oV a l↔x=a∨x∈l
 | []=>by simp [oV]
 | b::l=>by
  simp only [oV]
  split
  ·rename_i h;subst h;simp
  ·rw [List.mem_cons,w9 (l:=l),List.mem_cons];grind
theorem yc {a:Nat}:∀{l:List Nat},l.Nodup→(oV a l).Nodup
 | [],_=>by simp [oV]
 | b::l,h=>by
  simp only [oV]
  split
  ·exact h
  ·rename_i hab
   have h2:=List.nodup_cons.1 h
   refine List.nodup_cons.2 ⟨fun hm=>?_,yc h2.2⟩
   rcases w9.1 hm with e | e
   ·exact hab e.symm
   ·exact h2.1 e
theorem tf {x:Nat}:∀{l acc:List Nat},x∈lp l acc↔x∈l∨x∈acc
 | [],acc=>by simp [lp]
 | a::l,acc=>by
  simp only [lp]
  rw [tf (l:=l),w9,List.mem_cons];grind
theorem oA:∀{l acc:List Nat},acc.Nodup→(lp l acc).Nodup
 | [],acc,h=>h
 | a::l,acc,h=>oA (l:=l) (yc h)
theorem J7 {x:Nat}:∀{e:List (Nat × DV)} {acc:List Nat},x∈nI e acc↔(∃y∈e,x∈dV y.2)∨x∈acc
 | [],acc=>by simp [nI]
 | (t,d)::e,acc=>by
  simp only [nI]
  rw [J7 (e:=e),tf]
  simp only [List.mem_cons]
  grind
theorem Ba:∀{e:List (Nat × DV)} {acc:List Nat},acc.Nodup→(nI e acc).Nodup
 | [],acc,h=>h
 | (t,d)::e,acc,h=>Ba (e:=e) (oA h)
theorem Ns {x:Nat}{o:Option (Option Ob)}{acc:List Nat}(h:x∈acc):x∈oI o acc:=by
 unfold oI
 split
 ·exact tf.2 (.inr h)
 ·exact h
theorem Hy {o:Option (Option Ob)}{acc:List Nat}(h:acc.Nodup):(oI o acc).Nodup:=by
 unfold oI
 split
 ·exact oA h
 ·exact h
theorem Bm {T:aj}{x:Nat}:∀{l acc:List Nat},x∈acc→x∈mw T l acc
 | [],acc,h=>h
 | i::l,acc,h=>Bm (l:=l) (Ns h)
theorem uF {T:aj}:∀{l acc:List Nat},acc.Nodup→(mw T l acc).Nodup
 | [],acc,h=>h
 | i::l,acc,h=>uF (l:=l) (Hy h)
theorem wY {a:Nat}:∀{l:List Nat} {i j:Nat},l.Nodup→l[i]?=some a→l[j]?=some a→i=j
 | [],i,j,_,h,_=>by simp at h
 | b::l,i,j,hn,h1,h2=>by
  have hn2:=List.nodup_cons.1 hn
  rcases i with _ | i <;> rcases j with _ | j
  ·rfl
  ·simp at h1 h2;subst h1;exact absurd (List.mem_of_getElem? h2) hn2.1
  ·simp at h1 h2;subst h2;exact absurd (List.mem_of_getElem? h1) hn2.1
  ·have:=wY hn2.2 (i:=i) (j:=j) (by simpa using h1) (by simpa using h2)
   omega
theorem Cc {T:aj}{all:List Nat}:∀{ids:List Nat} {K:aj→Prop},yB T all ids K→∃os,K os∧os.length=ids.length∧∀(k:Nat) (ob':Ob),os[k]?=some (some ob')→∃o ob,ids[k]?=some o∧T[o]?=some (some ob)∧ob'=oT T.length all ob∧vk all (EK ob)
 | [],K,h=>⟨[],h,rfl,by simp⟩
 | i::l,K,h=>by
  simp only [yB] at h
  cases h1:T[i]? with
  | none=>rw [h1] at h;exact h.elim
  | some x=>
   rw [h1] at h
   cases x with
   | none=>exact h.elim
   | some ob=>
    obtain ⟨h0,h⟩:=h
    obtain ⟨os,h2,h3,h4⟩:=Cc h
    refine ⟨some (oT T.length all ob)::os,h2,by simp [h3],fun k ob' hk=>?_⟩
    rcases k with _ | k
    ·simp at hk;subst hk;exact ⟨i,ob,rfl,h1,rfl,h0⟩
    ·exact h4 k ob' (by simpa using hk)
section
variable {G G':Gh} {m:Nat} {ids:List Nat} (hle:G.le G') (hpl:∀o p,o∈ids→G.pl o=some p→G'.pl (m+pos o ids)=some p)
include hle hpl
theorem ia {d:DV}{v:Value}(h:∀o∈jC d,o∈ids)(r:Rel G d v):Rel G' (nM m ids d) v:=by
 cases r with
 | own o off n pl p c h1 h2 h3 h4=>exact .own _ off n pl p c (hpl o pl (h o (by simp [jC])) h1) h2 h3 h4
 | ptr o i j pl h1=>exact .ptr _ i j pl (hpl o pl (h o (by simp [jC])) h1)
 | undef v=>exact (Rel.undef v).mono hle
 | int k n=>exact .int k n
 | bool b=>exact .bool b
 | str s=>exact .str s
 | lit v=>exact .lit v
 | agg cs vs h1 h2=>exact (Rel.agg cs vs h1 h2).mono hle
 | tup cs vs h1 h2=>exact (Rel.tup cs vs h1 h2).mono hle
 | sl sz rows k p len cap b o vals h1 h2 h3 h4 h5 h6 h7=>exact (Rel.sl sz rows k p len cap b o vals h1 h2 h3 h4 h5 h6 h7).mono hle
 | rp row j b o vals h1 h2=>exact (Rel.rp row j b o vals h1 h2).mono hle
 | ifc t d v h1=>exact (Rel.ifc t d v h1).mono hle
 | ifa t cs vs h1 h2=>exact (Rel.ifa t cs vs h1 h2).mono hle
 | clo g cs vs h1 h2=>exact (Rel.clo g cs vs h1 h2).mono hle
theorem pZ {d:DV}{v:Value}(h:∀o∈oE d,o∈ids)(r:Rel G d v):Rel G' (p9 m ids d) v:=by
 cases r with
 | agg cs vs h1 h2=>
  refine .agg _ vs (by simpa using h1) fun i c hc=>?_
  rw [List.getElem?_map,Option.map_eq_some_iff] at hc
  obtain ⟨c0,h3,rfl⟩:=hc
  exact ia hle hpl (fun o ho=>h o (List.mem_flatMap.2 ⟨c0,List.mem_of_getElem? h3,ho⟩)) (h2 i c0 h3)
 | own o off n pl p c h1 h2 h3 h4=>exact ia (d:=.own o off n) hle hpl h (.own o off n pl p c h1 h2 h3 h4)
 | ptr o i j pl h1=>exact ia (d:=.ptr o i j) hle hpl h (.ptr o i j pl h1)
 | undef v=>exact ia (d:=.undef) hle hpl h (.undef v)
 | int k n=>exact .int k n
 | bool b=>exact .bool b
 | str s=>exact .str s
 | lit v=>exact .lit v
 | tup cs vs h1 h2=>exact (Rel.tup cs vs h1 h2).mono hle
 | sl sz rows k p len cap b o vals h1 h2 h3 h4 h5 h6 h7=>exact (Rel.sl sz rows k p len cap b o vals h1 h2 h3 h4 h5 h6 h7).mono hle
 | rp row j b o vals h1 h2=>exact (Rel.rp row j b o vals h1 h2).mono hle
 | ifc t d v h1=>exact .ifc t _ v (ia hle hpl (fun o ho=>h o (by simpa [oE] using ho)) h1)
 | ifa t cs vs h1 h2=>
  refine .ifa t _ vs (by simpa using h1) fun i c hc=>?_
  rw [List.getElem?_map,Option.map_eq_some_iff] at hc
  obtain ⟨c0,h3,rfl⟩:=hc
  exact ia hle hpl (fun o ho=>h o (List.mem_flatMap.2 ⟨c0,List.mem_of_getElem? h3,ho⟩)) (h2 i c0 h3)
 | clo g cs vs h1 h2=>
  refine .clo g _ vs (by simpa using h1) fun i c hc=>?_
  rw [List.getElem?_map,Option.map_eq_some_iff] at hc
  obtain ⟨c0,h3,rfl⟩:=hc
  exact ia hle hpl (fun o ho=>h o (List.mem_flatMap.2 ⟨c0,List.mem_of_getElem? h3,ho⟩)) (h2 i c0 h3)
theorem Ls {d:DV}{v:Value}(h:∀o∈dV d,o∈ids)(r:Rel G d v):Rel G' (ld m ids d) v:=by
 cases r with
 | tup cs vs h1 h2=>
  refine .tup _ vs (by simpa using h1) fun i c hc=>?_
  rw [List.getElem?_map,Option.map_eq_some_iff] at hc
  obtain ⟨c0,h3,rfl⟩:=hc
  exact pZ hle hpl (fun o ho=>h o (List.mem_flatMap.2 ⟨c0,List.mem_of_getElem? h3,ho⟩)) (h2 i c0 h3)
 | agg cs vs h1 h2=>exact pZ (d:=.agg cs) hle hpl h (.agg cs vs h1 h2)
 | own o off n pl p c h1 h2 h3 h4=>exact ia (d:=.own o off n) hle hpl h (.own o off n pl p c h1 h2 h3 h4)
 | ptr o i j pl h1=>exact ia (d:=.ptr o i j) hle hpl h (.ptr o i j pl h1)
 | undef v=>exact ia (d:=.undef) hle hpl h (.undef v)
 | int k n=>exact .int k n
 | bool b=>exact .bool b
 | str s=>exact .str s
 | lit v=>exact .lit v
 | sl sz rows k p len cap b o vals h1 h2 h3 h4 h5 h6 h7=>exact (Rel.sl sz rows k p len cap b o vals h1 h2 h3 h4 h5 h6 h7).mono hle
 | rp row j b o vals h1 h2=>exact (Rel.rp row j b o vals h1 h2).mono hle
 | ifc t d v h1=>exact pZ (d:=.wrap (.ifc t) [d]) hle hpl h (.ifc t d v h1)
 | ifa t cs vs h1 h2=>exact pZ (d:=.wrap (.ifa t) cs) hle hpl h (.ifa t cs vs h1 h2)
 | clo g cs vs h1 h2=>exact pZ (d:=.wrap (.clo g) cs) hle hpl h (.clo g cs vs h1 h2)
end
theorem Q5 (m:Nat)(ids:List Nat):∀e:List (Nat × DV),HN m ids e=e.map fun x=>(x.1,ld m ids x.2)
 | []=>rfl
 | (t,d)::l=>by simp [HN,Q5 m ids l]
theorem NN {G G':Gh}{m:Nat}{ids:List Nat}{w:World}{p:Place}{ob:Ob}(hle:G.le G')(hpl:∀o p,o∈ids→G.pl o=some p→G'.pl (m+pos o ids)=some p)
  (hb:∀cs,ob=.box cs→∀c∈cs,∀o∈jC c,o∈ids) (hl:gE G w p ob):gE G' w p (oT m ids ob):=by
 cases ob with
 | arr sz rows=>exact hl.mono hle (fun _ _=>rfl) (fun _ _=>rfl) (fun _ h=>h)
 | box cs=>
  refine ⟨by have:=hl.psz;simpa [oT,Ob.sz] using this,by have:=hl.fits;simpa [oT,Ob.rows] using this,fun row hrow=>?_,hl.there,fun i j row c v hi hj hv=>?_,hl.mko⟩
  ·have:=hl.size cs (by simp [Ob.rows])
   simp [Ob.rows,oT] at hrow
   subst hrow
   simpa using this
  ·simp only [Ob.rows,oT] at hi
   rcases i with _ | i
   ·simp at hi
    subst hi
    rw [List.getElem?_map,Option.map_eq_some_iff] at hj
    obtain ⟨c0,h1,rfl⟩:=hj
    exact ia hle hpl (hb cs rfl c0 (List.mem_of_getElem? h1)) (hl.holds 0 j cs c0 v rfl h1 hv)
   ·simp at hi
theorem Cb {E:Prg}{C:Ctx}{st:St}{a:Act}{w:World}{K:Nat→St→Prop}(h:dQ E C st a w)(hk:YP st K):∃st',K st.ay.length st'∧dQ E C st' a w:=by
 obtain ⟨G,hr⟩:=h
 obtain ⟨os,hK,hlen,hos⟩:=Cc hk
 refine ⟨_,hK, ?_⟩
 have hnd:(mw st.ay (nI st.env []) (nI st.env [])).Nodup:=uF (Ba List.nodup_nil)
 have hsub:∀x,x∈nI st.env []→x∈mw st.ay (nI st.env []) (nI st.env []):=fun x hx=>Bm hx
 have hold:∀t,∀o∈dV (St.look t st.env),o∈nI st.env []:=fun t o ho=>by
  rcases Bp t st.env with h1 | h1
  ·rw [h1] at ho;simp [dV,oE,jC] at ho
  ·exact J7.2 (.inl ⟨_,h1,ho⟩)
 generalize abR:mw st.ay (nI st.env []) (nI st.env [])=ids at *
 let G':Gh:={ rd:=G.rd,pl:=fun x=>if x<st.ay.length then G.pl x else match ids[x-st.ay.length]? with | some o=>G.pl o | none=>none}
 have hle:G.le G':=⟨fun _ _ h=>h,fun k p h=>by
  have:=hr.heap.pls k p h
  simp only [G']
  rw [if_pos this];exact h⟩
 have hpl:∀o p,o∈ids→G.pl o=some p→G'.pl (st.ay.length+pos o ids)=some p:=fun o p ho hp=>by
  simp only [G']
  rw [if_neg (by omega),Nat.add_sub_cancel_left,lG ho]
  exact hp
 have hnew:∀(k:Nat) (ob':Ob),(List.replicate st.ay.length none++os)[k]?=some (some ob')→st.ay.length≤k∧∃o ob,ids[k-st.ay.length]?=some o∧st.ay[o]?=some (some ob)∧ob'=oT st.ay.length ids ob∧vk ids (EK ob)∧G'.pl k=G.pl o:=fun k ob' h=>by
  by_cases hk:k<st.ay.length
  ·rw [List.getElem?_append_left (by simpa using hk),List.getElem?_replicate,if_pos hk] at h
   cases h
  ·rw [List.getElem?_append_right (by simpa using hk)] at h
   simp only [List.length_replicate] at h
   obtain ⟨o,ob,h1,h2,h3,h4⟩:=hos _ _ h
   refine ⟨by omega,o,ob,h1,h2,h3,h4, ?_⟩
   simp only [G']
   rw [if_neg hk,h1]
 refine ⟨G',⟨fun t=>?_,hr.num,hr.defs,⟨fun k p hp=>?_,fun k ob hob=>?_, ?_,hr.heap.rdv, ?_⟩, ?_,fun g row hg=>(hr.oY g row hg).mono hle⟩⟩
 ·show Rel G' (St.look t (HN st.ay.length ids st.env)) _
  rw [Q5,St.uM (ld st.ay.length ids) rfl]
  exact Ls hle hpl (fun o ho=>hsub _ (hold t o ho)) (hr.env t)
 ·simp only [G'] at hp
  simp only [List.length_append,List.length_replicate,hlen]
  split at hp
  ·omega
  ·split at hp
   ·rename_i o ho
    have:=(List.getElem?_eq_some_iff.1 ho).1
    omega
   ·cases hp
 ·obtain ⟨_,o,ob0,_,h2,rfl,h3,h4⟩:=hnew k ob hob
  obtain ⟨p,hp,hl⟩:=hr.heap.live o ob0 h2
  refine ⟨p,h4.trans hp,NN hle hpl (fun cs e c hc x hx=>?_) hl⟩
  subst e
  exact F5 h3 x (List.mem_flatMap.2 ⟨c,hc,hx⟩)
 ·intro k k' r r' p p' i i' h1 h2 hne hp hp' hi hi'
  obtain ⟨k1,o,ob0,k2,k3,_,_,k4⟩:=hnew k r h1
  obtain ⟨l1,o',acF,l2,l3,_,_,l4⟩:=hnew k' r' h2
  refine hr.heap.sep o o' ob0 acF p p' i i' k3 l3 (fun e=>?_) (k4.symm.trans hp) (l4.symm.trans hp') hi hi'
  subst e
  have:=wY hnd k2 l2
  omega
 ·intro k r p i hk hp hi
  obtain ⟨_,o,ob0,_,h2,_,_,h3⟩:=hnew k r hk
  exact hr.heap.rds o ob0 p i h2 (h3.symm.trans hp) hi
 ·refine ⟨hr.frm.os,hr.frm.tape,hr.frm.output,hr.frm.size,hr.frm.blk,hr.frm.cell,hr.frm.frz,fun k r p i hk hp hi=>?_,hr.frm.rdn,hr.frm.le.trans hle,hr.frm.mko⟩
  obtain ⟨_,o,ob0,_,h2,_,_,h3⟩:=hnew k r hk
  exact hr.frm.mine o ob0 p i h2 (h3.symm.trans hp) hi
theorem bp.abG {E : Prg} {F : dz} (hF : FOk E F) {n : Nat} {b : RC} {Q : Exit → St → Prop} {st : St} {σ : Type} (S : Nat → σ → St) (I : σ → Prop) (μ : σ → Nat) (n0 : Nat) (s0 : σ) (h0 : I s0)
    (hw : n0 ≤ st.ay.length ∧ YP st fun m st' => st'.wk (S m s0))
    (round : ∀ m s, n0 ≤ m → I s → b.wp E F n (fun e st' => match e with
      | .normal => n0 ≤ st'.ay.length ∧ YP st' fun m abr => ∃ s', abr.wk (S m s') ∧ I s' ∧ μ s' < μ s
      | e => Q e st') (S m s)) : bp E n b Q st := by
  intro c ann hc C a w hn hr
  let J : Act → World → Nat → Prop := fun a w k => ∃ m s, n0 ≤ m ∧ I s ∧ dQ E C (S m s) a w ∧ μ s = k
  have hex : ∀ a w, (∃ m, J a w m) → ∃ m, J a w m ∧ ∀ k, J a w k → m ≤ k := fun a w ⟨m, hm⟩ => u9 _ m hm
  open Classical in
  let f : Act → World → Nat := fun a w => if h : ∃ m, J a w m then Classical.choose (hex a w h) else 0
  have hf : ∀ a w, (∃ m, J a w m) → J a w (f a w) ∧ ∀ k, J a w k → f a w ≤ k := fun a w h => by
    simp only [f, dif_pos h]
    exact Classical.choose_spec (hex a w h)
  have hstart : ∃ m, J a w m := by
    obtain ⟨st', h1, h2⟩ := Cb hr hw.2
    exact ⟨μ s0, st.ay.length, s0, hw.1, h0, h2.wk h1, rfl⟩
  refine wp_loop (fun a w => ∃ m, J a w m) f hstart (fun a w hJ => ?_)
  obtain ⟨⟨m, s, hm0, hI, hrs, hm⟩, hmin⟩ := hf a w hJ
  refine Code.wp_mono ?_ (RC.sound hF c ann b _ (S m s) hc (round m s hm0 hI) C a w hn hrs)
  rintro e a' w' ⟨st', h1, h2⟩
  cases e with
  | normal =>
    obtain ⟨abr, ⟨s', hw', hI', hlt⟩, h3⟩ := Cb h2 h1.2
    have hJ' : J a' w' (μ s') := ⟨_, s', h1.1, hI', h3.wk hw', rfl⟩
    refine ⟨⟨_, hJ'⟩, ?_⟩
    have := (hf a' w' ⟨_, hJ'⟩).2 _ hJ'
    omega
  | _ => exact ⟨st', h1, h2⟩
theorem bp.own {E:Prg}{n:Nat}{b:RC}{Q:Exit→St→Prop}{st:St}(t sz:Nat){s:Nat}{k:SK}(h:st.get t=.sl s [] k)(hk:k=.nil∨k=.zero)
  (h2:bp E n b Q ⟨St.rep t (.own st.ay.length 0 0) st.env,st.ay++ [some (.arr sz [])]⟩):bp E n b Q st:=by
 intro c ann hc C a w hn ⟨G,hr⟩
 have hr2:=hr.Bb sz
 refine h2 c ann hc C a w hn ⟨G.more st.ay.length ⟨0,0,sz,0⟩,⟨fun u=>?_,hr2.num,hr2.defs,hr2.heap,hr2.frm,hr2.oY⟩⟩
 by_cases e:u=t
 ·subst e
  have h3:Rel (G.more st.ay.length ⟨0,0,sz,0⟩) (st.get u) _:=hr2.env u
  rw [h] at h3
  have h4:St.look u (St.rep u (.own st.ay.length 0 0) st.env)=.own st.ay.length 0 0∨St.look u (St.rep u (.own st.ay.length 0 0) st.env)=.undef:=by
   clear h h2 hr hr2 h3
   induction st.env with
   | nil=>exact .inr rfl
   | cons x l ih=>
    obtain ⟨k,d⟩:=x
    simp only [St.rep]
    split
    ·rename_i e;simp [St.look]
    ·rename_i e;simp only [St.look];rw [if_neg e];exact ih
  show Rel _ (St.look u (St.rep u (.own st.ay.length 0 0) st.env)) _
  rcases h4 with h4 | h4
  ·rw [h4]
   generalize a.tmps.getD u Go.undef=v at h3
   cases h3 with
   | sl _ _ _ p len cap b' o vals h5 h6 h7 h8 _ _ _=>
    have hl:len=0:=by simpa using h5
    subst hl
    have hc0:cap=0:=by
     rcases hk with rfl | rfl
     ·exact h6.2
     ·exact h6
    subst hc0
    exact .own _ 0 0 ⟨0,0,sz,0⟩ p 0 (by simp [Gh.more]) rfl (Nat.le_refl _) (fun h=>by omega)
  ·rw [h4];exact .undef _
 ·have h3:St.look u (St.rep t (.own st.ay.length 0 0) st.env)=St.look u st.env:=by
   clear h h2 hr hr2
   induction st.env with
   | nil=>rfl
   | cons x l ih=>
    obtain ⟨k,d⟩:=x
    simp only [St.rep]
    split
    ·rename_i e2;subst e2;simp only [St.look];rw [if_neg (fun h=>e h.symm),if_neg (fun h=>e h.symm)]
    ·simp only [St.look];rw [ih]
  show Rel _ (St.look u (St.rep t (.own st.ay.length 0 0) st.env)) _
  rw [h3]
  exact hr2.env u
theorem A6 (n:Nat)(a b:aj):ff (List.replicate n none++a) (List.replicate n none++b)=ff a b:=by
 induction n with
 | zero=>rfl
 | succ n ih=>simp only [List.replicate_succ,List.cons_append,pQ,ih]
theorem F6 (a:Nat):oV a []=[a]:=au _
theorem CD (a b:Nat)(l:List Nat):oV a (b::l)=if a=b then b::l else b::oV a l:=au _
theorem CC (acc:List Nat):lp [] acc=acc:=au _
theorem yJ (a:Nat)(l acc:List Nat):lp (a::l) acc=lp l (oV a acc):=au _
theorem Ko (acc:List Nat):nI [] acc=acc:=au _
theorem E7 (t:Nat)(d:DV)(l:List (Nat × DV))(acc:List Nat):nI ((t,d)::l) acc=nI l (lp (dV d) acc):=au _
theorem Lx (m:Nat)(ids:List Nat):HN m ids []=[]:=au _
theorem FO (m:Nat)(ids:List Nat)(t:Nat)(d:DV)(l:List (Nat × DV)):HN m ids ((t,d)::l)=(t,ld m ids d)::HN m ids l:=au _
theorem FN (T:aj)(all:List Nat)(k:aj→Prop):yB T all [] k=k []:=au _
theorem B0 (T:aj)(acc:List Nat):mw T [] acc=acc:=au _
theorem yz (T:aj)(i:Nat)(l acc:List Nat):mw T (i::l) acc=mw T l (oI T[i]? acc):=au _
theorem Cj (cs:List DV)(acc:List Nat):oI (some (some (.box cs))) acc=lp (cs.flatMap jC) acc:=au _
theorem Ck (sz:Nat)(rows:List (List DV))(acc:List Nat):oI (some (some (.arr sz rows))) acc=acc:=au _
theorem yE (acc:List Nat):oI (some none) acc=acc:=au _
theorem FK (m:Nat)(ids:List Nat)(cs:List DV):oT m ids (.box cs)=.box (cs.map (nM m ids)):=au _
theorem FM (m:Nat)(ids:List Nat)(sz:Nat)(rows:List (List DV)):oT m ids (.arr sz rows)=.arr sz rows:=au _
theorem Cd (T:aj)(all:List Nat)(i:Nat)(l:List Nat)(k:aj→Prop):yB T all (i::l) k=(bu T[i]? fun x=>bu x fun ob=>vk all (EK ob)∧yB T all l fun os=>k (some (oT T.length all ob)::os)):=au _
theorem PZ (a:Nat):inL a []=False:=au _
theorem Kh (a b:Nat)(l:List Nat):inL a (b::l)=(a=b∨inL a l):=au _
theorem F4 (all:List Nat):vk all []=True:=au _
theorem CA (all:List Nat)(a:Nat)(l:List Nat):vk all (a::l)=(inL a all∧vk all l):=au _
theorem EI (cs:List DV):EK (.box cs)=cs.flatMap jC:=au _
theorem EJ (sz:Nat)(rows:List (List DV)):EK (.arr sz rows)=[]:=au _
theorem Q4 (T:aj)(ids:List Nat)(e:List (Nat × DV))(K:Nat→St→Prop):aaN T ids e K=yB T ids ids fun os=>K T.length ⟨HN T.length ids e,List.replicate T.length none++os⟩:=au _
theorem Q3 (e:List (Nat × DV))(T:aj)(K:Nat→St→Prop):YP ⟨e,T⟩ K=aaN T (mw T (nI e []) (nI e [])) e K:=au _
theorem Qh (row:List DV)(j:Nat):dV (.rp row j)=[]:=au _
theorem By:dV .undef=[]:=au _
theorem Q2 (m:Nat)(ids:List Nat)(row:List DV)(j:Nat):ld m ids (.rp row j)=.rp row j:=au _
end
theorem KX (o sz:Nat)(rows:List (List DV))(k:IntKind)(n:Int):DV.pW o sz rows (.int k n)=.int k n:=au _
theorem Fe (o sz:Nat)(rows:List (List DV))(b:Bool):DV.pW o sz rows (.bool b)=.bool b:=au _
theorem KU (o sz:Nat)(rows:List (List DV))(s:List UInt8):DV.pW o sz rows (.str s)=.str s:=au _
theorem Qy (o sz:Nat)(rows:List (List DV))(s:Nat)(r:List (List DV))(k:SK):DV.pW o sz rows (.sl s r k)=.sl s r k:=au _
theorem KW (o sz:Nat)(rows:List (List DV))(o' off n:Nat):DV.pW o sz rows (.own o' off n)=DV.hO o sz rows (.own o' off n):=au _
theorem KV (o sz:Nat)(rows:List (List DV))(o' i j:Nat):DV.pW o sz rows (.ptr o' i j)=.ptr o' i j:=au _
theorem Qz (o sz:Nat)(rows:List (List DV))(r:List DV)(j:Nat):DV.pW o sz rows (.rp r j)=.rp r j:=au _
theorem BL (o sz:Nat)(rows:List (List DV)):DV.pW o sz rows .undef=.undef:=au _
theorem KY (o sz:Nat)(rows:List (List DV))(cs:List DV):DV.pW o sz rows (.agg cs)=.agg (cs.map (DV.hO o sz rows)):=au _
theorem abh:type_of% (
 And.intro @B0 <| And.intro @yz <| And.intro @Cj <| And.intro @Ck <| And.intro @yE <| And.intro @FK <| And.intro @FM <| And.intro @PZ <| And.intro @Kh <| And.intro @F4 <| And.intro @CA <| And.intro @EI <| And.intro @EJ <| And.intro @Zu <| And.intro @Zv <| And.intro @KX <| And.intro @Fe <| And.intro @KU <| And.intro @Qy <| And.intro @KW <| And.intro @KV <| And.intro @Qz <| And.intro @BL <| @KY):=
 And.intro @B0 <| And.intro @yz <| And.intro @Cj <| And.intro @Ck <| And.intro @yE <| And.intro @FK <| And.intro @FM <| And.intro @PZ <| And.intro @Kh <| And.intro @F4 <| And.intro @CA <| And.intro @EI <| And.intro @EJ <| And.intro @Zu <| And.intro @Zv <| And.intro @KX <| And.intro @Fe <| And.intro @KU <| And.intro @Qy <| And.intro @KW <| And.intro @KV <| And.intro @Qz <| And.intro @BL <| @KY
theorem abn:type_of% (
 And.intro @Po <| And.intro @Pn <| And.intro @Pm <| And.intro @abv <| And.intro @abw <| And.intro @ab8 <| And.intro @ab9 <| And.intro @VO <| And.intro @JG <| And.intro @JH <| And.intro @PW <|
 And.intro @PU <| And.intro @PV <| And.intro @V1 <| And.intro @abF <| And.intro @abE <| And.intro @abD <| And.intro @QI <| And.intro @QH <| And.intro @O5 <| And.intro @IZ <| And.intro @Pf <|
 And.intro @El <| And.intro @Ek <| And.intro @Ef <| And.intro @I3 <| And.intro @Ec <| And.intro @Ee <| And.intro @Pg <| And.intro @Pe <| And.intro @Ej <| And.intro @Up <|
 And.intro @O8 <| And.intro @Ph <| And.intro @O4 <| And.intro @O3 <| And.intro @O6 <| And.intro @Ed <| And.intro @ER <| And.intro @EP <| And.intro @Aj <| And.intro @Ei <|
 And.intro @O9 <| And.intro @Eh <| And.intro @Ak <| And.intro @I5 <| And.intro @Pb <| And.intro @O7 <| And.intro @I4 <| And.intro @Al <| And.intro @Uq <| And.intro @xM <|
 And.intro @Em <| And.intro @Aq <| And.intro @Ap <| And.intro @Qs <| And.intro @Fh <| And.intro @KT <| And.intro @yp <| @uS):=
 And.intro @Po <| And.intro @Pn <| And.intro @Pm <| And.intro @abv <| And.intro @abw <| And.intro @ab8 <| And.intro @ab9 <| And.intro @VO <| And.intro @JG <| And.intro @JH <| And.intro @PW <|
 And.intro @PU <| And.intro @PV <| And.intro @V1 <| And.intro @abF <| And.intro @abE <| And.intro @abD <| And.intro @QI <| And.intro @QH <| And.intro @O5 <| And.intro @IZ <| And.intro @Pf <|
 And.intro @El <| And.intro @Ek <| And.intro @Ef <| And.intro @I3 <| And.intro @Ec <| And.intro @Ee <| And.intro @Pg <| And.intro @Pe <| And.intro @Ej <| And.intro @Up <|
 And.intro @O8 <| And.intro @Ph <| And.intro @O4 <| And.intro @O3 <| And.intro @O6 <| And.intro @Ed <| And.intro @ER <| And.intro @EP <| And.intro @Aj <| And.intro @Ei <|
 And.intro @O9 <| And.intro @Eh <| And.intro @Ak <| And.intro @I5 <| And.intro @Pb <| And.intro @O7 <| And.intro @I4 <| And.intro @Al <| And.intro @Uq <| And.intro @xM <|
 And.intro @Em <| And.intro @Aq <| And.intro @Ap <| And.intro @Qs <| And.intro @Fh <| And.intro @KT <| And.intro @yp <| @uS
theorem abm:type_of% (
 And.intro @Ka <| And.intro @EW <| And.intro @PY <| And.intro @Ke <| And.intro @Pp <| And.intro @Jk <| And.intro @J8 <| And.intro @EU <| And.intro @Ld <| And.intro @Fu <|
 And.intro @Ci <| And.intro @yD <| And.intro @Bd <| And.intro @ye <| And.intro @L1 <| And.intro @LN <| And.intro @LU <| And.intro @LR <| And.intro @LQ <|
 And.intro @L0 <| And.intro @Rd <| And.intro @LM <| And.intro @yG <| And.intro @LZ <| And.intro @LS <| And.intro @LV <| And.intro @LW <| And.intro @LX <| And.intro @LY <|
 And.intro @LP <| And.intro @LO <| And.intro @L8 <| And.intro @L7 <| And.intro @L2 <| And.intro @L3 <| And.intro @L4 <| And.intro @L5 <| And.intro @L6 <| And.intro @IA <|
 And.intro @Iy <| And.intro @Iz <| And.intro @JV <| And.intro @yd <| And.intro @JW <| And.intro @EN <| And.intro @FH <| And.intro @PI <| And.intro @B6 <| And.intro @JS <|
 And.intro @FC <| And.intro @PD <| And.intro @Lo <| And.intro @UU <| And.intro @FE <| And.intro @PF <| And.intro @FD <| And.intro @PE <| And.intro @Lp <| And.intro @UW <| @FI):=
 And.intro @Ka <| And.intro @EW <| And.intro @PY <| And.intro @Ke <| And.intro @Pp <| And.intro @Jk <| And.intro @J8 <| And.intro @EU <| And.intro @Ld <| And.intro @Fu <|
 And.intro @Ci <| And.intro @yD <| And.intro @Bd <| And.intro @ye <| And.intro @L1 <| And.intro @LN <| And.intro @LU <| And.intro @LR <| And.intro @LQ <|
 And.intro @L0 <| And.intro @Rd <| And.intro @LM <| And.intro @yG <| And.intro @LZ <| And.intro @LS <| And.intro @LV <| And.intro @LW <| And.intro @LX <| And.intro @LY <|
 And.intro @LP <| And.intro @LO <| And.intro @L8 <| And.intro @L7 <| And.intro @L2 <| And.intro @L3 <| And.intro @L4 <| And.intro @L5 <| And.intro @L6 <| And.intro @IA <|
 And.intro @Iy <| And.intro @Iz <| And.intro @JV <| And.intro @yd <| And.intro @JW <| And.intro @EN <| And.intro @FH <| And.intro @PI <| And.intro @B6 <| And.intro @JS <|
 And.intro @FC <| And.intro @PD <| And.intro @Lo <| And.intro @UU <| And.intro @FE <| And.intro @PF <| And.intro @FD <| And.intro @PE <| And.intro @Lp <| And.intro @UW <| @FI
theorem abl:type_of% (
 And.intro @Pj <| And.intro @Gw <| And.intro @En <| And.intro @Jc <| And.intro @Jd <| And.intro @Af <| And.intro @Ag <| And.intro @yw <| And.intro @uY <|
 And.intro @AZ <| And.intro @ED <| And.intro @A1 <| And.intro @JO <| And.intro @JP <| And.intro @K2 <| And.intro @KR <| And.intro @EC <| And.intro @Ff <| And.intro @Fb <|
 And.intro @JL <| And.intro @KZ <| And.intro @KO <| And.intro @Py <| And.intro @QA <| And.intro @Qu <| And.intro @JM <| And.intro @K0 <| And.intro @KP <| And.intro @Pz <|
 And.intro @QB <| And.intro @Qv <| And.intro @JN <| And.intro @K1 <| And.intro @KQ <| And.intro @BK <| And.intro @KS <| And.intro @KN <| And.intro @EG <| And.intro @EH <|
 And.intro @Kx <| And.intro @Ks <| And.intro @Km <| And.intro @LJ <| And.intro @LB <| And.intro @Lv <| And.intro @Q0 <| And.intro @QV <| And.intro @QN <| And.intro @E9 <|
 And.intro @E8 <| And.intro @E6 <| And.intro @FQ <| And.intro @FP <| And.intro @FJ <| And.intro @Ln <| And.intro @Lm <| And.intro @Li <| And.intro @Ku <| And.intro @Kp <|
 @Kj):=
 And.intro @Pj <| And.intro @Gw <| And.intro @En <| And.intro @Jc <| And.intro @Jd <| And.intro @Af <| And.intro @Ag <| And.intro @yw <| And.intro @uY <|
 And.intro @AZ <| And.intro @ED <| And.intro @A1 <| And.intro @JO <| And.intro @JP <| And.intro @K2 <| And.intro @KR <| And.intro @EC <| And.intro @Ff <| And.intro @Fb <|
 And.intro @JL <| And.intro @KZ <| And.intro @KO <| And.intro @Py <| And.intro @QA <| And.intro @Qu <| And.intro @JM <| And.intro @K0 <| And.intro @KP <| And.intro @Pz <|
 And.intro @QB <| And.intro @Qv <| And.intro @JN <| And.intro @K1 <| And.intro @KQ <| And.intro @BK <| And.intro @KS <| And.intro @KN <| And.intro @EG <| And.intro @EH <|
 And.intro @Kx <| And.intro @Ks <| And.intro @Km <| And.intro @LJ <| And.intro @LB <| And.intro @Lv <| And.intro @Q0 <| And.intro @QV <| And.intro @QN <| And.intro @E9 <|
 And.intro @E8 <| And.intro @E6 <| And.intro @FQ <| And.intro @FP <| And.intro @FJ <| And.intro @Ln <| And.intro @Lm <| And.intro @Li <| And.intro @Ku <| And.intro @Kp <|
 @Kj
theorem abk:type_of% (
 And.intro @LF <| And.intro @Ly <| And.intro @Lr <| And.intro @QX <| And.intro @QS <| And.intro @QK <| And.intro @Qj <| And.intro @Qi <| And.intro @Qg <| And.intro @Q7 <|
 And.intro @Q6 <| And.intro @Q1 <| And.intro @Wd <| And.intro @Wc <| And.intro @Wb <| And.intro @Kw <| And.intro @Kr <| And.intro @Kl <| And.intro @LI <| And.intro @LA <|
 And.intro @Lu <| And.intro @QZ <| And.intro @QU <| And.intro @QM <| And.intro @Kv <| And.intro @Kq <| And.intro @Kk <| And.intro @LH <| And.intro @Lz <| And.intro @Lt <|
 And.intro @QY <| And.intro @QT <| And.intro @QL <| And.intro @Kt <| And.intro @Kn <| And.intro @Ki <| And.intro @LC <| And.intro @Lw <| And.intro @Lq <| And.intro @QW <|
 And.intro @QO <| And.intro @QJ <| And.intro @Px <| And.intro @JJ <| And.intro @Ll <| And.intro @Lj <| And.intro @Fa <| And.intro @BC <| And.intro @Pk <| And.intro @sB <|
 And.intro @sC <| And.intro @sA <| And.intro @Gf <| And.intro @CW <| And.intro @Ge <| And.intro @Y5 <| And.intro @Fq <| And.intro @BR <| And.intro @ya <| @A7):=
 And.intro @LF <| And.intro @Ly <| And.intro @Lr <| And.intro @QX <| And.intro @QS <| And.intro @QK <| And.intro @Qj <| And.intro @Qi <| And.intro @Qg <| And.intro @Q7 <|
 And.intro @Q6 <| And.intro @Q1 <| And.intro @Wd <| And.intro @Wc <| And.intro @Wb <| And.intro @Kw <| And.intro @Kr <| And.intro @Kl <| And.intro @LI <| And.intro @LA <|
 And.intro @Lu <| And.intro @QZ <| And.intro @QU <| And.intro @QM <| And.intro @Kv <| And.intro @Kq <| And.intro @Kk <| And.intro @LH <| And.intro @Lz <| And.intro @Lt <|
 And.intro @QY <| And.intro @QT <| And.intro @QL <| And.intro @Kt <| And.intro @Kn <| And.intro @Ki <| And.intro @LC <| And.intro @Lw <| And.intro @Lq <| And.intro @QW <|
 And.intro @QO <| And.intro @QJ <| And.intro @Px <| And.intro @JJ <| And.intro @Ll <| And.intro @Lj <| And.intro @Fa <| And.intro @BC <| And.intro @Pk <| And.intro @sB <|
 And.intro @sC <| And.intro @sA <| And.intro @Gf <| And.intro @CW <| And.intro @Ge <| And.intro @Y5 <| And.intro @Fq <| And.intro @BR <| And.intro @ya <| @A7
theorem abj:type_of% (
 And.intro @pQ <| And.intro @x9 <| And.intro @WN <| And.intro @N8 <| And.intro @Rn <| And.intro @N7 <| And.intro @Rm <| And.intro @gZ <| And.intro @kH <|
 And.intro @mo <| And.intro @bk <| And.intro @uQ <| And.intro @uR <| And.intro @mZ <| And.intro @gx <| And.intro @oD <| And.intro @aM <| And.intro @qV <|
 And.intro @Ma <| And.intro @F3 <| And.intro @JZ <| And.intro @EO <| And.intro @EM <| And.intro @A9 <| And.intro @zf <| And.intro @dj <| And.intro @Gj <| And.intro @dw <|
 And.intro @dm <| And.intro @cF <| And.intro @Tt <| And.intro @eU <| And.intro @eV <| And.intro @Oj <| And.intro @Oo <| And.intro @cV <| And.intro @Im <| And.intro @Io <|
 And.intro @Iq <| And.intro @Og <| And.intro @Ok <| And.intro @Oq <| And.intro @Oi <| And.intro @On <| And.intro @Ot <| And.intro @Oh <| And.intro @Om <| And.intro @rO <|
 And.intro @rN <| And.intro @yo <| And.intro @F6 <| And.intro @CD <| And.intro @CC <| And.intro @yJ <| And.intro @Ko <| And.intro @E7 <| And.intro @Lx <|
 And.intro @FO <| And.intro @Q4 <| @Q3):=
 And.intro @pQ <| And.intro @x9 <| And.intro @WN <| And.intro @N8 <| And.intro @Rn <| And.intro @N7 <| And.intro @Rm <| And.intro @gZ <| And.intro @kH <|
 And.intro @mo <| And.intro @bk <| And.intro @uQ <| And.intro @uR <| And.intro @mZ <| And.intro @gx <| And.intro @oD <| And.intro @aM <| And.intro @qV <|
 And.intro @Ma <| And.intro @F3 <| And.intro @JZ <| And.intro @EO <| And.intro @EM <| And.intro @A9 <| And.intro @zf <| And.intro @dj <| And.intro @Gj <| And.intro @dw <|
 And.intro @dm <| And.intro @cF <| And.intro @Tt <| And.intro @eU <| And.intro @eV <| And.intro @Oj <| And.intro @Oo <| And.intro @cV <| And.intro @Im <| And.intro @Io <|
 And.intro @Iq <| And.intro @Og <| And.intro @Ok <| And.intro @Oq <| And.intro @Oi <| And.intro @On <| And.intro @Ot <| And.intro @Oh <| And.intro @Om <| And.intro @rO <|
 And.intro @rN <| And.intro @yo <| And.intro @F6 <| And.intro @CD <| And.intro @CC <| And.intro @yJ <| And.intro @Ko <| And.intro @E7 <| And.intro @Lx <|
 And.intro @FO <| And.intro @Q4 <| @Q3
theorem abi:type_of% (
 And.intro @Qh <| And.intro @By <| And.intro @Q2 <| @A6):=
 And.intro @Qh <| And.intro @By <| And.intro @Q2 <| @A6
theorem an:type_of% (
 And.intro @EE <| And.intro @A4 <| And.intro @D5 <| And.intro @DZ <| And.intro @IU <| And.intro @OJ <| And.intro @IM <| And.intro @OW <| And.intro @D6 <| And.intro @IP <|
 And.intro @DW <| And.intro @DY <| And.intro @OX <| And.intro @OV <| And.intro @D4 <| And.intro @Ub <| And.intro @ON <| And.intro @OY <| And.intro @OI <| And.intro @OH <|
 And.intro @OK <| And.intro @DX <| And.intro @Aa <| And.intro @D3 <| And.intro @OQ <| And.intro @D2 <| And.intro @Ab <| And.intro @IS <| And.intro @OR <| And.intro @OL <|
 And.intro @IQ <| And.intro @Ad <| And.intro @Uc <| And.intro @xL <| And.intro @x8 <| And.intro @PC <| And.intro @UT <| And.intro @Ze <| And.intro @JR <| And.intro @PA <|
 And.intro @JQ <| And.intro @Pq <| And.intro @UE <| And.intro @Pr <| And.intro @UC <| And.intro @Pu <| And.intro @UG <| And.intro @Pt <| And.intro @UF <| And.intro @UD <| And.intro @Oz <|
 And.intro @Oy <| And.intro @OA <| And.intro @Qd <| And.intro @Qc <| And.intro @Qe <| And.intro @VX <| And.intro @VW <| And.intro @Ct <| @Cn):=
 And.intro @EE <| And.intro @A4 <| And.intro @D5 <| And.intro @DZ <| And.intro @IU <| And.intro @OJ <| And.intro @IM <| And.intro @OW <| And.intro @D6 <| And.intro @IP <|
 And.intro @DW <| And.intro @DY <| And.intro @OX <| And.intro @OV <| And.intro @D4 <| And.intro @Ub <| And.intro @ON <| And.intro @OY <| And.intro @OI <| And.intro @OH <|
 And.intro @OK <| And.intro @DX <| And.intro @Aa <| And.intro @D3 <| And.intro @OQ <| And.intro @D2 <| And.intro @Ab <| And.intro @IS <| And.intro @OR <| And.intro @OL <|
 And.intro @IQ <| And.intro @Ad <| And.intro @Uc <| And.intro @xL <| And.intro @x8 <| And.intro @PC <| And.intro @UT <| And.intro @Ze <| And.intro @JR <| And.intro @PA <|
 And.intro @JQ <| And.intro @Pq <| And.intro @UE <| And.intro @Pr <| And.intro @UC <| And.intro @Pu <| And.intro @UG <| And.intro @Pt <| And.intro @UF <| And.intro @UD <| And.intro @Oz <|
 And.intro @Oy <| And.intro @OA <| And.intro @Qd <| And.intro @Qc <| And.intro @Qe <| And.intro @VX <| And.intro @VW <| And.intro @Ct <| @Cn
theorem ak:type_of% (
 And.intro @Co <| And.intro @FU <| And.intro @Cr <| And.intro @FV <| And.intro @iN <| And.intro @gz <| And.intro @Cf <| And.intro @Q9 <| And.intro @Cs <| And.intro @LL <|
 And.intro @Cq <| And.intro @Cp <| And.intro @FN <| @Cd):=
 And.intro @Co <| And.intro @FU <| And.intro @Cr <| And.intro @FV <| And.intro @iN <| And.intro @gz <| And.intro @Cf <| And.intro @Q9 <| And.intro @Cs <| And.intro @LL <|
 And.intro @Cq <| And.intro @Cp <| And.intro @FN <| @Cd
theorem vcR:type_of% (And.intro @abn <| And.intro @abm <| And.intro @abl <| And.intro @abk <| And.intro @abj <| And.intro @abi <| And.intro @abh <| And.intro @Option.map_some.{0,0} <| And.intro @Option.map_none.{0,0} <| And.intro @Option.bind_some.{0,0} <| And.intro @Option.bind_none.{0,0} <| And.intro @beq_true <| And.intro @beq_false <| And.intro @Bool.not_true <| And.intro @Bool.not_false <| And.intro @BEq.rfl.{0} <| And.intro @Bool.true_beq <| And.intro @Bool.false_beq <| And.intro @and_true <| And.intro @true_and <| And.intro @and_self <| And.intro @decide_true <| And.intro @decide_false <| And.intro @List.length_cons.{0} <| And.intro @List.length_nil.{0} <| And.intro @List.all_cons.{0} <| And.intro @List.all_nil.{0} <| And.intro @Bool.and_true <| And.intro @Bool.and_self <| And.intro @List.getElem?_cons_zero.{0} <| And.intro @List.getElem?_cons_succ.{0} <| And.intro @List.set_cons_zero.{0} <| And.intro @List.set_cons_succ.{0} <| And.intro @List.nil_append.{0} <| And.intro @List.cons_append.{0} <| And.intro @List.append_nil.{0} <| And.intro @List.map_cons.{0,0} <| And.intro @List.map_nil.{0,0} <| And.intro @not_true_eq_false <| And.intro @not_false_eq_true <| And.intro @false_implies <| And.intro @true_implies <| And.intro @List.take_succ_cons.{0} <| And.intro @List.take_zero.{0} <| And.intro @List.take_nil.{0} <| And.intro @List.drop_succ_cons.{0} <| And.intro @List.drop_zero.{0} <| And.intro @List.drop_nil.{0} <| And.intro @List.replicate_zero.{0} <| And.intro @List.replicate_succ.{0} <| And.intro @List.flatMap_cons.{0,0} <| And.intro @List.flatMap_nil.{0,0} <| And.intro @List.length_replicate.{0} <| And.intro @List.length_append.{0} <| And.intro @Nat.le_refl <| And.intro @Nat.le_add_right <| And.intro @Nat.add_assoc <| And.intro @List.append_assoc.{0} <| And.intro @or_true <| And.intro @true_or <| And.intro @or_false <| And.intro @false_or <| And.intro @and_false <| And.intro @false_and <| And.intro @Option.some.injEq.{0} <| And.intro @DV.int.injEq <| And.intro @DV.bool.injEq <| And.intro @DV.sl.injEq <| And.intro @DV.own.injEq <| And.intro @DV.tup.injEq <| And.intro @List.cons.injEq.{0} <| And.intro @Ob.arr.injEq <| And.intro @Ob.box.injEq <| And.intro @Option.map_map.{0,0,0} <| And.intro @Int.toNat_natCast <| And.intro @Int.toNat_zero <| And.intro @Int.toNat_one <| And.intro @Nat.mul_one <| And.intro @Nat.zero_add <| And.intro @Nat.add_zero <| And.intro @List.map_append.{0,0} <| And.intro @List.map_replicate.{0,0} <| And.intro @Int.cast_ofNat_Int <| And.intro @Nat.left_eq_add <| And.intro @Nat.add_eq_left <| @Nat.add_left_cancel_iff):=
 And.intro @abn <| And.intro @abm <| And.intro @abl <| And.intro @abk <| And.intro @abj <| And.intro @abi <| And.intro @abh <| And.intro @Option.map_some.{0,0} <| And.intro @Option.map_none.{0,0} <| And.intro @Option.bind_some.{0,0} <| And.intro @Option.bind_none.{0,0} <| And.intro @beq_true <| And.intro @beq_false <| And.intro @Bool.not_true <| And.intro @Bool.not_false <| And.intro @BEq.rfl.{0} <| And.intro @Bool.true_beq <| And.intro @Bool.false_beq <| And.intro @and_true <| And.intro @true_and <| And.intro @and_self <| And.intro @decide_true <| And.intro @decide_false <| And.intro @List.length_cons.{0} <| And.intro @List.length_nil.{0} <| And.intro @List.all_cons.{0} <| And.intro @List.all_nil.{0} <| And.intro @Bool.and_true <| And.intro @Bool.and_self <| And.intro @List.getElem?_cons_zero.{0} <| And.intro @List.getElem?_cons_succ.{0} <| And.intro @List.set_cons_zero.{0} <| And.intro @List.set_cons_succ.{0} <| And.intro @List.nil_append.{0} <| And.intro @List.cons_append.{0} <| And.intro @List.append_nil.{0} <| And.intro @List.map_cons.{0,0} <| And.intro @List.map_nil.{0,0} <| And.intro @not_true_eq_false <| And.intro @not_false_eq_true <| And.intro @false_implies <| And.intro @true_implies <| And.intro @List.take_succ_cons.{0} <| And.intro @List.take_zero.{0} <| And.intro @List.take_nil.{0} <| And.intro @List.drop_succ_cons.{0} <| And.intro @List.drop_zero.{0} <| And.intro @List.drop_nil.{0} <| And.intro @List.replicate_zero.{0} <| And.intro @List.replicate_succ.{0} <| And.intro @List.flatMap_cons.{0,0} <| And.intro @List.flatMap_nil.{0,0} <| And.intro @List.length_replicate.{0} <| And.intro @List.length_append.{0} <| And.intro @Nat.le_refl <| And.intro @Nat.le_add_right <| And.intro @Nat.add_assoc <| And.intro @List.append_assoc.{0} <| And.intro @or_true <| And.intro @true_or <| And.intro @or_false <| And.intro @false_or <| And.intro @and_false <| And.intro @false_and <| And.intro @Option.some.injEq.{0} <| And.intro @DV.int.injEq <| And.intro @DV.bool.injEq <| And.intro @DV.sl.injEq <| And.intro @DV.own.injEq <| And.intro @DV.tup.injEq <| And.intro @List.cons.injEq.{0} <| And.intro @Ob.arr.injEq <| And.intro @Ob.box.injEq <| And.intro @Option.map_map.{0,0,0} <| And.intro @Int.toNat_natCast <| And.intro @Int.toNat_zero <| And.intro @Int.toNat_one <| And.intro @Nat.mul_one <| And.intro @Nat.zero_add <| And.intro @Nat.add_zero <| And.intro @List.map_append.{0,0} <| And.intro @List.map_replicate.{0,0} <| And.intro @Int.cast_ofNat_Int <| And.intro @Nat.left_eq_add <| And.intro @Nat.add_eq_left <| @Nat.add_left_cancel_iff
def WR (n:Nat)(f:Nat→Option Nat)(d:DV)(T:aj)(d':DV)(os:aj):Prop:=
 Ren f d d'∧(∀(k:Nat) ob',os[k]?=some (some ob')→∃o ob,f o=some (n+k)∧T[o]?=some (some ob)∧CP f ob ob')∧
  (∀a b x,f a=some x→f b=some x→a=b)∧(∀a x,f a=some x→n≤x∧x<n+os.length)
theorem bN.Ca {E:Prg}{f:Nat}{args:List DV}{n:Nat}{R R':DV→aj→Prop}{T0:aj}(hn:T0.length=n)(h:bN E f args T0 R)
  (hR:∀r T',R r T'→∃g r' os,WR n g r T' r' os∧R' r' (List.replicate n none++os)):bN E f args T0 R':=by
 intro G w vs h1 h2 h3 h4
 refine Calls.mono (h G w vs h1 h2 h3 h4) fun e w' ⟨v,r,T',G',a,hr,hl,cT,hh,hf⟩=>?_
 obtain ⟨g,r',os,⟨c1,c2,c3,c4⟩,hR'⟩:=hR r T' hr
 open Classical in
 let G2:Gh:={ rd:=G'.rd,pl:=fun x=>if x<n then G.pl x else if hx:∃o,g o=some x then G'.pl (Classical.choose hx) else none}
 have hpl:∀o o' p,g o=some o'→G'.pl o=some p→G2.pl o'=some p:=fun o o' p ho hp=>by
  have h5:=(c4 o o' ho).1
  show (if o'<n then G.pl o' else if hx:∃o,g o=some o' then G'.pl (Classical.choose hx) else none)=some p
  rw [if_neg (by omega),dif_pos ⟨o,ho⟩]
  have:=Classical.choose_spec (⟨o,ho⟩:∃o,g o=some o')
  rw [c3 _ _ _ this ho];exact hp
 have aad:∀x p,G2.pl x=some p→(x<n∧G.pl x=some p)∨(n≤x∧x<n+os.length∧∃o,g o=some x∧G'.pl o=some p):=fun x p hx=>by
  change (if x<n then G.pl x else if hx:∃o,g o=some x then G'.pl (Classical.choose hx) else none)=some p at hx
  by_cases hlt:x<n
  ·rw [if_pos hlt] at hx;exact .inl ⟨hlt,hx⟩
  ·rw [if_neg hlt] at hx
   by_cases he:∃o,g o=some x
   ·rw [dif_pos he] at hx
    have hs:=Classical.choose_spec he
    exact .inr ⟨by omega,(c4 _ _ hs).2,_,hs,hx⟩
   ·rw [dif_neg he] at hx;cases hx
 have hT:∀(k:Nat) ob,(List.replicate n (none:Option Ob)++os)[k]?=some (some ob)→n≤k∧os[k-n]?=some (some ob):=fun k ob hk=>by
  by_cases hlt:k<n
  ·rw [List.getElem?_append_left (by simpa using hlt)] at hk;exact (cW hk).elim
  ·rw [List.getElem?_append_right (by simpa using hlt)] at hk
   exact ⟨by omega,by simpa using hk⟩
 have hob:∀(k:Nat) ob',(List.replicate n (none:Option Ob)++os)[k]?=some (some ob')→∃o ob,g o=some k∧T'[o]?=some (some ob)∧CP g ob ob':=fun k ob' hk=>by
  obtain ⟨h5,h6⟩:=hT k ob' hk
  obtain ⟨o,ob,h7,h8,h9⟩:=c2 _ _ h6
  rw [show n+(k-n)=k by omega] at h7
  exact ⟨o,ob,h7,h8,h9⟩
 have nJ:∀(k:Nat) ob' p,(List.replicate n (none:Option Ob)++os)[k]?=some (some ob')→G2.pl k=some p→∃o ob,g o=some k∧T'[o]?=some (some ob)∧CP g ob ob'∧G'.pl o=some p:=fun k ob' p hk hp=>by
  obtain ⟨o,ob,h5,h6,h7⟩:=hob k ob' hk
  obtain ⟨q,hq,_⟩:=hh.live o ob h6
  rw [hpl o k q h5 hq] at hp
  obtain rfl:=sj hp
  exact ⟨o,ob,h5,h6,h7,hq⟩
 refine ⟨v,r',_,G2,a,hR',by simp [hn],c1.rel (G:=G') (G':=G2) (fun _ _ h=>h) hpl cT,⟨?_, ?_, ?_,hh.rdv, ?_⟩,⟨hf.os,hf.tape,hf.output,hf.size,hf.blk,hf.cell,hf.frz, ?_,hf.rdn,⟨hf.le.rd, ?_⟩,hf.mko⟩⟩
 ·intro k p hp
  rcases aad k p hp with ⟨h5,_⟩ | ⟨_,h5,_⟩ <;> simp <;> omega
 ·intro k ob' hk
  obtain ⟨o,ob,h5,h6,h7⟩:=hob k ob' hk
  obtain ⟨q,hq,hl⟩:=hh.live o ob h6
  refine ⟨q,hpl o k q h5 hq,⟨hl.psz.trans h7.1,h7.2.1 ▸ hl.fits,fun row hrow=>?_,hl.there,fun i j row c v hi hj hv=>?_,hl.mko⟩⟩
  ·obtain ⟨i,hi,he⟩:=List.getElem_of_mem hrow
   have hi2:i<ob.rows.length:=by rw [h7.2.1];exact hi
   rw [←(h7.2.2 i ob.rows[i] row (List.getElem?_eq_getElem hi2) (by rw [List.getElem?_eq_getElem hi,he])).1]
   exact hl.size _ (List.getElem_mem hi2)
  ·have hi2:i<ob.rows.length:=by rw [h7.2.1];exact (List.getElem?_eq_some_iff.1 hi).1
   obtain ⟨h8,h9⟩:=h7.2.2 i ob.rows[i] row (List.getElem?_eq_getElem hi2) hi
   have hj2:j<ob.rows[i].length:=by rw [h8];exact (List.getElem?_eq_some_iff.1 hj).1
   exact (h9 j _ c (List.getElem?_eq_getElem hj2) hj).rel (G:=G') (G':=G2) (fun _ _ h=>h) hpl (hl.holds i j ob.rows[i] ob.rows[i][j] v (List.getElem?_eq_getElem hi2) (List.getElem?_eq_getElem hj2) hv)
 ·intro k k' x x' p p' m m' hk hk' hne hp hp' hm hm' e
  obtain ⟨o,ob,h5,h6,h7,h8⟩:=nJ k x p hk hp
  obtain ⟨o',ob',h5',h6',h7',h8'⟩:=nJ k' x' p' hk' hp'
  refine hh.sep o o' ob ob' p p' m m' h6 h6' (fun e2=>?_) h8 h8' hm hm' e
  subst e2
  exact hne (sj (h5.symm.trans h5'))
 ·intro k x p m hk hp hm
  obtain ⟨o,ob,h5,h6,h7,h8⟩:=nJ k x p hk hp
  exact hh.rds o ob p m h6 h8 hm
 ·intro k x p m hk hp hm
  obtain ⟨o,ob,h5,h6,h7,h8⟩:=nJ k x p hk hp
  exact hf.mine o ob p m h6 h8 hm
 ·intro k p hp
  have hk:=h2.pls k p hp
  rw [hn] at hk
  show (if k<n then G.pl k else _)=some p
  rw [if_pos hk];exact hp
def k7 (T:aj):List Nat→(aj→Prop)→Prop
 | [],k=>k []
 | i::l,k=>bu T[i]? fun x=>bu x fun ob=>B4 ob∧k7 T l fun os=>k (some ob::os)
theorem yt {T:aj}:∀{ids:List Nat} {K:aj→Prop},k7 T ids K→∃os,K os∧os.length=ids.length∧∀(k:Nat) (ob':Ob),os[k]?=some (some ob')→∃o,ids[k]?=some o∧T[o]?=some (some ob')∧B4 ob'
 | [],K,h=>⟨[],h,rfl,by simp⟩
 | i::l,K,h=>by
  simp only [k7] at h
  cases h1:T[i]? with
  | none=>rw [h1] at h;exact h.elim
  | some x=>
   rw [h1] at h
   cases x with
   | none=>exact h.elim
   | some ob=>
    obtain ⟨h0,h⟩:=h
    obtain ⟨os,h2,h3,h4⟩:=yt h
    refine ⟨some ob::os,h2,by simp [h3],fun k ob' hk=>?_⟩
    rcases k with _ | k
    ·simp at hk;subst hk;exact ⟨i,rfl,h1,h0⟩
    ·exact h4 k ob' (by simpa using hk)
def sJ (n:Nat)(d:DV)(T:aj)(K:DV→aj→Prop):Prop:=Bc (dV d)∧clT d∧k7 T (dV d) fun os=>K (ld n (dV d) d) os
theorem nv {n:Nat}{d:DV}{T:aj}{K:DV→aj→Prop}(h:sJ n d T K):∃g r' os,WR n g d T r' os∧K r' os:=by
 obtain ⟨hn,hc,hg⟩:=h
 rw [Hz] at hn
 obtain ⟨os,h1,h2,h4⟩:=yt hg
 refine ⟨uC n (dV d),_,os,⟨abx (fun _ h=>h) hc,fun k ob' hk=>?_,fun a b x ha hb=>?_,fun a x ha=>?_⟩,h1⟩
 ·obtain ⟨o,h5,h6,h7⟩:=h4 k ob' hk
  have hm:=List.mem_of_getElem? h5
  refine ⟨o,ob', ?_,h6,Zd h7⟩
  show (if o∈dV d then some (n+pos o (dV d)) else none)=some (n+k)
  rw [if_pos hm]
  have h8:=lG hm
  have:pos o (dV d)=k:=(List.getElem?_inj (AW hm) hn).1 (h8.trans h5.symm)
  rw [this]
 ·unfold uC at ha hb
  by_cases hma:a∈dV d
  case neg=>rw [if_neg hma] at ha;cases ha
  by_cases hmb:b∈dV d
  case neg=>rw [if_neg hmb] at hb;cases hb
  rw [if_pos hma] at ha
  rw [if_pos hmb] at hb
  have e:n+pos a (dV d)=n+pos b (dV d):=(sj ha).trans (sj hb).symm
  have h8:=lG hma
  have h9:=lG hmb
  rw [show pos a (dV d)=pos b (dV d) by omega,h9] at h8
  exact (sj h8).symm
 ·unfold uC at ha
  split at ha
  ·rename_i hm
   have:=AW hm
   obtain rfl:=sj ha
   exact ⟨by omega,by omega⟩
  ·cases ha
def eW (E:Prg)(f:Nat)(args:Nat→List DV)(obs:List Ob)(res:Nat→DV × aj):Prop:=
 ∀n,bN E f (args n) (List.replicate n none++obs.map some) fun r T'=>r=(res (n+obs.length)).1∧T'=List.replicate (n+obs.length) none++(res (n+obs.length)).2
theorem eW.cY {E:Prg}{F:dz}(hF:FOk E F){f:Nat}{ann:List Ann}{rf:RFn}{args:Nat→List DV}{obs:List Ob}{res:Nat→DV × aj}(hc:aK E.P ann f=some rf)(hargs:∀n,(args n).length≤rf.n)
  (h:∀n,rf.code.wp E F rf.n (jS rf.res fun d T'=>n+obs.length≤T'.length∧sJ (n+obs.length) d T' fun d' os=>wkT d' (res (n+obs.length)).1∧os=(res (n+obs.length)).2) ⟨dN 0 (args n),List.replicate n none++obs.map some⟩):eW E f args obs res:=by
 intro n
 have hlen:(List.replicate n (none:Option Ob)++obs.map some).length=n+obs.length:=by simp
 have h1:bN E f (args n) (List.replicate n none++obs.map some) fun d T'=>sJ (n+obs.length) d T' fun d' os=>wkT d' (res (n+obs.length)).1∧os=(res (n+obs.length)).2:=by
  refine bN.aE hF hc (hargs n) ?_
  refine RC.wp_mono _ (h n) fun e st hh=>?_
  cases e with
  | normal=>
   simp only [jS] at hh ⊢
   split at hh
   ·exact ⟨by rw [hlen];exact hh.1,hh.2⟩
   ·exact hh.elim
  | ret=>
   simp only [jS] at hh ⊢
   split at hh
   ·exact ⟨by rw [hlen];exact hh.1,hh.2⟩
   ·exact hh.elim
  | _=>exact hh
 have h2:bN E f (args n) (List.replicate n none++obs.map some) fun d T'=>wkT d (res (n+obs.length)).1∧T'=List.replicate (n+obs.length) none++(res (n+obs.length)).2:=
  bN.Ca hlen h1 fun r T' hr=>by
   obtain ⟨g,r',os,hc,hk1,hk2⟩:=nv hr
   exact ⟨g,r',os,hc,hk1,by rw [hk2]⟩
 intro G w vs g1 g2 g3 g4
 refine Calls.mono (h2 G w vs g1 g2 g3 g4) fun e w' ⟨v,r,T',G',a,⟨hr,hT⟩,hl,cT,hh,hf⟩=>?_
 exact ⟨v,_,T',G',a,⟨rfl,hT⟩,hl,qD hr cT,hh,hf⟩
def oQ:List Nat→aj→aj
 | [],T=>T
 | i::l,T=>oQ l (T.set i none)
theorem lQ:∀(l:List Nat) (T:aj),(oQ l T).length=T.length
 | [],T=>rfl
 | i::l,T=>by simp [oQ,lQ l]
theorem xh:∀(l:List Nat) (T:aj) (k:Nat) (ob:Ob),(oQ l T)[k]?=some (some ob)→k∉l∧T[k]?=some (some ob)
 | [],T,k,ob,h=>⟨by simp,h⟩
 | i::l,T,k,ob,h=>by
  obtain ⟨h1,h2⟩:=xh l _ k ob h
  rw [getElem?_set] at h2
  by_cases e:i=k
  ·rw [if_pos e] at h2
   split at h2
   ·simp at h2
   ·cases h2
  ·rw [if_neg e] at h2
   exact ⟨by simp [h1];exact fun h=>e h.symm,h2⟩
def oz (ids:List Nat)(T:aj):aj:=(List.range T.length).map fun k=>if k∈ids then (T[k]?).getD none else none
theorem kE (ids:List Nat)(T:aj):(oz ids T).length=T.length:=by simp [oz]
theorem mM {ids:List Nat}{T:aj}{k:Nat}{ob:Ob}:(oz ids T)[k]?=some (some ob)↔k∈ids∧T[k]?=some (some ob):=by
 by_cases hk:k<T.length
 ·simp only [oz,List.getElem?_map,List.getElem?_range hk,Option.map_some,Option.some.injEq,List.getElem?_eq_getElem hk,Option.getD_some]
  by_cases hm:k∈ids
  ·simp [hm]
  ·simp [hm]
 ·rw [List.getElem?_eq_none (by rw [kE];omega),List.getElem?_eq_none (by omega)]
  simp
theorem aq.hand {E:Prg}{f:Nat}{args:List DV}{T:aj}{K:DV→aj→Prop}(ids:List Nat)(obs:List Ob)(hnd:ids.Nodup)(hlen:obs.length=ids.length)
  (hT:∀(i:Nat) o ob,ids[i]?=some o→obs[i]?=some ob→T[o]?=some (some ob)) (abR:∀d∈args,∀o∈dV d,o∈ids) {Zs:Nat→List DV} (hargs:args.map (ld T.length ids)=Zs T.length) {res:Nat→DV × aj}
  (h:eW E f Zs obs res) (hK:K (res (T.length+ids.length)).1 (oQ ids T++(List.replicate ids.length none++(res (T.length+ids.length)).2))):aq E f args T K:=by
 have h0:=h T.length
 rw [←hargs,hlen] at h0
 refine ⟨oz ids T,fun r T'=>r=(res (T.length+ids.length)).1∧T'=List.replicate (T.length+ids.length) none++(res (T.length+ids.length)).2,kE _ _,fun k ob hk=>(mM.1 hk).2, ?_, ?_⟩
 ·intro G w vs g1 g2 g3 g4
  let G0:Gh:={ rd:=G.rd,pl:=fun x=>if x<T.length then G.pl x else match ids[x-T.length]? with | some o=>G.pl o | none=>none}
  have hle:G.le G0:=⟨fun _ _ h=>h,fun k p hp=>by
   have:=g2.pls k p hp
   rw [kE] at this
   simp only [G0]
   rw [if_pos this];exact hp⟩
  have hpl:∀o p,o∈ids→G.pl o=some p→G0.pl (T.length+pos o ids)=some p:=fun o p ho hp=>by
   simp only [G0]
   rw [if_neg (by omega),Nat.add_sub_cancel_left,lG ho]
   exact hp
  have hnew:∀(k:Nat) (ob:Ob),(List.replicate T.length none++obs.map some)[k]?=some (some ob)→∃o,ids[k-T.length]?=some o∧T.length≤k∧(oz ids T)[o]?=some (some ob)∧G0.pl k=G.pl o:=fun k ob hk=>by
   by_cases hlt:k<T.length
   ·rw [List.getElem?_append_left (by simpa using hlt)] at hk;exact (cW hk).elim
   ·rw [List.getElem?_append_right (by simpa using hlt)] at hk
    simp only [List.length_replicate,List.getElem?_map,Option.map_eq_some_iff,Option.some.injEq] at hk
    obtain ⟨ob2,hk,rfl⟩:=hk
    have Dw:k-T.length<ids.length:=by rw [←hlen];exact (List.getElem?_eq_some_iff.1 hk).1
    refine ⟨ids[k-T.length],List.getElem?_eq_getElem Dw,by omega,mM.2 ⟨List.getElem_mem _,hT _ _ _ (List.getElem?_eq_getElem Dw) hk⟩, ?_⟩
    simp only [G0]
    rw [if_neg hlt,List.getElem?_eq_getElem Dw]
  have hH:ru G0 (List.replicate T.length none++obs.map some) w:=by
   refine ⟨fun k p hp=>?_,fun k ob hob=>?_, ?_,g2.rdv, ?_⟩
   ·simp only [G0] at hp
    simp only [List.length_append,List.length_replicate,List.length_map,hlen]
    split at hp
    ·omega
    ·split at hp
     ·rename_i o ho
      have:=(List.getElem?_eq_some_iff.1 ho).1
      omega
     ·cases hp
   ·obtain ⟨o,h1,h2,h3,h4⟩:=hnew k ob hob
    obtain ⟨p,hp,hl⟩:=g2.live o ob h3
    exact ⟨p,h4.trans hp,hl.mono hle (fun _ _=>rfl) (fun _ _=>rfl) (fun _ h=>h)⟩
   ·intro k k' r r' p p' i i' h1 h2 hne hp hp' hi hi'
    obtain ⟨o,a1,a2,a3,a4⟩:=hnew k r h1
    obtain ⟨o',b1,b2,b3,b4⟩:=hnew k' r' h2
    refine g2.sep o o' r r' p p' i i' a3 b3 (fun e=>?_) (a4.symm.trans hp) (b4.symm.trans hp') hi hi'
    subst e
    have:=wY hnd a1 b1
    omega
   ·intro k r p i hk hp hi
    obtain ⟨o,a1,a2,a3,a4⟩:=hnew k r hk
    exact g2.rds o r p i a3 (a4.symm.trans hp) hi
  have hsub:∀x,cellsOf G0 (List.replicate T.length none++obs.map some) x→cellsOf G (oz ids T) x:=fun x ⟨k,ob,p,m,h1,h2,h3,h4⟩=>by
   obtain ⟨o,a1,a2,a3,a4⟩:=hnew k ob h1
   exact ⟨o,ob,p,m,a3,a4.symm.trans h2,h3,h4⟩
  refine Calls.mono (h0 G0 w vs (fun g row hg=>(g1 g row hg).mono hle) hH (by simpa using g3) (fun i d hd=>?_)) fun e w' ⟨v,r,T',G',a,hr,hl,cT,hh,hf⟩=>?_
  ·rw [List.getElem?_map,Option.map_eq_some_iff] at hd
   obtain ⟨d0,hd0,rfl⟩:=hd
   exact Ls hle hpl (fun o ho=>abR d0 (List.mem_of_getElem? hd0) o ho) (g4 i d0 hd0)
  ·refine ⟨v,r,T',G',a,hr,by rw [kE];rw [hr.2];simp;omega,cT,hh,⟨hf.os,hf.tape,hf.output,hf.size,fun b hb hn=>hf.blk b hb fun o ho=>hn o (hsub _ ho),fun x hx hn=>hf.cell x hx fun ho=>hn (hsub _ ho),
    fun x v hx hn=>hf.frz x v hx fun ho=>hn (hsub _ ho),fun k ob p m h1 h2 h3=>?_,fun x v hx=>?_,hle.trans hf.le,hf.mko⟩⟩
   ·rcases hf.mine k ob p m h1 h2 h3 with h4 | h4
    ·exact .inl h4
    ·exact .inr (hsub _ h4)
   ·rcases hf.rdn x v hx with h4 | h4 | h4
    ·exact .inl h4
    ·exact .inr (.inl h4)
    ·exact .inr (.inr (hsub _ h4))
 ·rintro r T1' ⟨rfl,rfl⟩ _
  refine ⟨_,⟨by simp [lQ];omega,kE _ _,fun k ob hk=>(mM.1 hk).2,fun k ob ob' h1 h2=>?_,fun k ob' hlt _ h2=>?_,fun k ob' hge h2=>?_⟩,hK⟩
  ·obtain ⟨h3,h4⟩:=mM.1 h1
   have hlt:=(List.getElem?_eq_some_iff.1 h4).1
   rw [List.getElem?_append_left (by rw [lQ];exact hlt)] at h2
   exact absurd h3 (xh _ _ _ _ h2).1
  ·rw [List.getElem?_append_left (by rw [lQ];exact hlt)] at h2
   exact .inl (xh _ _ _ _ h2).2
  ·rw [List.getElem?_append_right (by rw [lQ];exact hge),lQ] at h2
   rw [←List.replicate_append_replicate,List.append_assoc,List.getElem?_append_right (by simpa using hge)]
   simpa using h2
def oR (k:IntKind)(n:Nat):Option (Option Ob)→Prop
 | some (some (.arr sz rows))=>sz=1∧rows=af k (ints rows)∧rows.length=n∧inK k (ints rows)
 | _=>False
def cG:Option (Option Ob)→List Int
 | some (some (.arr _ rows))=>ints rows
 | _=> []
theorem qT {k:IntKind}{n:Nat}{x:Option (Option Ob)}(h:oR k n x):x=some (some (.arr 1 (af k (cG x))))∧(cG x).length=n∧inK k (cG x):=by
 unfold oR at h
 split at h
 ·obtain ⟨rfl,h1,h2,h3⟩:=h
  refine ⟨by simp only [cG];rw [←h1], ?_,h3⟩
  simp only [cG]
  rw [←h2];simp [ints]
 ·exact h.elim
theorem EZ (k:IntKind)(n:Nat)(l:List Int):oR k n (some (some (.arr 1 (af k l))))=(l.length=n∧inK k l):=by simp [oR,eu,gZ]
theorem yb (k:IntKind)(sz:Nat)(l:List Int):cG (some (some (.arr sz (af k l))))=l:=by simp [cG,eu]
theorem BE (T:aj)(k:aj→Prop):k7 T [] k=k []:=au _
theorem yu (T:aj)(i:Nat)(l:List Nat)(k:aj→Prop):k7 T (i::l) k=(bu T[i]? fun x=>bu x fun ob=>B4 ob∧k7 T l fun os=>k (some ob::os)):=au _
theorem Gy (n:Nat)(d:DV)(T:aj)(K:DV→aj→Prop):sJ n d T K=(Bc (dV d)∧clT d∧k7 T (dV d) fun os=>K (ld n (dV d) d) os):=au _
theorem EX (T:aj):oQ [] T=T:=au _
theorem Bt (i:Nat)(l:List Nat)(T:aj):oQ (i::l) T=oQ l (T.set i none):=au _
theorem az.zG {E:Prg}{f:Nat}{args:List DV}{s sz:Nat}(h:az E f args fun n r os=>r=.sl s [] .nil∧os=[]):az E f args fun n r os=>r=.own n 0 0∧os=[some (.arr sz [])]:=by
 intro n G w vs g1 g2 g3 g4
 refine Calls.mono (h n G w vs g1 g2 g3 g4) fun e w' ⟨v,r,T',G',a,⟨os,hT,hr,hos⟩,hl,cT,hh,hf⟩=>?_
 subst hr hos
 rw [List.append_nil] at hT
 subst hT
 have hr:dh E ⟨w,G,cellsOf G (List.replicate n none),1⟩ G' ⟨[(0,.sl s [] .nil)],List.replicate n none⟩ ⟨#[v],[]⟩ w':=by
  refine ⟨fun t=>?_,rfl,rfl,hh,hf.ctx,fun g row hg=>(g1 g row hg).mono hf.le⟩
  by_cases e:t=0
  ·subst e;exact cT
  ·have:St.get ⟨[(0,.sl s [] .nil)],List.replicate n none⟩ t=.undef:=by
    simp only [St.get,St.look]
    rw [if_neg (fun h=>e h.symm)]
   rw [this];exact .undef _
 have h2:=hr.Bb sz
 refine ⟨v,.own n 0 0,List.replicate n none++ [some (.arr sz [])],G'.more n ⟨0,0,sz,0⟩,a,⟨_,rfl,rfl,rfl⟩,by simp, ?_, ?_, ?_⟩
 ·cases cT with
  | sl _ _ _ p len cap b' o vals h5 h6 h7 h8 _ _ _=>
   have hl:len=0:=by simpa using h5
   subst hl
   have hc0:cap=0:=h6.2
   subst hc0
   exact .own _ 0 0 ⟨0,0,sz,0⟩ p 0 (by simp [Gh.more]) rfl (Nat.le_refl _) (fun h=>by omega)
 ·have:=h2.heap
  simpa using this
 ·have:=h2.frm.ctx (m:=0)
  simpa using this
def ldV (ag:Bool)(sz:Nat)(T:aj):DV→Option DV
 | .ptr o i j=>(T[o]?).bind fun x=>x.bind fun ob=>(ob.rows[i]?).bind fun row=>rowAt ag sz row j
 | .rp row j=>rowAt ag sz row j
 | _=>none
theorem Zc (st:St)(i:Nat)(ag:Bool)(sz:Nat):Res.ev st (.c i ag sz)=ldV ag sz st.ay (st.get i):=by
 simp only [Res.ev,ldV]
 generalize st.get i=d
 cases d <;> try rfl
 rename_i o r j
 simp only
 cases st.ay[o]? with
 | none=>rfl
 | some x=>
  cases x with
  | none=>rfl
  | some ob=>
   simp only [Option.bind_some]
   cases ob.rows[r]? <;> rfl
theorem PT (ag:Bool)(sz:Nat)(T:aj)(o i j:Nat):ldV ag sz T (.ptr o i j)=(T[o]?).bind fun x=>x.bind fun ob=>(ob.rows[i]?).bind fun row=>rowAt ag sz row j:=au _
theorem Vo (ag:Bool)(sz:Nat)(T:aj)(row:List DV)(j:Nat):ldV ag sz T (.rp row j)=rowAt ag sz row j:=au _
def uE:DV→List Nat
 | .tup cs=>cs.flatMap jQ
 | d=>jQ d
def YI (st:St)(K:DV→aj→Prop):Prop:=K (st.get 0) st.ay
def YH (d:DV)(T:aj)(K:DV→aj→Prop):Prop:=YI (St.fI (uE d) ⟨[(0,d)],T⟩) K
theorem HK (d:DV)(T:aj)(K:DV→aj→Prop):YH d T K=YI (St.fI (uE d) ⟨[(0,d)],T⟩) K:=au _
theorem Qw (d:DV)(T:aj)(K:DV→aj→Prop):YI ⟨[(0,d)],T⟩ K=K d T:=au _
theorem Ez (cs:List DV):uE (.tup cs)=cs.flatMap jQ:=au _
theorem EA (o off n:Nat):uE (.own o off n)=[o]:=au _
theorem EB (cs:List DV):uE (.agg cs)=jQ (.agg cs):=au _
theorem JK (sz:Nat)(rows:List (List DV))(k:SK):uE (.sl sz rows k)=[]:=au _
theorem A0 (k:IntKind)(n:Int):jQ (.int k n)=[]:=au _
theorem x6 (b:Bool):jQ (.bool b)=[]:=au _
theorem AX (b:List UInt8):jQ (.str b)=[]:=au _
theorem AY (o i j:Nat):jQ (.ptr o i j)=[]:=au _
theorem Ny (o:Nat)(st:St):(st.freeze o).ay.length=st.ay.length:=by
 unfold St.freeze
 split
 ·split <;> simp
 ·rfl
theorem yx:∀(l:List Nat) (st:St),(St.fI l st).ay.length=st.ay.length
 | [],st=>rfl
 | o::l,st=>by rw [St.fI,yx l,Ny]
theorem bN.frz {E:Prg}{f:Nat}{args:List DV}{T:aj}{R:DV→aj→Prop}(h:bN E f args T R):bN E f args T fun r T'=>∃d T0,R d T0∧r=(St.fI (uE d) ⟨[(0,d)],T0⟩).get 0∧T'=(St.fI (uE d) ⟨[(0,d)],T0⟩).ay:=by
 intro G w vs g1 g2 g3 g4
 refine Calls.mono (h G w vs g1 g2 g3 g4) fun e w' ⟨v,r,T',G',a,hR,hl,cT,hh,hf⟩=>?_
 have hr:dQ E ⟨w,G,cellsOf G T,1⟩ ⟨[(0,r)],T'⟩ ⟨#[v],[]⟩ w':=by
  refine ⟨G',fun t=>?_,rfl,rfl,hh,hf.ctx,fun g row hg=>(g1 g row hg).mono hf.le⟩
  by_cases e:t=0
  ·subst e;exact cT
  ·have:St.get ⟨[(0,r)],T'⟩ t=.undef:=by
    simp only [St.get,St.look]
    rw [if_neg (fun h=>e h.symm)]
   rw [this];exact .undef _
 obtain ⟨G2,h2⟩:=hr.fI (uE r)
 refine ⟨v,_,_,G2,a,⟨r,T',hR,rfl,rfl⟩,by rw [yx];exact hl,h2.env 0,h2.heap,h2.frm.ctx⟩
theorem eW.iI {E:Prg}{F:dz}(hF:FOk E F){f:Nat}{ann:List Ann}{rf:RFn}{args:Nat→List DV}{obs:List Ob}{res:Nat→DV × aj}(hc:aK E.P ann f=some rf)(hargs:∀n,(args n).length≤rf.n)
  (h:∀n,rf.code.wp E F rf.n (jS rf.res fun d T'=>n+obs.length≤T'.length∧YH d T' fun d T'=>sJ (n+obs.length) d T' fun d' os=>wkT d' (res (n+obs.length)).1∧os=(res (n+obs.length)).2) ⟨dN 0 (args n),List.replicate n none++obs.map some⟩):eW E f args obs res:=by
 intro n
 have hlen:(List.replicate n (none:Option Ob)++obs.map some).length=n+obs.length:=by simp
 have h1:bN E f (args n) (List.replicate n none++obs.map some) fun d T'=>YH d T' fun d T'=>sJ (n+obs.length) d T' fun d' os=>wkT d' (res (n+obs.length)).1∧os=(res (n+obs.length)).2:=by
  refine bN.aE hF hc (hargs n) ?_
  refine RC.wp_mono _ (h n) fun e st hh=>?_
  cases e with
  | normal=>
   simp only [jS] at hh ⊢
   split at hh
   ·exact ⟨by rw [hlen];exact hh.1,hh.2⟩
   ·exact hh.elim
  | ret=>
   simp only [jS] at hh ⊢
   split at hh
   ·exact ⟨by rw [hlen];exact hh.1,hh.2⟩
   ·exact hh.elim
  | _=>exact hh
 have h2:bN E f (args n) (List.replicate n none++obs.map some) fun d T'=>wkT d (res (n+obs.length)).1∧T'=List.replicate (n+obs.length) none++(res (n+obs.length)).2:=
  bN.Ca hlen h1.frz fun r T' ⟨d,T0,hr,hd,hT⟩=>by
   subst hd hT
   rw [HK] at hr
   unfold YI at hr
   obtain ⟨g,r',os,hc,hk1,hk2⟩:=nv hr
   exact ⟨g,r',os,hc,hk1,by rw [hk2]⟩
 intro G w vs g1 g2 g3 g4
 refine Calls.mono (h2 G w vs g1 g2 g3 g4) fun e w' ⟨v,r,T',G',a,⟨hr,hT⟩,hl,cT,hh,hf⟩=>?_
 exact ⟨v,_,T',G',a,⟨rfl,hT⟩,hl,qD hr cT,hh,hf⟩
theorem az.iI {E:Prg}{F:dz}(hF:FOk E F){f:Nat}{ann:List Ann}{rf:RFn}{args:List DV}{res:Nat→DV × aj}(hc:aK E.P ann f=some rf)(hargs:args.length≤rf.n)
  (h:∀n,rf.code.wp E F rf.n (jS rf.res fun d T'=>n≤T'.length∧YH d T' fun d T'=>sJ n d T' fun d' os=>wkT d' (res n).1∧os=(res n).2) ⟨dN 0 args,List.replicate n none⟩):az E f args fun n r os=>r=(res n).1∧os=(res n).2:=by
 intro n
 have h1:bN E f args (List.replicate n none) fun r T'=>r=(res n).1∧T'=List.replicate n none++(res n).2:=by
  have:=eW.iI (args:=fun _=>args) (obs:=[]) (res:=res) hF hc (fun _=>hargs) (fun n=>by simpa using h n) n
  simpa using this
 exact h1.mono fun r T' ⟨h2,h3⟩=>⟨_,h3,h2,rfl⟩
def jR (d d':DV):Prop:=∀o,DV.id d=some o→DV.id d'≠some o
theorem FB {E:Prg}{st:St}{op:ROp}{x p:Opd}(h:op.cQ=[x]):iQ E st op p=jR (Opd.ev E st x) (Opd.ev E st p):=by simp [iQ,h,jR]
theorem ve (E:Prg)(st:St)(ag:Bool)(sz:Nat)(x p:Opd):iQ E st (.load ag sz x) p=jR (Opd.ev E st x) (Opd.ev E st p):=FB rfl
theorem yA (E:Prg)(st:St)(x p:Opd):iQ E st (.conv .b2s x) p=jR (Opd.ev E st x) (Opd.ev E st p):=FB rfl
theorem rR (E:Prg)(st:St)(sz:Nat)(x y p:Opd):iQ E st (.aT sz x y) p=(jR (Opd.ev E st x) (Opd.ev E st p)∧jR (Opd.ev E st y) (Opd.ev E st p)):=by simp [iQ,ROp.cQ,jR]
theorem Qm (o i j o' i' j':Nat):jR (.ptr o i j) (.ptr o' i' j')=¬o=o':=by simp [jR,DV.id];exact ⟨fun h e=>h e.symm,fun h e=>h e.symm⟩
theorem Qn (o i j o' i' j':Nat):jR (.ptr o i j) (.own o' i' j')=¬o=o':=by simp [jR,DV.id];exact ⟨fun h e=>h e.symm,fun h e=>h e.symm⟩
theorem Qo (o i j o' i' j':Nat):jR (.own o i j) (.ptr o' i' j')=¬o=o':=by simp [jR,DV.id];exact ⟨fun h e=>h e.symm,fun h e=>h e.symm⟩
theorem Qp (o i j o' i' j':Nat):jR (.own o i j) (.own o' i' j')=¬o=o':=by simp [jR,DV.id];exact ⟨fun h e=>h e.symm,fun h e=>h e.symm⟩
theorem Qk (sz:Nat)(rows:List (List DV))(k:SK)(d:DV):jR (.sl sz rows k) d=True:=by simp [jR,DV.id]
theorem Ql (row:List DV)(j:Nat)(d:DV):jR (.rp row j) d=True:=by simp [jR,DV.id]
theorem KB (k:IntKind)(n:Int)(d:DV):jR (.int k n) d=True:=by simp [jR,DV.id]
theorem KA (sz:Nat)(rows:List (List DV))(k:SK)(d:DV):jR d (.sl sz rows k)=True:=by simp [jR,DV.id]
theorem jA:type_of% (And.intro @HK <| And.intro @Qw <| And.intro @Ez <| And.intro @EA <| And.intro @EB <| And.intro @JK <| And.intro @A0 <| And.intro @x6 <| And.intro @AX <| @AY):=
 And.intro @HK <| And.intro @Qw <| And.intro @Ez <| And.intro @EA <| And.intro @EB <| And.intro @JK <| And.intro @A0 <| And.intro @x6 <| And.intro @AX <| @AY
theorem jn:type_of% (And.intro @ve <| And.intro @yA <| And.intro @rR <| And.intro @Qm <| And.intro @Qn <| And.intro @Qo <| And.intro @Qp <| And.intro @Qk <| And.intro @Ql <| And.intro @KB <| @KA):=
 And.intro @ve <| And.intro @yA <| And.intro @rR <| And.intro @Qm <| And.intro @Qn <| And.intro @Qo <| And.intro @Qp <| And.intro @Qk <| And.intro @Ql <| And.intro @KB <| @KA
theorem gN:type_of% (And.intro @Zc <| And.intro @PT <| And.intro @Vo <| And.intro @EZ <| And.intro @yb <| And.intro @BE <| And.intro @yu <| And.intro @Gy <| And.intro @EX <| @Bt):=
 And.intro @Zc <| And.intro @PT <| And.intro @Vo <| And.intro @EZ <| And.intro @yb <| And.intro @BE <| And.intro @yu <| And.intro @Gy <| And.intro @EX <| @Bt
section
section
variable (E:Prg) (F:dz) (K:St→Prop) (st:St) (dst:Option Nat) (z:Bool) (f:Nat) (args:List Opd)
theorem OM (dr:Bool)(y:Opd)(name:String):stV E F dr (.inv y name args) dst z st K=HD E F dr (E5 E st.ay (Opd.ev E st y) name) (args.map (Opd.ev E st)) st.ay fun d T'=>dW (nx st (d,T') z dst) K:=au _
theorem US (op:ROp)(k:OT):(OT.mid ⟨dst,op,none,z⟩ k).wp E F K st=stV E F false op dst z st (k.wp E F K):=au _
theorem PB (op:ROp)(t:Nat)(w:Bool)(k:OT):(OT.mid ⟨dst,op,some (t,w),z⟩ k).wp E F K st=nP (st.get t) (fun b=>cnd (b==w) (dW (st.xg t w) fun st=>stV E F false op dst z st (k.wp E F K)) (dW ((st.xg t (!w)).put dst .no) (k.wp E F K))) (dW (st.put dst .no) (k.wp E F K)):=au _
theorem OS (dr:Bool)(g:Bool)(ks:List CK)(x y:Opd):stV E F dr (.eqS g ks x y) dst z st K=bu (rvl E st (.eqS g ks x y)) fun p=>dW (nx st p z dst) K:=cE E F K st dst (.eqS g ks x y) z dr rfl
theorem IT (dr:Bool)(sz:Nat)(x y:Opd):stV E F dr (.copy sz x y) dst z st K=bu (rvl E st (.copy sz x y)) fun p=>dW (nx st p z dst) K:=cE E F K st dst (.copy sz x y) z dr rfl
theorem IN (dr:Bool)(l:List Opd):stV E F dr (.w7 f l) dst z st K=bu (rvl E st (.w7 f l)) fun p=>dW (nx st p z dst) K:=cE E F K st dst (.w7 f l) z dr rfl
theorem D0 (dr:Bool)(t:TypeId)(x:Opd):stV E F dr (.rM t x) dst z st K=bu (rvl E st (.rM t x)) fun p=>dW (nx st p z dst) K:=cE E F K st dst (.rM t x) z dr rfl
theorem IV (dr:Bool)(t:TypeId)(x:Opd):stV E F dr (.DB t x) dst z st K=bu (rvl E st (.DB t x)) fun p=>dW (nx st p z dst) K:=cE E F K st dst (.DB t x) z dr rfl
theorem OU (dr:Bool)(g:Bool)(x y:Opd):stV E F dr (.eqP g x y) dst z st K=bu (rvl E st (.eqP g x y)) fun p=>dW (nx st p z dst) K:=cE E F K st dst (.eqP g x y) z dr rfl
theorem Pd (g:Bool)(x y:Opd):rvl E st (.eqP g x y)=(Su (x.ev E st) (y.ev E st)).map fun b=>(.bool (if g then !b else b),st.ay):=au _
theorem JX (o i j:Nat):Su (.ptr o i j) (.lit (.pointer none))=some false:=au _
theorem PJ (row:List DV)(j:Nat):Su (.rp row j) (.lit (.pointer none))=some false:=au _
theorem JY:Su (.lit (.pointer none)) (.lit (.pointer none))=some true:=au _
theorem E1 (d:DV)(as:List DV)(T:aj)(L:DV→aj→Prop):HD E F false (some (f,d)) as T L=(fG E.P f=true∧jg E (F f (d::as)) false f (d::as) T L):=au _
theorem fM (cs as:List DV)(T:aj)(L:DV→aj→Prop):mz E F false (.wrap (.clo f) cs) as T L=(fG E.P f=true∧jg E (F f (as++cs)) false f (as++cs) T L):=au _
theorem E3 (T:aj)(t:TypeId)(x:DV)(name:String):E5 E T (.wrap (.ifc t) [x]) name=tj T x (j8 E.P t name):=au _
theorem E4 (T:aj)(t:TypeId)(cs:List DV)(name:String):E5 E T (.wrap (.ifa t) cs) name=tj T (.agg cs) (j8 E.P t name):=au _
theorem yg (T:aj)(d:DV)(way:Option (Bool × Nat)):tj T d (some (f,way))=(j9 T way d).map fun x=>(f,x):=au _
theorem uP (T:aj)(d:DV):j9 T none d=some d:=au _
theorem yj (T:aj)(ag:Bool)(sz o i j:Nat):j9 T (some (ag,sz)) (.ptr o i j)=(T[o]?).bind fun x=>x.bind fun ob=>(ob.rows[i]?).bind fun row=>rowAt ag sz row j:=by
 simp only [j9]
 generalize T[o]?=x
 rcases x with _ | _ | ob <;> try rfl
 simp only [Option.bind]
 generalize ob.rows[i]?=y
 cases y <;> rfl
theorem Bw (T:aj)(ag:Bool)(sz j:Nat)(row:List DV):j9 T (some (ag,sz)) (.rp row j)=rowAt ag sz row j:=au _
theorem I0 (l:List Opd):rvl E st (.w7 f l)=some (.wrap (.clo f) (l.map (Opd.ev E st)),st.ay):=au _
def pT (t:TypeId):DV→DV
 | .agg cs=> .wrap (.ifa t) cs
 | d=> .wrap (.ifc t) [d]
theorem Eg (t:TypeId)(x:Opd):rvl E st (.rM t x)=some (pT t (x.ev E st),st.ay):=by
 simp only [rvl,rval]
 cases x.ev E st <;> rfl
theorem Bi (t:TypeId)(cs:List DV):pT t (.agg cs)=.wrap (.ifa t) cs:=au _
theorem Bf (t:TypeId)(o i j:Nat):pT t (.ptr o i j)=.wrap (.ifc t) [.ptr o i j]:=au _
theorem ET (t:TypeId)(row:List DV)(j:Nat):pT t (.rp row j)=.wrap (.ifc t) [.rp row j]:=au _
theorem Bh (t:TypeId)(k:IntKind)(n:Int):pT t (.int k n)=.wrap (.ifc t) [.int k n]:=au _
theorem Be (t:TypeId)(s:List UInt8):pT t (.str s)=.wrap (.ifc t) [.str s]:=au _
theorem Bg (t:TypeId)(o i j:Nat):pT t (.own o i j)=.wrap (.ifc t) [.own o i j]:=au _
theorem ES (t:TypeId)(s:Nat)(rows:List (List DV))(k:SK):pT t (.sl s rows k)=.wrap (.ifc t) [.sl s rows k]:=au _
def F1 (t:TypeId):DV→Option DV
 | .wrap (.ifc t') [d]=>if t'=t then some d else none
 | .wrap (.ifa t') cs=>if t'=t then some (.agg cs) else none
 | _=>none
theorem I7 (t:TypeId)(x:Opd):rvl E st (.DB t x)=(F1 t (x.ev E st)).map (·,st.ay):=by
 simp only [rvl,rval]
 generalize x.ev E st=d
 unfold F1
 split
 ·dsimp only;split <;> rfl
 ·dsimp only;split <;> rfl
 ·rename_i h1 h2
  split
  ·exact (h1 _ _ rfl).elim
  ·exact (h2 _ _ rfl).elim
  ·rfl
theorem FW (t:TypeId)(d:DV):F1 t (.wrap (.ifc t) [d])=some d:=by simp [F1]
theorem F0 (t:TypeId)(cs:List DV):F1 t (.wrap (.ifa t) cs)=some (.agg cs):=by simp [F1]
def acd (ks:List CK):DV→DV→Option Bool
 | .agg a,.agg b=>gh ks a b
 | _,_=>none
theorem Pc (neg:Bool)(ks:List CK)(x y:Opd):rvl E st (.eqS neg ks x y)=(acd ks (x.ev E st) (y.ev E st)).map fun e=>(.bool (if neg then !e else e),st.ay):=by
 simp only [rvl,rval]
 cases x.ev E st <;> cases y.ev E st <;> rfl
theorem La (ks:List CK)(a b:List DV):acd ks (.agg a) (.agg b)=gh ks a b:=au _
theorem QD:gh [] [] []=some true:=au _
theorem Zm (ks:List CK)(k:IntKind)(a b:Int)(x y:List DV):gh (.i::ks) (.int k a::x) (.int k b::y)=(gh ks x y).map (decide (a=b) && ·):=by simp [gh]
theorem Zn (ks:List CK)(a b:Bool)(x y:List DV):gh (.b::ks) (.bool a::x) (.bool b::y)=(gh ks x y).map (decide (a=b) && ·):=by simp [gh]
def V2 (sz o off n:Nat)(ay:aj)(a:Nat × List (List DV)):Ob→Option (DV × aj)
 | .arr s rows=>if off+n≤rows.length∧s=sz∧(a.1=sz∨a.2=[]) then some (.int .i64 (min a.2.length n:Nat),ay.set o (some (.arr sz (rows.take off++a.2.take (min a.2.length n)++rows.drop (off+min a.2.length n))))) else none
 | _=>none
def copyV (sz:Nat)(ay:aj):DV→Option (Nat × List (List DV))→Option (DV × aj)
 | .own o off n,some a=>(ay[o]?).bind fun x=>x.bind (V2 sz o off n ay a)
 | _,_=>none
theorem I6 (sz:Nat)(x y:Opd):rvl E st (.copy sz x y)=copyV sz st.ay (x.ev E st) (rowsOf st (y.ev E st)):=by
 simp only [rvl,rval]
 generalize rowsOf st (y.ev E st)=a
 cases x.ev E st <;> cases a <;> try rfl
 rename_i o off n a
 obtain ⟨s2,new⟩:=a
 simp only [copyV]
 generalize st.ay[o]?=x
 rcases x with _ | _ | ob <;> try rfl
 cases ob <;> rfl
theorem Fw (sz:Nat)(ay:aj)(o off n:Nat)(a:Nat × List (List DV)):copyV sz ay (.own o off n) (some a)=(ay[o]?).bind fun x=>x.bind (V2 sz o off n ay a):=au _
theorem Fx (sz o off n:Nat)(ay:aj)(a:Nat × List (List DV))(s:Nat)(rows:List (List DV)):V2 sz o off n ay a (.arr s rows)=if off+n≤rows.length∧s=sz∧(a.1=sz∨a.2=[]) then some (.int .i64 (min a.2.length n:Nat),ay.set o (some (.arr sz (rows.take off++a.2.take (min a.2.length n)++rows.drop (off+min a.2.length n))))) else none:=au _
end
def acA (E:Prg)(f:Nat)(vals:List DV)(T:aj)(K:DV→aj→Prop) [Tg K] (_:True:=trivial):Prop:=aq E f vals T K
theorem Ra (E:Prg)(f:Nat)(as:List DV)(T:aj)(L:DV→aj→Prop):jg E none false f as T L=acA E f as T L:=au _
def WpH (E:Prg)(F:dz)(n:Nat)(c:RC)(Q:Exit→St→Prop)(st:St) [Tg Q] [Tg c] (_:True:=trivial):Prop:=c.wp E F n Q st
theorem OC (f:Nat)(as:List DV):tab [] f as=none:=au _
theorem Ev (st:St):eX st []=some (.tup []):=au _
theorem abg:type_of% (And.intro @Ra <| And.intro @OC <| @Ev):=And.intro @Ra <| And.intro @OC <| @Ev
theorem ZE:type_of% (And.intro @OM <| And.intro @OU <| And.intro @Pd <| And.intro @JX <| And.intro @PJ <| And.intro @JY <| And.intro @OS <| And.intro @IT <| And.intro @IN <| And.intro @D0 <| And.intro @IV <| And.intro @US <| And.intro @PB <| And.intro @E1 <| And.intro @fM <| And.intro @E3 <| And.intro @E4 <| And.intro @yg <| And.intro @uP <| And.intro @yj <| And.intro @Bw <| And.intro @I0 <| And.intro @Eg <| And.intro @Bi <| And.intro @Bf <| And.intro @ET <| And.intro @Bh <| And.intro @Be <| And.intro @Bg <| And.intro @ES <| And.intro @I7 <| And.intro @FW <| And.intro @F0 <| And.intro @Pc <| And.intro @La <| And.intro @QD <| And.intro @Zm <| And.intro @Zn <| And.intro @I6 <| And.intro @Fw <| And.intro @Fx <| And.intro @Q8 <| And.intro @Zt <| @OZ):=
 (And.intro @OM <| And.intro @OU <| And.intro @Pd <| And.intro @JX <| And.intro @PJ <| And.intro @JY <| And.intro @OS <| And.intro @IT <| And.intro @IN <| And.intro @D0 <| And.intro @IV <| And.intro @US <| And.intro @PB <| And.intro @E1 <| And.intro @fM <| And.intro @E3 <| And.intro @E4 <| And.intro @yg <| And.intro @uP <| And.intro @yj <| And.intro @Bw <| And.intro @I0 <| And.intro @Eg <| And.intro @Bi <| And.intro @Bf <| And.intro @ET <| And.intro @Bh <| And.intro @Be <| And.intro @Bg <| And.intro @ES <| And.intro @I7 <| And.intro @FW <| And.intro @F0 <| And.intro @Pc <| And.intro @La <| And.intro @QD <| And.intro @Zm <| And.intro @Zn <| And.intro @I6 <| And.intro @Fw <| And.intro @Fx <| And.intro @Q8 <| And.intro @Zt <| @OZ)
end
def Rf (T T2:aj):Prop:=T2.length=T.length∧∀(k:Nat) (ob2:Ob),T2[k]?=some (some ob2)→∃ob,T[k]?=some (some ob)∧ob2.sz=ob.sz∧∃m,ob2.rows=ob.rows.take m
theorem Rf.refl (T:aj):Rf T T:=⟨rfl,fun k ob h=>⟨ob,h,rfl,ob.rows.length,by rw [List.take_length]⟩⟩
theorem Rf.arr {T:aj}{q s:Nat}{rows:List (List DV)}(m:Nat)(h:T[q]?=some (some (.arr s rows))):Rf T (T.set q (some (.arr s (rows.take m)))):=by
 have hlt:q<T.length:=(List.getElem?_eq_some_iff.1 h).1
 refine ⟨by simp,fun k ob2 hk=>?_⟩
 by_cases e:q=k
 ·subst e
  rw [List.getElem?_set_self hlt] at hk
  obtain rfl:=sj (sj hk)
  exact ⟨_,h,rfl,m,rfl⟩
 ·rw [List.getElem?_set_ne e] at hk
  exact ⟨ob2,hk,rfl,ob2.rows.length,by rw [List.take_length]⟩

theorem bh {α:Type}(T l:List α)(i:Nat):(T++l)[T.length+i]?=l[i]?:=by rw [List.getElem?_append_right (by omega)];congr 1;omega
theorem bq {α:Type}(T l:List α)(a:α):(T++a::l)[T.length]?=some a:=by simp
theorem Gr {α:Type}(T l:List α)(i:Nat)(y:α):(T++l).set (T.length+i) y=T++l.set i y:=by
 rw [List.set_append_right _ _ (by omega)];congr 2;omega
theorem Gs {α:Type}(T l:List α)(a y:α):(T++a::l).set T.length y=T++y::l:=by
 rw [List.set_append_right _ _ (Nat.le_refl _)];simp
theorem IJ {α:Type}(T l:List α)(o i:Nat)(x:α):(T.set o x++l)[T.length+i]?=l[i]?:=by
 have:=bh (T.set o x) l i;rwa [List.length_set] at this
theorem zX {α:Type}(T l:List α)(o:Nat)(x a:α):(T.set o x++a::l)[T.length]?=some a:=by
 have:=bq (T.set o x) l a;rwa [List.length_set] at this
theorem IG {α:Type}(T l:List α)(o i:Nat)(x y:α):(T.set o x++l).set (T.length+i) y=T.set o x++l.set i y:=by
 have:=Gr (T.set o x) l i y;rwa [List.length_set] at this
theorem II {α:Type}(T l:List α)(o:Nat)(x a y:α):(T.set o x++a::l).set T.length y=T.set o x++y::l:=by
 have:=Gs (T.set o x) l a y;rwa [List.length_set] at this
theorem eB {α:Type}{T:List α}{q:Nat}{x:α}(h:T[q]?=some x):q<T.length:=(List.getElem?_eq_some_iff.1 h).1
theorem gO {α:Type}{T:List α}{q:Nat}{x:α}(h:T[q]?=some x)(l:List α):(T++l)[q]?=some x:=by
 rw [List.getElem?_append_left (eB h)];exact h
theorem TZ {α:Type}{T:List α}{q:Nat}{x:α}(h:T[q]?=some x)(l:List α)(y:α):(T++l).set q y=T.set q y++l:=List.set_append_left _ _ (eB h)
theorem bX {α:Type}{T:List α}{q:Nat}{x:α}(h:T[q]?=some x)(y:α):(T.set q y)[q]?=some y:=List.getElem?_set_self (eB h)
theorem MN {α:Type}{T:List α}{q:Nat}{x:α}(h:T[q]?=some x)(y:α)(l:List α):(T.set q y++l)[q]?=some y:=gO (bX h y) l
theorem TY {α:Type}{T:List α}{q:Nat}{x:α}(h:T[q]?=some x)(z y:α)(l:List α):(T.set q z++l).set q y=T.set q y++l:=by
 rw [TZ (bX h z),List.set_set]
theorem aY {α:Type}{T:List α}{k j:Nat}{x:α}(h:T[k]?=some x)(y:α)(hne:k≠j):(T.set j y)[k]?=some x:=by rw [List.getElem?_set_ne (Ne.symm hne)];exact h
def idO (E:Prg)(st:St)(p:Opd):Option Opd→Prop
 | none=>True
 | some y=>jR (Opd.ev E st y) (Opd.ev E st p)
theorem Kz (E:Prg)(st:St)(p:Opd):idO E st p none=True:=au _
theorem Ky (E:Prg)(st:St)(p y:Opd):idO E st p (some y)=jR (Opd.ev E st y) (Opd.ev E st p):=au _
theorem rQ (E:Prg)(st:St)(sz:Nat)(x p:Opd)(lo hi mx:Option Opd):iQ E st (.slice sz x lo hi mx) p=(jR (Opd.ev E st x) (Opd.ev E st p)∧idO E st p lo∧idO E st p hi∧idO E st p mx):=by
 cases lo <;> cases hi <;> cases mx <;> simp [iQ,ROp.cQ,pO,jR,idO]
theorem IK:type_of% (And.intro @Kz <| And.intro @Ky <| @rQ):=And.intro @Kz <| And.intro @Ky <| @rQ
theorem ah:type_of% (And.intro @IK <| And.intro @bh <| And.intro @bq <| And.intro @Gr <| And.intro @Gs <| And.intro @IJ <| And.intro @zX <| And.intro @IG <| @II):=
 And.intro @IK <| And.intro @bh <| And.intro @bq <| And.intro @Gr <| And.intro @Gs <| And.intro @IJ <| And.intro @zX <| And.intro @IG <| @II
theorem ai {T:aj}{q:Nat}{x:Option Ob}(h:T[q]?=some x):type_of% (And.intro h <| And.intro (gO h) <| And.intro (TZ h) <| And.intro (bX h) <| And.intro (MN h) <| TY h):=
 And.intro h <| And.intro (gO h) <| And.intro (TZ h) <| And.intro (bX h) <| And.intro (MN h) <| TY h
def aA (T T':aj)(ids:List Nat):Prop:=T.length≤T'.length∧∀(k:Nat) ob,k∉ids→T[k]?=some (some ob)→T'[k]?=some (some ob)
theorem aA.refl (T:aj)(ids:List Nat):aA T T ids:=⟨Nat.le_refl _,fun _ _ _ h=>h⟩
theorem aA.app (T l:aj)(ids:List Nat):aA T (T++l) ids:=⟨by simp,fun _ _ _ h=>gO h l⟩
theorem aA.trans {A B C:aj}{i j k:List Nat}(h1:aA A B i)(h2:aA B C j)(hi:∀x∈i,x∈k)(hj:∀x∈j,x∈k∨A.length≤x):aA A C k:=
 ⟨Nat.le_trans h1.1 h2.1,fun x ob hx ha=>h2.2 x ob (fun hm=>by
  rcases hj x hm with h | h
  ·exact hx h
  ·have:=eB ha;omega) (h1.2 x ob (fun hm=>hx (hi x hm)) ha)⟩
theorem aA.new {A B C:aj}{j:List Nat}(h1:aA A B [])(h2:aA B C j)(hj:∀x∈j,A.length≤x):aA A C []:=h1.trans h2 (by simp) fun x hx=> .inr (hj x hx)
theorem aA.eD {A B:aj}(h1:aA A B [])(l:aj):aA A (B++l) []:=h1.trans (aA.app B l []) (by simp) (by simp)
theorem aA.at {A B:aj}{i:List Nat}(h:aA A B i){k:Nat}{ob:Ob}(ha:A[k]?=some (some ob))(hk:k∉i):B[k]?=some (some ob):=h.2 k ob hk ha
section
open Go.RowKit Go.ChangeShapes Go.WideShapes
theorem SS {k:IntKind}{d:DV}(h:zx (.sl [.int k]) d):∃l,d=.sl 1 (af k l) .any∧(∀n∈l,k.min≤n∧n≤k.max):=by
 cases h with
 | sl row rows h1 h2 h3=>
  refine ⟨ints rows, ?_, ?_⟩
  ·congr 1
   have:∀R:List (List DV),(∀r∈R,r.length=1)→(∀r∈R,∀(i:Nat) c d,[CS.int k][i]?=some c→r[i]?=some d→zx c d)→R=af k (ints R):=by
    intro R
    induction R with
    | nil=>intro _ _;rfl
    | cons r R ih=>
     intro g1 g2
     have g3:=g1 r (by simp)
     match r,g3 with
     | [c],_=>
      have g4:=g2 [c] (by simp) 0 (.int k) c rfl rfl
      cases g4 with
      | int k n a b=>
       have:=ih (fun r hr=>g1 r (by simp [hr])) (fun r hr=>g2 r (by simp [hr]))
       conv=>lhs;rw [this]
       simp [ints,af]
   exact this rows h2 h3
  ·intro n hn
   simp only [ints,List.mem_map] at hn
   obtain ⟨r,hr,rfl⟩:=hn
   have g3:=h2 r hr
   match r,g3 with
   | [c],_=>
    have g4:=h3 [c] hr 0 (.int k) c rfl rfl
    cases g4 with
    | int k n a b=>exact ⟨a,b⟩
theorem BV {k:IntKind}{d:DV}(h:Mr (false,[.sl [.int k]]) d):∃l,d=.sl 1 (af k l) .any∧(∀n∈l,k.min≤n∧n≤k.max):=by
 obtain ⟨c,h1,h2⟩:=h
 obtain rfl:=(List.cons.inj h1).1
 exact SS h2
theorem xA {k:IntKind}{d:DV}(h:Mr (false,[.int k]) d):∃n,d=.int k n∧k.min≤n∧n≤k.max:=by
 obtain ⟨c,h1,h2⟩:=h
 obtain rfl:=(List.cons.inj h1).1
 cases h2 with
 | int k n a b=>exact ⟨n,rfl,a,b⟩
section
variable {H:Type} {enc:TypeId × Value→H} {P:Program} {w:World} {base:Nat} {spare:Nat→Bool} {held:Bool}
theorem aq.g {E:Prg}{f:Nat}{args:List DV}{K:DV→aj→Prop}{R:DV→Prop}(h:aq E f args [] K)(hK:∀r T,K r T→R r):bN E f args [] fun r _=>R r:=by
 obtain ⟨T1,Q,h1,h2,h3,h4⟩:=h
 have:T1=[]:=List.length_eq_zero_iff.1 h1
 subst this
 intro G w vs g1 g2 g3 g4
 refine (h3 G w vs g1 g2 g3 g4).mono fun e w' ⟨v,r,T',G',a,b,c,d⟩=>⟨v,r,T',G',a, ?_,c,d⟩
 obtain ⟨T2,_,k⟩:=h4 r T' b (Nat.zero_le _)
 exact hK r T2 k
theorem Du {E:Prg}{f:FuncId}{fn:Func}{s:ChangeSpec}{tb:TypeId}{k:Nat}{l:List (Bool × List CS)}{apart fresh handsOn:Bool}(hres:fn.resultTypes=#[tb])(hb:E.P.underlying tb=some .bool)
  (hs:∀ds:List (DataW H),ds.length=k→s.fn H ds={ results:=[.lit (.bool true)],args:=ds}) (hsv:s.vars=[]) (hk:fn.params.size=k) (hsh:Cu E.P fn.params.toList=some l)
  (hG:GlobOk E (Gh.all w)) (acS:∀dv,vR l dv→bN E f dv [] fun r _=>r=.bool true) {b0:Nat} {args:Array Value} {ds gs:List (DataW H)} {before:List MemPlace}
  (hval:∀(j:Nat) t v,fn.params[j]?=some t→args[j]?=some v→Value.okWide E.P w .any b0 t v) (hW:DataW.Whole enc E.P fn.params.toList s.vars apart w args.toList ds gs before) :
  Calls E.P f args w fun e W'=>∃v,e=.returned v∧s.post enc E.P fn apart fresh handsOn false w args v W':=by
 have hW':=hW
 obtain ⟨p,q,hA,hV,rfl,hfz,hnd⟩:=hW
 obtain ⟨dv,hc,hl,cT⟩:=L9 hsh (fun j t v ht hv=>hval j t v (by simpa using ht) (by simpa using hv)) hA
 rw [hsv] at hV
 obtain ⟨rfl,rfl⟩:gs=[]∧q=[]:=by
  cases gs with
  | nil=>exact ⟨rfl,hV⟩
  | cons=>exact hV.elim
 have hdl:ds.length=k:=by rw [xJ hA];simpa using hk
 have h:=acS dv hc (Gh.all w) w args hG (Gh.Wo w) (by simpa using hl.symm) (fun i d hd=>by
  have:=cT i d hd
  simpa [Array.getD_eq_getD_getElem?,List.getD_eq_getElem?_getD] using this)
 refine h.mono fun e W' ⟨v,r,T',G',he,hr,_,hrv,ac4,aan⟩=>?_
 subst he hr
 have hno:∀a,¬cellsOf (Gh.all w) [] a:=fun a ⟨k,ob,p,m,h1,_⟩=>by simp at h1
 have Yy:∀b:Nat,b<w.heap.size→W'.heap[b]?=w.heap[b]?:=fun b hb=>aan.blk b hb fun o=>hno _
 have hv:v=.bool true:=by cases hrv;rfl
 subst hv
 refine ⟨_,rfl, ?_⟩
 rw [List.append_nil] at hfz hnd hW'
 have aab:=hs ds hdl
 have hlt:∀x∈p,x.block<w.heap.size:=hW'.lt
 have abK:∀(b:Nat) (sp:Nat→Bool) (hd:Bool),DataW.TrodAll enc E.P W' b sp hd fn.resultTypes.toList ((Value.bool true).resultList fn.resultTypes.size) [.lit (.bool true)] []:=fun b sp hd=>by
  rw [hres]
  exact trodAll_cons_mk (shut_bool hb _) trodAll_mk0
 refine ⟨ds,[],p,[],p,[],hW', ?_, ?_, ?_,⟨aan.os,aan.output,fun i hi=>?_⟩,fun h=>by cases h⟩
 ·rw [List.append_nil,aab];exact abK _ _ _
 ·rw [List.append_nil,aab];exact rB Yy hsh hA fun x hx=>by simpa using hlt x hx
 ·rw [List.append_nil,aab,hsv];rfl
 ·rw [Yy i hi]
  split
  ·rename_i h1 h2;rw [h1] at h2;obtain ⟨rfl,rfl,rfl⟩:=Obj.cells.injEq .. ▸ sj h2;exact ⟨rfl,rfl,rfl,fun _ _=>rfl⟩
  ·rename_i h1 h2;rw [h1] at h2;obtain ⟨rfl,rfl⟩:=Obj.map.injEq .. ▸ sj h2;exact Or.inr ⟨rfl,rfl⟩
  ·rfl
end
end
structure WkS (st st':St):Prop where
 env:∀t,st'.get t=st.get t
 len:st'.ay.length=st.ay.length
 obj:∀(k:Nat) ob',st'.ay[k]?=some (some ob')→∃ob,st.ay[k]?=some (some ob)∧Dx wk0 ob ob'
theorem dh.wkS {E:Prg}{C:Ctx}{G:Gh}{st st':St}{a:Act}{w:World}(h:dh E C G st a w)(hF:WkS st st'):dh E C G st' a w:=by
 refine ⟨fun t=>by rw [hF.env t];exact h.env t,h.num,h.defs,⟨?_, ?_, ?_,h.heap.rdv, ?_⟩,⟨h.frm.os,h.frm.tape,h.frm.output,h.frm.size,h.frm.blk,h.frm.cell,h.frm.frz, ?_,h.frm.rdn,h.frm.le,h.frm.mko⟩,h.oY⟩
 ·intro k q hq
  rw [hF.len];exact h.heap.pls k q hq
 ·intro k r hk
  obtain ⟨r',hk',hfr⟩:=hF.obj k r hk
  obtain ⟨q,hq,hlq⟩:=h.heap.live k r' hk'
  exact ⟨q,hq,Fi (.refl _) (fun c c' v hc r=>Gk hc r) hfr hlq⟩
 ·intro k k' r r' q q' m m' hk hk' hne hq hq' hm hm'
  obtain ⟨s,h1,_⟩:=hF.obj k r hk
  obtain ⟨s',h1',_⟩:=hF.obj k' r' hk'
  exact h.heap.sep k k' s s' q q' m m' h1 h1' hne hq hq' hm hm'
 ·intro k r q m hk hq hm
  obtain ⟨s,h1,_⟩:=hF.obj k r hk
  exact h.heap.rds k s q m h1 hq hm
 ·intro k r q m hk hq hm
  obtain ⟨s,h1,_⟩:=hF.obj k r hk
  exact h.frm.mine k s q m h1 hq hm
inductive eE:St→St→Prop where
 | refl (st:St):eE st st
 | frz {a b c:St} (o sz:Nat) (rows:List (List DV)):acz o sz rows a b→eE b c→eE a c
 | wk {a b c:St}:a.wk b→eE b c→eE a c
 | cell {a b c:St}:WkS a b→eE b c→eE a c
theorem eE.trans {a b c:St}(h:eE a b)(k:eE b c):eE a c:=by
 induction h with
 | refl=>exact k
 | frz o sz rows h1 _ ih=>exact .frz o sz rows h1 (ih k)
 | wk h1 _ ih=>exact .wk h1 (ih k)
 | cell h1 _ ih=>exact .cell h1 (ih k)
theorem dQ.aaA {E:Prg}{C:Ctx}{a:Act}{w:World}{st st':St}(h:dQ E C st a w)(hF:eE st st'):dQ E C st' a w:=by
 induction hF with
 | refl=>exact h
 | frz o sz rows h1 _ ih=>
  obtain ⟨G,h⟩:=h
  exact ih (h.ab6 h1)
 | wk h1 _ ih=>exact ih (h.wk h1)
 | cell h1 _ ih=>
  obtain ⟨G,h⟩:=h
  exact ih ⟨G,h.wkS h1⟩
theorem eE.len {a b:St}(h:eE a b):b.ay.length=a.ay.length:=by
 induction h with
 | refl=>rfl
 | frz o sz rows h1 _ ih=>rw [ih,h1.len]
 | wk h1 _ ih=>rw [ih];exact (ta h1.2).1
 | cell h1 _ ih=>rw [ih];exact h1.len
theorem bN.aaA {E:Prg}{f:Nat}{args:List DV}{T:aj}{R:DV→aj→Prop}(h:bN E f args T fun d T'=>∃d' T'',eE ⟨[(0,d)],T'⟩ ⟨[(0,d')],T''⟩∧R d' T''):bN E f args T R:=by
 intro G w vs g1 g2 g3 g4
 refine Calls.mono (h G w vs g1 g2 g3 g4) fun e w' ⟨v,r,T',G',a,⟨d',T'',hF,hR⟩,hl,cT,hh,hf⟩=>?_
 have hr:dQ E ⟨w,G,cellsOf G T,1⟩ ⟨[(0,r)],T'⟩ ⟨#[v],[]⟩ w':=by
  refine ⟨G',fun t=>?_,rfl,rfl,hh,hf.ctx,fun g row hg=>(g1 g row hg).mono hf.le⟩
  by_cases e:t=0
  ·subst e;exact cT
  ·have:St.get ⟨[(0,r)],T'⟩ t=.undef:=by
    simp only [St.get,St.look]
    rw [if_neg (fun h=>e h.symm)]
   rw [this];exact .undef _
 obtain ⟨G2,h2⟩:=hr.aaA hF
 exact ⟨v,d',T'',G2,a,hR,by rw [show T''.length=T'.length from hF.len];exact hl,h2.env 0,h2.heap,h2.frm.ctx⟩
theorem aq.fK {E:Prg}{F:dz}(hF:FOk E F){f:Nat}{ann:List Ann}{rf:RFn}{args:List DV}{T:aj}{K:DV→aj→Prop}(hc:aK E.P ann f=some rf)(hargs:args.length≤rf.n)
  (h:rf.code.wp E F rf.n (jS rf.res fun d T'=>T.length≤T'.length∧∃d' T'',eE ⟨[(0,d)],T'⟩ ⟨[(0,d')],T''⟩∧K d' T'') ⟨dN 0 args,T⟩):aq E f args T K:=
 aq.all (bN.aaA (bN.aE hF hc hargs h))
theorem jb {T:aj}{d:DV}(t:Nat):St.get ⟨[(0,d)],T⟩ t=if t=0 then d else .undef:=by
 simp only [St.get,St.look]
 by_cases h:t=0
 ·subst h;simp
 ·rw [if_neg h,if_neg (fun e=>h e.symm)]
theorem eE.own {T:aj}{q off n sz:Nat}{rows:List (List DV)}(h:T[q]?=some (some (.arr sz rows)))(hn:off+n≤rows.length):eE ⟨[(0,.own q off n)],T⟩ ⟨[(0,.sl sz ((rows.drop off).take n) .any)],T.set q none⟩:=by
 refine .frz q sz rows ⟨h,fun t=>?_,by simp,fun k ob' hk=>?_⟩ (.refl _)
 ·rw [jb,jb]
  split
  ·right;simp [DV.k8,DV.pW,DV.hO,hn]
  ·exact .inl rfl
 ·rw [getElem?_set] at hk
  by_cases e:q=k
  ·rw [if_pos e] at hk;split at hk <;> simp at hk
  ·rw [if_neg e] at hk;exact ⟨fun e'=>e e'.symm,ob',hk,Dx.refl (fr0.refl _ _ _) _⟩
theorem Tv (d:DV):wk0 d d:=by cases d <;> simp [wk0]
theorem eE.rows {env:List (Nat × DV)}{T:aj}{q sz:Nat}{rows dA:List (List DV)}(hq:T[q]?=some (some (.arr sz rows)))
  (hr:dA.length=rows.length∧∀(i:Nat) row',dA[i]?=some row'→∃row,rows[i]?=some row∧BM wk0 row row'):eE ⟨env,T⟩ ⟨env,T.set q (some (.arr sz dA))⟩:=by
 have hlt:=eB hq
 refine .cell (b:=⟨env,T.set q (some (.arr sz dA))⟩) ⟨fun t=>rfl,by simp,fun k ob' hk=>?_⟩ (.refl _)
 simp only at hk
 rw [getElem?_set] at hk
 by_cases e:q=k
 ·subst e
  rw [if_pos rfl,if_pos hlt] at hk
  obtain rfl:Ob.arr sz dA=ob':=by simpa using hk
  exact ⟨_,hq,rfl,hr.1,hr.2⟩
 ·rw [if_neg e] at hk;exact ⟨ob',hk,Dx.refl Tv _⟩
theorem az.Vc {E:Prg}{f:Nat}{args:List DV}{v:DV}(hv:∀n T,sJ n v T fun d os=>d=v∧os=[])(h:∀T,aq E f args T fun r T'=>r=v):az E f args fun n r os=>r=v∧os=[]:=by
 intro n
 obtain ⟨T1,Q,h1,h2,h3,h4⟩:=h (List.replicate n none)
 have hT:T1=List.replicate n none:=by
  refine List.ext_getElem (by simpa using h1) fun i a b=>?_
  rw [List.getElem_replicate]
  cases hx:T1[i] with
  | none=>rfl
  | some ob=>exact (cW (h2 i ob (by rw [List.getElem?_eq_getElem a,hx]))).elim
 subst hT
 have g1:bN E f args (List.replicate n none) fun r T'=>r=v:=by
  intro G w vs g1 g2 g3 g4
  refine (h3 G w vs g1 g2 g3 g4).mono fun e w' ⟨r0,r,T',G',a,b,c,d⟩=>⟨r0,r,T',G',a, ?_,c,d⟩
  obtain ⟨T2,_,k⟩:=h4 r T' b c
  exact k
 refine (bN.Ca (n:=n) (R':=fun r T'=>r=v∧T'=List.replicate n none) (by simp) g1 fun r T' hr=>?_).mono fun r T' hh=>⟨[],by simp [hh.2],hh.1,rfl⟩
 subst hr
 obtain ⟨g,r',os,hc,hk1,hk2⟩:=nv (hv n T')
 exact ⟨g,r',os,hc,hk1,by rw [hk2];simp⟩
structure S5 (E:Prg) (F:dz) (rf:RFn) (args:List DV) (T:aj) (Post:DV→aj→Prop):Prop where
 w:rf.code.wp E F rf.n (jS rf.res Post) ⟨dN 0 args,T⟩
theorem S5.k {E:Prg}{F:dz}(hF:FOk E F){f:Nat}{ann:List Ann}{rf:RFn}{args:List DV}{T:aj}{K:DV→aj→Prop}(hc:aK E.P ann f=some rf)(hargs:args.length≤rf.n)
  (h:S5 E F rf args T fun d T'=>T.length≤T'.length∧K d T'):aq E f args T K:=aq.aE hF hc hargs h.w
theorem S5.kF {E:Prg}{F:dz}(hF:FOk E F){f:Nat}{ann:List Ann}{rf:RFn}{args:List DV}{T:aj}{K:DV→aj→Prop}(hc:aK E.P ann f=some rf)(hargs:args.length≤rf.n)
  (h:S5 E F rf args T fun d T'=>T.length≤T'.length∧∃d' T'',eE ⟨[(0,d)],T'⟩ ⟨[(0,d')],T''⟩∧K d' T''):aq E f args T K:=aq.fK hF hc hargs h.w
theorem BD {T T2:aj}(hs:∀(k:Nat) (ob:Ob),T[k]?=some (some ob)→T2[k]?=some (some ob)):∀{ids:List Nat} {K:aj→Prop},k7 T ids K→k7 T2 ids K
 | [],K,h=>h
 | i::l,K,h=>by
  simp only [k7] at h ⊢
  cases h1:T[i]? with
  | none=>rw [h1] at h;exact h.elim
  | some x=>
   cases x with
   | none=>rw [h1] at h;exact h.elim
   | some ob=>
    rw [h1] at h
    rw [hs i ob h1]
    exact ⟨h.1,BD hs h.2⟩
theorem UA {T T2:aj}(hs:∀(k:Nat) (ob:Ob),T[k]?=some (some ob)→T2[k]?=some (some ob)){n:Nat}{d:DV}{K:DV→aj→Prop}(h:sJ n d T K):sJ n d T2 K:=⟨h.1,h.2.1,BD hs h.2.2⟩
theorem az.abC {E:Prg}{f:Nat}{args:List DV}{res:Nat→DV × aj}(h:∀n T,T.length=n→aq E f args T fun r T'=>sJ n r T' fun d os=>d=(res n).1∧os=(res n).2):az E f args fun n r os=>r=(res n).1∧os=(res n).2:=by
 intro n
 obtain ⟨T1,Q,h1,h2,h3,h4⟩:=h n (List.replicate n none) (by simp)
 have g1:bN E f args T1 fun r T'=>sJ n r T' fun d os=>d=(res n).1∧os=(res n).2:=by
  intro G w vs g1 g2 g3 g4
  refine (h3 G w vs g1 g2 g3 g4).mono fun e w' ⟨r0,r,T',G',a,b,c,d⟩=>⟨r0,r,T',G',a, ?_,c,d⟩
  obtain ⟨T2,hm,k⟩:=h4 r T' b c
  refine UA (fun j ob hj=>?_) k
  rcases Nat.lt_or_ge j (List.replicate n (none:Option Ob)).length with hlt | hge
  ·by_cases hx:∃ob,T1[j]?=some (some ob)
   ·obtain ⟨ob2,hx⟩:=hx
    exact hm.over j ob2 ob hx hj
   ·rcases hm.kept j ob hlt (fun ob2 h=>hx ⟨ob2,h⟩) hj with h5 | h5
    ·exact (cW h5).elim
    ·exact h5
  ·exact hm.new j ob hge hj
 have hT:T1=List.replicate n none:=by
  refine List.ext_getElem (by simpa using h1) fun i a b=>?_
  rw [List.getElem_replicate]
  cases hx:T1[i] with
  | none=>rfl
  | some ob=>exact (cW (h2 i ob (by rw [List.getElem?_eq_getElem a,hx]))).elim
 subst hT
 refine (bN.Ca (n:=n) (R':=fun r T'=>r=(res n).1∧T'=List.replicate n none++(res n).2) (by simp) g1 fun r T' hr=>?_).mono fun r T' hh=>⟨(res n).2,hh.2,hh.1,rfl⟩
 obtain ⟨g,r',os,hc,hk1,hk2⟩:=nv hr
 exact ⟨g,r',os,hc,hk1,by rw [hk2]⟩
theorem UB {n p m sz:Nat}{T:aj}{rows:List (List DV)}(hT:T[p]?=some (some (.arr sz rows)))(hc:gF rows):sJ n (.own p 0 m) T fun d os=>d=.own n 0 m∧os=[some (.arr sz rows)]:=by
 rw [Gy]
 simp [dV,oE,jC,Bc,clT,clA,cl0,k7,bu,hT,B4,ld,p9,nM,pos,hc,rL]
theorem vcS:type_of% (And.intro @gN <| And.intro @jn <| And.intro @jA <| And.intro @ZE <| And.intro @abg <| And.intro @vcR <| And.intro @if_true.{1} <| And.intro @if_false.{1} <| And.intro @implies_true.{1} <| And.intro @ne_eq.{1} <| And.intro @exists_eq_left.{1} <| And.intro @exists_eq_left'.{1} <| @Function.comp_apply.{1,1,1}):=
 And.intro @gN <| And.intro @jn <| And.intro @jA <| And.intro @ZE <| And.intro @abg <| And.intro @vcR <| And.intro @if_true.{1} <| And.intro @if_false.{1} <| And.intro @implies_true.{1} <| And.intro @ne_eq.{1} <| And.intro @exists_eq_left.{1} <| And.intro @exists_eq_left'.{1} <| @Function.comp_apply.{1,1,1}
end Go.Proofs.YtjmnbpilnneonaaGreatDoor
