/- Texts C1, C2, C3, C4, C5, C6, C7, C8, C9, G1, G2 in one. -/
import Derived.Test.YtjmnbpilnneonaaGreatDoorM3
import Derived.Test.YtjmnbpilnneonaaGreatDoorM4
set_option linter.unusedVariables false
set_option linter.unusedSimpArgs false
set_option maxRecDepth 10000
namespace Go.Proofs.YtjmnbpilnneonaaGreatDoor
open Go.RowKit
structure Ce where
 r:Int
 a:Int
 h:Int
 deriving DecidableEq,Inhabited
def aN:Ce:=⟨32,0,0⟩
def Ce.row (c:Ce):List DV:=[.int .i32 c.r,.int .u16 c.a,.int .u8 c.h]
def av (L:List Ce):List (List DV):=L.map Ce.row
theorem aH (L:List Ce):(av L).length=L.length:=by simp [av]
theorem bw {L:List Ce}{i:Nat}(h:i<L.length):(av L)[i]?=some [.int .i32 (L.getD i aN).r,.int .u16 (L.getD i aN).a,.int .u8 (L.getD i aN).h]:=by simp [av,Ce.row,h]
theorem hY (A B:List Ce):av A++av B=av (A++B):=by simp [av]
theorem je (L:List Ce)(n:Nat):(av L).take n=av (L.take n):=by simp [av]
theorem jf (L:List Ce)(n:Nat):(av L).drop n=av (L.drop n):=by simp [av]
theorem bP (L:List Ce)(i:Nat)(c:Ce):(av L).set i [.int .i32 c.r,.int .u16 c.a,.int .u8 c.h]=av (L.set i c):=by simp [av,Ce.row,List.map_set]
theorem B7 (n:Nat)(c:Ce):List.replicate n [.int .i32 c.r,.int .u16 c.a,.int .u8 c.h]=av (List.replicate n c):=by simp [av,Ce.row]
theorem B8:av []=[]:=rfl
theorem lT (L:List Ce):gF (av L):=fun row hr c hc=>by
 simp only [av,List.mem_map] at hr
 obtain ⟨e,_,rfl⟩:=hr
 simp [Ce.row] at hc
 rcases hc with rfl | rfl | rfl <;> exact .int _ _
theorem dH {A B:List Ce}(hl:A.length=B.length)(h:∀i,i<A.length→A.getD i aN=B.getD i aN):A=B:=by
 refine List.ext_getElem hl fun i h1 h2=>?_
 have:=h i h1
 simpa [List.getD_eq_getElem?_getD,h1,h2] using this
theorem dX {L:List Ce}{n i:Nat}:(L.take n).getD i aN=if i<n then L.getD i aN else aN:=by
 simp only [List.getD_eq_getElem?_getD,List.getElem?_take]
 split <;> rfl
theorem dJ {L:List Ce}{n i:Nat}:(L.drop n).getD i aN=L.getD (n+i) aN:=by
 simp only [List.getD_eq_getElem?_getD,List.getElem?_drop]
theorem nK {A B:List Ce}{i:Nat}:(A++B).getD i aN=if i<A.length then A.getD i aN else B.getD (i-A.length) aN:=by
 simp only [List.getD_eq_getElem?_getD]
 split
 ·rw [List.getElem?_append_left (by assumption)]
 ·rw [List.getElem?_append_right (by omega)]
theorem gq {n i:Nat}:(List.replicate n aN).getD i aN=aN:=by
 simp only [List.getD_eq_getElem?_getD,List.getElem?_replicate]
 split <;> rfl
theorem SG {L:List Ce}{i:Nat}(h:L.length≤i):L.getD i aN=aN:=by
 rw [List.getD_eq_getElem?_getD,List.getElem?_eq_none h];rfl
theorem lR {L:List Ce}{i j:Nat}{c:Ce}(h:i<L.length):(L.set i c).getD j aN=if j=i then c else L.getD j aN:=by
 simp only [List.getD_eq_getElem?_getD,List.getElem?_set]
 by_cases e:i=j
 ·subst e;simp [h]
 ·rw [if_neg e,if_neg (fun h=>e h.symm)]
def ct (L:List Ce)(a b:Nat)(M:List Ce):List Ce:=L.take a++M++L.drop b
theorem bL {L:List Ce}{a b:Nat}{M:List Ce}(hab:a≤b)(hb:b≤L.length)(hM:M.length=b-a):(ct L a b M).length=L.length:=by simp [ct];omega
theorem cr {L:List Ce}{a b i:Nat}{M:List Ce}(hab:a≤b)(hb:b≤L.length)(hM:M.length=b-a) :
  (ct L a b M).getD i aN=if i<a then L.getD i aN else if i<b then M.getD (i-a) aN else L.getD i aN:=by
 unfold ct
 rw [nK,nK,dX,dJ]
 simp only [List.length_append,List.length_take,Nat.min_eq_left (show a≤L.length by omega),hM]
 by_cases h1:i<a
 ·rw [if_pos (by omega),if_pos h1,if_pos h1,if_pos h1]
 ·by_cases h2:i<b
  ·rw [if_pos (by omega),if_neg h1,if_neg h1,if_pos h2]
  ·rw [if_neg (by omega),if_neg h1,if_neg h2]
   congr 1;omega
def oa (k:Nat)(M:List Ce):List Ce:=M.drop k++List.replicate (min k M.length) aN
def oc (k:Nat)(M:List Ce):List Ce:=List.replicate (min k M.length) aN++M.take (M.length-k)
theorem kn (k:Nat)(M:List Ce):(oa k M).length=M.length:=by simp [oa];omega
theorem ko (k:Nat)(M:List Ce):(oc k M).length=M.length:=by simp [oc];omega
theorem qL {k i:Nat}{M:List Ce}(hi:i<M.length):(oa k M).getD i aN=if i+k<M.length then M.getD (i+k) aN else aN:=by
 unfold oa
 rw [nK,dJ,gq,List.length_drop]
 by_cases h:i+k<M.length
 ·rw [if_pos (by omega),if_pos h,Nat.add_comm]
 ·rw [if_neg (by omega),if_neg h]
theorem qM {k i:Nat}{M:List Ce}(hi:i<M.length):(oc k M).getD i aN=if k≤i then M.getD (i-k) aN else aN:=by
 unfold oc
 rw [nK,dX,gq,List.length_replicate]
 by_cases h:k≤i
 ·rw [if_neg (by omega),if_pos h,if_pos (by omega)]
  congr 1;omega
 ·rw [if_pos (by omega),if_neg h]
def hAt (L:List Ce)(i:Nat):Int:=(L.getD i aN).h
def dF (L:List Ce)(i:Nat):Ce:=if (hAt L i=1∧(i+1=L.length∨hAt L (i+1)≠2))∨(hAt L i=2∧(i=0∨hAt L (i-1)≠1)) then aN else L.getD i aN
def fe (L:List Ce):List Ce:=(List.range L.length).map (dF L)
theorem bO (L:List Ce):(fe L).length=L.length:=by simp [fe]
theorem lY {L:List Ce}{i:Nat}(h:i<L.length):(fe L).getD i aN=dF L i:=by simp [fe,List.getD_eq_getElem?_getD,h]
def lC (L:List Ce)(i:Nat):List Ce:=(fe L).take i++L.drop i
theorem kj {L:List Ce}{i:Nat}:(lC L i).length=L.length:=by simp [lC,bO];omega
theorem RD (L:List Ce):lC L 0=L:=by simp [lC]
theorem It (L:List Ce):lC L L.length=fe L:=by
 simp only [lC,List.drop_length,List.append_nil]
 exact List.take_of_length_le (by rw [bO];exact Nat.le_refl _)
theorem Gl {L:List Ce}{i j:Nat}(hj:j<L.length):(lC L i).getD j aN=if j<i then dF L j else L.getD j aN:=by
 unfold lC
 rw [nK,dX,dJ,List.length_take,bO]
 by_cases h:j<i
 ·rw [if_pos (by omega),if_pos h,if_pos h,lY hj]
 ·by_cases h2:i≤L.length
  ·rw [if_neg (by omega),if_neg h]
   congr 1;omega
  ·omega
theorem My {L:List Ce}{i:Nat}(hi:i+1<L.length)(h2:hAt L (i+1)=2):((dF L i).h=1↔hAt L i=1):=by
 unfold dF
 constructor
 ·intro h
  split at h
  ·simp [aN] at h
  ·exact h
 ·intro h
  rw [if_neg]
  ·exact h
  ·intro hc
   rcases hc with ⟨_,h3 | h3⟩ | ⟨h3,_⟩
   ·omega
   ·exact h3 h2
   ·omega
structure bW (L:List Ce) (rows aa:Nat):Prop where
 r:1≤rows∧rows≤1000
 c:1≤aa∧aa≤1000
 len:L.length=rows*aa
def br (n:Int):Nat:=min n.toNat 1000
def upF (L:List Ce)(aa top bot:Nat)(n:Int):List Ce:=ct L (top*aa) ((bot+1)*aa) (oa (br n*aa) ((L.drop (top*aa)).take ((bot+1)*aa-top*aa)))
def dnF (L:List Ce)(aa top bot:Nat)(n:Int):List Ce:=ct L (top*aa) ((bot+1)*aa) (oc (br n*aa) ((L.drop (top*aa)).take ((bot+1)*aa-top*aa)))
def cM (L:List Ce)(aa y:Nat):List Ce:=(L.drop (y*aa)).take aa
def kD (L:List Ce)(aa y:Nat)(R:List Ce):List Ce:=ct L (y*aa) ((y+1)*aa) R
def cS (L:List Ce)(aa y:Nat):List Ce:=kD L aa y (fe (cM L aa y))
def Dv (L:List Ce)(aa y x:Nat)(n:Int):List Ce:=kD L aa y (fe ((cM L aa y).take x++oc (br n) ((cM L aa y).drop x)))
def Dz (L:List Ce)(aa y x:Nat)(n:Int):List Ce:=kD L aa y (fe ((cM L aa y).take x++oa (br n) ((cM L aa y).drop x)))
def cI (n:Int)(c:Nat):Nat:=min n.toNat c
def kJ (L:List Ce)(aa y:Nat)(a b:Int):List Ce:=kD L aa y (fe (ct (cM L aa y) (cI a aa) (max (cI a aa) (cI b aa)) (List.replicate (max (cI a aa) (cI b aa)-cI a aa) aN)))
theorem dc {rows aa y:Nat}(hy:y<rows):(y+1)*aa≤rows*aa:=Nat.mul_le_mul_right _ hy
theorem bB (y aa:Nat):(y+1)*aa=y*aa+aa:=by rw [Nat.add_mul];omega
theorem bK {L:List Ce}{rows aa y:Nat}(g:bW L rows aa)(hy:y<rows):(cM L aa y).length=aa:=by
 have:=dc (aa:=aa) hy
 have h1:=bB y aa
 simp [cM,g.len];omega
theorem cL {L:List Ce}{rows aa y i:Nat}(g:bW L rows aa)(hy:y<rows)(hi:i<aa):(cM L aa y).getD i aN=L.getD (y*aa+i) aN:=by
 unfold cM
 rw [dX,if_pos hi,dJ]
theorem fT {L R:List Ce}{rows aa y:Nat}(g:bW L rows aa)(hy:y<rows)(hR:R.length=aa):(kD L aa y R).length=L.length:=by
 have:=dc (aa:=aa) hy
 have h1:=bB y aa
 exact bL (by omega) (by rw [g.len];omega) (by omega)
theorem iy {L R:List Ce}{rows aa y i:Nat}(g:bW L rows aa)(hy:y<rows)(hR:R.length=aa) :
  (kD L aa y R).getD i aN=if i<y*aa then L.getD i aN else if i<(y+1)*aa then R.getD (i-y*aa) aN else L.getD i aN:=by
 have:=dc (aa:=aa) hy
 have h1:=bB y aa
 exact cr (by omega) (by rw [g.len];omega) (by omega)
theorem bW.eI {L M:List Ce}{rows aa:Nat}(g:bW L rows aa)(h:M.length=L.length):bW M rows aa:=⟨g.r,g.c,h.trans g.len⟩
theorem jr {L:List Ce}{rows aa top bot:Nat}(g:bW L rows aa)(hb:bot<rows)(ht:top≤bot):((L.drop (top*aa)).take ((bot+1)*aa-top*aa)).length=(bot+1)*aa-top*aa:=by
 have:=dc (aa:=aa) hb
 have:top*aa≤(bot+1)*aa:=Nat.mul_le_mul_right _ (by omega)
 simp [g.len];omega
theorem mL {L:List Ce}{rows aa top bot:Nat}{n:Int}(g:bW L rows aa)(hb:bot<rows)(ht:top≤bot):(upF L aa top bot n).length=L.length:=by
 have h1:=dc (aa:=aa) hb
 have h2:top*aa≤(bot+1)*aa:=Nat.mul_le_mul_right _ (by omega)
 exact bL h2 (by rw [g.len];exact h1) (by rw [kn,jr g hb ht])
theorem mP {L:List Ce}{rows aa top bot:Nat}{n:Int}(g:bW L rows aa)(hb:bot<rows)(ht:top≤bot):(dnF L aa top bot n).length=L.length:=by
 have h1:=dc (aa:=aa) hb
 have h2:top*aa≤(bot+1)*aa:=Nat.mul_le_mul_right _ (by omega)
 exact bL h2 (by rw [g.len];exact h1) (by rw [ko,jr g hb ht])
theorem MH {L:List Ce}{rows aa top bot:Nat}{n:Int}(g:bW L rows aa)(hb:bot<rows)(ht:top≤bot){y x:Nat}(hx:x<aa)(hy:top≤y∧y≤bot) :
  (upF L aa top bot n).getD (y*aa+x) aN=if y+br n≤bot then L.getD ((y+br n)*aa+x) aN else aN:=by
 have h1:=dc (aa:=aa) hb
 have h2:top*aa≤(bot+1)*aa:=Nat.mul_le_mul_right _ (by omega)
 have h3:top*aa≤y*aa:=Nat.mul_le_mul_right _ hy.1
 have h4:(y+1)*aa≤(bot+1)*aa:=Nat.mul_le_mul_right _ (by omega)
 have h5:=bB y aa
 unfold upF
 rw [cr h2 (by rw [g.len];exact h1) (by rw [kn,jr g hb ht]),if_neg (by omega),if_pos (by omega),qL (by rw [jr g hb ht];omega),jr g hb ht]
 have h6:=Nat.add_mul y (br n) aa
 by_cases hc:y+br n≤bot
 ·have h7:(y+br n+1)*aa≤(bot+1)*aa:=Nat.mul_le_mul_right _ (by omega)
  have h8:=bB (y+br n) aa
  rw [if_pos (by omega),if_pos hc,dX,if_pos (by omega),dJ]
  congr 1;omega
 ·have h7:(bot+1)*aa≤(y+br n)*aa:=Nat.mul_le_mul_right _ (by omega)
  rw [if_neg (by omega),if_neg hc]
theorem NC {L:List Ce}{rows aa top bot:Nat}{n:Int}(g:bW L rows aa)(hb:bot<rows)(ht:top≤bot){y x:Nat}(hx:x<aa)(hy:top≤y∧y≤bot) :
  (dnF L aa top bot n).getD (y*aa+x) aN=if top+br n≤y then L.getD ((y-br n)*aa+x) aN else aN:=by
 have h1:=dc (aa:=aa) hb
 have h2:top*aa≤(bot+1)*aa:=Nat.mul_le_mul_right _ (by omega)
 have h3:top*aa≤y*aa:=Nat.mul_le_mul_right _ hy.1
 have h4:(y+1)*aa≤(bot+1)*aa:=Nat.mul_le_mul_right _ (by omega)
 have h5:=bB y aa
 unfold dnF
 rw [cr h2 (by rw [g.len];exact h1) (by rw [ko,jr g hb ht]),if_neg (by omega),if_pos (by omega),qM (by rw [jr g hb ht];omega)]
 by_cases hc:top+br n≤y
 ·have h6:(top+br n)*aa≤y*aa:=Nat.mul_le_mul_right _ hc
  have h7:=Nat.add_mul top (br n) aa
  have h8:(y-br n)*aa=y*aa-br n*aa:=Nat.sub_mul _ _ _
  rw [if_pos (by omega),if_pos hc,dX,if_pos (by omega),dJ]
  congr 1;omega
 ·have h6:(y+1)*aa≤(top+br n)*aa:=Nat.mul_le_mul_right _ (by omega)
  have h7:=Nat.add_mul top (br n) aa
  rw [if_neg (by omega),if_neg hc]
theorem Ou {L:List Ce}{rows aa top bot:Nat}{n:Int}(g:bW L rows aa)(hb:bot<rows)(ht:top≤bot){i:Nat}(hi:i<top*aa∨(bot+1)*aa≤i):(upF L aa top bot n).getD i aN=L.getD i aN:=by
 have h1:=dc (aa:=aa) hb
 have h2:top*aa≤(bot+1)*aa:=Nat.mul_le_mul_right _ (by omega)
 unfold upF
 rw [cr h2 (by rw [g.len];exact h1) (by rw [kn,jr g hb ht])]
 rcases hi with h | h
 ·rw [if_pos h]
 ·rw [if_neg (by omega),if_neg (by omega)]
theorem QF {L:List Ce}{rows aa top bot:Nat}{n:Int}(g:bW L rows aa)(hb:bot<rows)(ht:top≤bot){i:Nat}(hi:i<top*aa∨(bot+1)*aa≤i):(dnF L aa top bot n).getD i aN=L.getD i aN:=by
 have h1:=dc (aa:=aa) hb
 have h2:top*aa≤(bot+1)*aa:=Nat.mul_le_mul_right _ (by omega)
 unfold dnF
 rw [cr h2 (by rw [g.len];exact h1) (by rw [ko,jr g hb ht])]
 rcases hi with h | h
 ·rw [if_pos h]
 ·rw [if_neg (by omega),if_neg (by omega)]
structure Sc where
 rows:Nat
 aa:Nat
 cells:List Ce
 y:Nat
 x:Nat
 wrap:Bool
 attr:Int
 top:Nat
 bot:Nat
 aU:List Bool
 sy:Nat
 sx:Nat
 fN:Int
 auto:Bool
 shown:Bool
 alt:Bool
 other:List Ce
 oy:Nat
 ox:Nat
def Bn (r:Int):Bool:=decide (0≤r∧r≤1114111∧(r<55296∨57343<r))
def inR (r a b:Int):Bool:=decide (a≤r∧r≤b)
def iF:List (Int × Int):=[(0x1100,0x115f),(0x2e80,0x303e),(0x3041,0x33ff),(0x3400,0x4dbf),(0x4e00,0x9fff),(0xa000,0xa4cf),(0xac00,0xd7a3),(0xf900,0xfaff),(0xfe30,0xfe6f),(0xff00,0xff60),(0xffe0,0xffe6),(0x1f300,0x1f64f),(0x1f900,0x1f9ff),(0x20000,0x2fffd),(0x30000,0x3fffd)]
def dy (r:Int):Nat:=
 if Bn r=false∨r<32∨inR r 0x7f 0x9f=true∨inR r 0x300 0x36f=true∨inR r 0x200b 0x200f=true∨inR r 0xfe00 0xfe0f=true then 0
 else if iF.any (fun p=>inR r p.1 p.2)=true then 2 else 1
def dL (rows aa:Nat):List Ce:=List.replicate (rows*aa) aN
def lZ (aa:Nat):List Bool:=(List.range aa).map fun x=>decide (x % 8=0)
def newF (rows aa:Nat):Sc:=⟨rows,aa,dL rows aa,0,0,false,0,0,rows-1,lZ aa,0,0,0,true,true,false,[],0,0⟩
def cD (s:Sc):Sc:=
 if s.y=s.bot then { s with wrap:=false,cells:=upF s.cells s.aa s.top s.bot 1}
 else if s.y+1<s.rows then { s with wrap:=false,y:=s.y+1} else { s with wrap:=false}
def fy (s:Sc)(r:Int)(w:Nat):List Ce:=
 if w=2 then (s.cells.set (s.y*s.aa+s.x) ⟨r,s.attr,1⟩).set (s.y*s.aa+s.x+1) ⟨0,s.attr,2⟩ else s.cells.set (s.y*s.aa+s.x) ⟨r,s.attr,0⟩
def jP (s:Sc)(r:Int)(w:Nat):Sc:=
 if s.x+w≥s.aa then { s with cells:=cS (fy s r w) s.aa s.y,x:=s.aa-1,wrap:=s.auto}
 else { s with cells:=cS (fy s r w) s.aa s.y,x:=s.x+w}
def gl (s:Sc):Sc:=if s.wrap=true then { cD s with x:=0} else s
def iU (s:Sc)(r:Int):Sc:=
 if dy r=0 then s
 else if dy r=2∧(gl s).x+1=s.aa then (if s.auto=false∨s.aa=1 then gl s else jP { cD (gl s) with x:=0} r 2)
 else jP (gl s) r (dy r)
def pe (t:List Bool)(c:Nat):Nat→Nat→Nat
 | 0,x=>x
 | f+1,x=>if x+1<c∧t.getD x false=false then pe t c f (x+1) else x
def xz (s:Sc)(b:Int):Sc:=
 if b=8 then { s with x:=s.x-1,wrap:=false}
 else if b=9 then { s with x:=min (pe s.aU s.aa s.aa (s.x+1)) (s.aa-1),wrap:=false}
 else if b=10∨b=11∨b=12 then cD s
 else if b=13 then { s with x:=0,wrap:=false} else s
def jD (s:Sc)(b:Int):Sc:=
 if b=55 then { s with sy:=s.y,sx:=s.x,fN:=s.attr}
 else if b=56 then { s with y:=s.sy,x:=s.sx,attr:=s.fN,wrap:=false}
 else if b=68 then cD s
 else if b=69 then { cD s with x:=0}
 else if b=77 then (if s.y=s.top then { s with wrap:=false,cells:=dnF s.cells s.aa s.top s.bot 1} else { s with wrap:=false,y:=s.y-1})
 else if b=72 then { s with aU:=s.aU.set s.x true}
 else if b=99 then newF s.rows s.aa else s
def bE (ps:List Int)(i:Nat):Int:=ps.getD i 0
def toF (s:Sc)(y x:Int):Sc:={ s with y:=min y.toNat (s.rows-1),x:=min x.toNat (s.aa-1),wrap:=false}
def jc (s:Sc)(k:Int):Int:=if k=0 then s.x else 0
def toK (s:Sc)(k:Int):Int:=if k=1 then s.x+1 else s.aa
def gD (s:Sc)(k:Int):Nat→List Ce
 | 0=>s.cells
 | n+1=>if n=s.y then kJ (gD s k n) s.aa n (jc s k) (toK s k) else if k=2∨(k=0∧s.y<n)∨(k=1∧n<s.y) then kJ (gD s k n) s.aa n 0 s.aa else gD s k n
def fL (s:Sc)(row:Bool)(k:Int):Sc:=
 if 0≤k∧k≤2 then { s with wrap:=false,cells:=if row=true then kJ s.cells s.aa s.y (jc s k) (toK s k) else gD s k s.rows} else { s with wrap:=false}
def mJ (a:Int)(b:Int):Int:=(a.toNat ||| b.toNat:Nat)
def jl (a:Int)(m:Nat):Int:=((a.toNat &&& (65535 ^^^ m)):Nat)
def bR (a k:Int):Int:=
 if k=0 then 0 else if k=1 then mJ a 1 else if k=4 then mJ a 2 else if k=7 then mJ a 4
 else if k=22 then jl a 1 else if k=24 then jl a 2 else if k=27 then jl a 4
 else if 30≤k∧k≤37 then mJ (jl a 0xf0) ((k-29)*16) else if k=39 then jl a 0xf0
 else if 40≤k∧k≤47 then mJ (jl a 0xf00) ((k-39)*256) else if k=49 then jl a 0xf00 else a
def eJ (s:Sc)(b:Int)(ps:List Int):Sc:=
 let n:=max (bE ps 0) 1
 let m:=max (bE ps 1) 1
 let k:=bE ps 0
 if b=65 then toF s (s.y-n) s.x
 else if b=66 then toF s (s.y+n) s.x
 else if b=67 then toF s s.y (s.x+n)
 else if b=68 then toF s s.y (s.x-n)
 else if b=71∨b=96 then toF s s.y (n-1)
 else if b=100 then toF s (n-1) s.x
 else if b=72∨b=102 then toF s (n-1) (m-1)
 else if b=74 then fL s false k
 else if b=75 then fL s true k
 else if b=76 then (if s.top≤s.y∧s.y≤s.bot then { s with wrap:=false,x:=0,cells:=dnF s.cells s.aa s.y s.bot n} else { s with wrap:=false})
 else if b=77 then (if s.top≤s.y∧s.y≤s.bot then { s with wrap:=false,x:=0,cells:=upF s.cells s.aa s.y s.bot n} else { s with wrap:=false})
 else if b=83 then { s with wrap:=false,cells:=upF s.cells s.aa s.top s.bot n}
 else if b=84 then { s with wrap:=false,cells:=dnF s.cells s.aa s.top s.bot n}
 else if b=64 then { s with wrap:=false,cells:=Dv s.cells s.aa s.y s.x n}
 else if b=80 then { s with wrap:=false,cells:=Dz s.cells s.aa s.y s.x n}
 else if b=88 then { s with wrap:=false,cells:=kJ s.cells s.aa s.y s.x (s.x+n)}
 else if b=114 then
  let bt:=(if bE ps 1=0∨(s.rows:Int)<bE ps 1 then (s.rows:Int) else bE ps 1)-1
  if n-1<bt then { s with y:=0,x:=0,wrap:=false,top:=(n-1).toNat,bot:=bt.toNat} else s
 else if b=103 then (if k=3 then { s with aU:=List.replicate s.aa false} else if k=0 then { s with aU:=s.aU.set s.x false} else s)
 else if b=109 then { s with attr:=if ps=[] then 0 else ps.foldl bR s.attr}
 else s
def dZ (on:Bool)(s:Sc)(k:Int):Sc:=
 if k=7 then { s with auto:=on} else if k=25 then { s with shown:=on}
 else if k=1049∧on=true∧s.alt=false then { s with other:=s.cells,oy:=s.y,ox:=s.x,alt:=true,wrap:=false,cells:=dL s.rows s.aa}
 else if k=1049∧on=false∧s.alt=true then { s with cells:=s.other,y:=s.oy,x:=s.ox,alt:=false,wrap:=false,other:=[],oy:=0,ox:=0}
 else s
structure aR (s:Sc):Prop where
 g:bW s.cells s.rows s.aa
 y:s.y<s.rows
 x:s.x<s.aa
 wr:s.wrap=true→s.x+1=s.aa
 tb:s.top≤s.bot
 b:s.bot<s.rows
 rg:s.top<s.bot∨s.rows=1
 aU:s.aU.length=s.aa
 sy:s.sy<s.rows
 sx:s.sx<s.aa
 oy:s.oy<s.rows
 ox:s.ox<s.aa
 at':0≤s.attr∧s.attr≤65535
 sat:0≤s.fN∧s.fN≤65535
 alt:s.alt=true→bW s.other s.rows s.aa
 non:s.alt=false→s.other=[]∧s.oy=0∧s.ox=0
theorem xC {rows aa:Nat}(hr:1≤rows∧rows≤1000)(hc:1≤aa∧aa≤1000):bW (dL rows aa) rows aa:=⟨hr,hc,by simp [dL]⟩
theorem qI (aa:Nat):(lZ aa).length=aa:=by simp [lZ]
theorem uJ {rows aa:Nat}(hr:1≤rows∧rows≤1000)(hc:1≤aa∧aa≤1000):aR (newF rows aa):=by
 have h1:=hr.1
 have h2:=hc.1
 refine ⟨xC hr hc, ?_, ?_, ?_, ?_, ?_, ?_, ?_, ?_, ?_, ?_, ?_, ?_, ?_, ?_, ?_⟩ <;> simp [newF,qI] <;> omega
theorem gY {s:Sc}(h:aR s):aR (cD s)∧(cD s).rows=s.rows∧(cD s).aa=s.aa∧(cD s).x=s.x∧(cD s).wrap=false∧(cD s).auto=s.auto∧(cD s).attr=s.attr:=by
 unfold cD
 split
 ·exact ⟨⟨h.g.eI (mL h.g h.b h.tb),h.y,h.x,by simp,h.tb,h.b,h.rg,h.aU,h.sy,h.sx,h.oy,h.ox,h.at',h.sat,h.alt,h.non⟩,rfl,rfl,rfl,rfl,rfl,rfl⟩
 ·split
  ·rename_i hh
   exact ⟨⟨h.g,hh,h.x,by simp,h.tb,h.b,h.rg,h.aU,h.sy,h.sx,h.oy,h.ox,h.at',h.sat,h.alt,h.non⟩,rfl,rfl,rfl,rfl,rfl,rfl⟩
  ·exact ⟨⟨h.g,h.y,h.x,by simp,h.tb,h.b,h.rg,h.aU,h.sy,h.sx,h.oy,h.ox,h.at',h.sat,h.alt,h.non⟩,rfl,rfl,rfl,rfl,rfl,rfl⟩
theorem aR.x0 {s:Sc}(h:aR s)(hw:s.wrap=false):aR { s with x:=0}:=
 ⟨h.g,h.y,by have:=h.g.c;show 0<s.aa;omega,by simp [hw],h.tb,h.b,h.rg,h.aU,h.sy,h.sx,h.oy,h.ox,h.at',h.sat,h.alt,h.non⟩
theorem o5 {s:Sc}(h:aR s):aR (gl s)∧(gl s).rows=s.rows∧(gl s).aa=s.aa∧(gl s).wrap=false∧(gl s).auto=s.auto∧(gl s).attr=s.attr:=by
 have n:=gY h
 unfold gl
 split
 ·exact ⟨n.1.x0 n.2.2.2.2.1,n.2.1,n.2.2.1,n.2.2.2.2.1,n.2.2.2.2.2.1,n.2.2.2.2.2.2⟩
 ·rename_i hw
  exact ⟨h,rfl,rfl,by simpa using hw,rfl,rfl⟩
theorem kq (s:Sc)(r:Int)(w:Nat):(fy s r w).length=s.cells.length:=by
 unfold fy
 split <;> simp
theorem gw {L:List Ce}{rows aa y:Nat}(g:bW L rows aa)(hy:y<rows):(cS L aa y).length=L.length:=fT g hy (by rw [bO,bK g hy])
theorem aR.cells {s:Sc}(h:aR s){L:List Ce}(hL:L.length=s.cells.length):aR { s with cells:=L}:=
 ⟨h.g.eI hL,h.y,h.x,h.wr,h.tb,h.b,h.rg,h.aU,h.sy,h.sx,h.oy,h.ox,h.at',h.sat,h.alt,h.non⟩
theorem aR.A8 {s:Sc}(h:aR s):aR { s with wrap:=false}:=
 ⟨h.g,h.y,h.x,by simp,h.tb,h.b,h.rg,h.aU,h.sy,h.sx,h.oy,h.ox,h.at',h.sat,h.alt,h.non⟩
theorem aR.place {s:Sc}(h:aR s){y x:Nat}(hy:y<s.rows)(hx:x<s.aa):aR { s with y:=y,x:=x,wrap:=false}:=
 ⟨h.g,hy,hx,by simp,h.tb,h.b,h.rg,h.aU,h.sy,h.sx,h.oy,h.ox,h.at',h.sat,h.alt,h.non⟩
theorem aR.cw {s:Sc}(h:aR s){L:List Ce}(hL:L.length=s.cells.length):aR { s with cells:=L,wrap:=false}:=(h.cells hL).A8
theorem aR.cw0 {s:Sc}(h:aR s){L:List Ce}(hL:L.length=s.cells.length):aR { s with cells:=L,wrap:=false,x:=0}:=(h.cw hL).x0 rfl
theorem MS {s:Sc}(h:aR s)(r:Int)(w:Nat):bW (fy s r w) s.rows s.aa:=h.g.eI (kq s r w)
theorem Pv {s:Sc}(h:aR s)(hw:s.wrap=false){r:Int}{w:Nat}:aR (jP s r w):=by
 have hl:(cS (fy s r w) s.aa s.y).length=s.cells.length:=by rw [gw (MS h r w) h.y,kq]
 have hc:=h.g.c
 unfold jP
 split
 ·exact ⟨h.g.eI hl,h.y,by show s.aa-1<s.aa;omega,fun _=>by show s.aa-1+1=s.aa;omega,h.tb,h.b,h.rg,h.aU,h.sy,h.sx,h.oy,h.ox,h.at',h.sat,h.alt,h.non⟩
 ·exact ⟨h.g.eI hl,h.y,by show s.x+w<s.aa;omega,by simp [hw],h.tb,h.b,h.rg,h.aU,h.sy,h.sx,h.oy,h.ox,h.at',h.sat,h.alt,h.non⟩
theorem Sn {s:Sc}(h:aR s)(r:Int):aR (iU s r):=by
 have w:=o5 h
 have n:=gY w.1
 unfold iU
 split
 ·exact h
 ·split
  ·split
   ·exact w.1
   ·exact Pv (n.1.x0 n.2.2.2.2.1) n.2.2.2.2.1
  ·exact Pv w.1 w.2.2.2.1
theorem YM {s:Sc}(h:aR s)(b:Int):aR (xz s b):=by
 have hx:=h.x
 unfold xz
 split
 ·exact ⟨h.g,h.y,by show s.x-1<s.aa;omega,by simp,h.tb,h.b,h.rg,h.aU,h.sy,h.sx,h.oy,h.ox,h.at',h.sat,h.alt,h.non⟩
 ·split
  ·exact ⟨h.g,h.y,by show min _ (s.aa-1)<s.aa;omega,by simp,h.tb,h.b,h.rg,h.aU,h.sy,h.sx,h.oy,h.ox,h.at',h.sat,h.alt,h.non⟩
  ·split
   ·exact (gY h).1
   ·split
    ·exact (h.A8).x0 rfl
    ·exact h
theorem YL {s:Sc}(h:aR s)(b:Int):aR (jD s b):=by
 have hy:=h.y
 have n:=gY h
 unfold jD
 split
 ·exact ⟨h.g,h.y,h.x,h.wr,h.tb,h.b,h.rg,h.aU,h.y,h.x,h.oy,h.ox,h.at',h.at',h.alt,h.non⟩
 split
 ·exact ⟨h.g,h.sy,h.sx,by simp,h.tb,h.b,h.rg,h.aU,h.sy,h.sx,h.oy,h.ox,h.sat,h.sat,h.alt,h.non⟩
 split
 ·exact n.1
 split
 ·exact n.1.x0 n.2.2.2.2.1
 split
 ·split
  ·exact h.cw (mP h.g h.b h.tb)
  ·exact ⟨h.g,by show s.y-1<s.rows;omega,h.x,by simp,h.tb,h.b,h.rg,h.aU,h.sy,h.sx,h.oy,h.ox,h.at',h.sat,h.alt,h.non⟩
 split
 ·exact ⟨h.g,h.y,h.x,h.wr,h.tb,h.b,h.rg,by show (s.aU.set s.x true).length=s.aa;rw [List.length_set];exact h.aU,h.sy,h.sx,h.oy,h.ox,h.at',h.sat,h.alt,h.non⟩
 split
 ·exact uJ h.g.r h.g.c
 ·exact h
theorem sH {s:Sc}(h:aR s)(y x:Int):aR (toF s y x):=h.place (by have:=h.y;omega) (by have:=h.x;omega)
theorem Wj {s:Sc}(h:aR s):s.y*s.aa+s.x<s.cells.length∧(s.y+1)*s.aa≤s.cells.length∧s.y*s.aa+s.aa=(s.y+1)*s.aa:=by
 have h1:=dc (aa:=s.aa) h.y
 have h2:=bB s.y s.aa
 have h3:=h.x
 rw [h.g.len];omega
theorem HR {a b:Int}(ha:0≤a∧a≤65535)(hb:0≤b∧b≤65535):0≤mJ a b∧mJ a b≤65535:=by
 unfold mJ
 have:a.toNat ||| b.toNat<2 ^ 16:=Nat.or_lt_two_pow (by omega) (by omega)
 omega
theorem mR {a:Int}{m:Nat}(ha:0≤a∧a≤65535):0≤jl a m∧jl a m≤65535:=by
 unfold jl
 have:a.toNat &&& (65535 ^^^ m)≤a.toNat:=Nat.and_le_left
 omega
theorem Kc {a k:Int}(ha:0≤a∧a≤65535):0≤bR a k∧bR a k≤65535:=by
 unfold bR
 repeat' split
 all_goals first
  | omega
  | exact HR ha (by decide)
  | exact mR ha
  | exact HR (mR ha) (by omega)
  | exact ha
theorem uL:∀{ps:List Int} {a:Int},(0≤a∧a≤65535)→0≤ps.foldl bR a∧ps.foldl bR a≤65535
 | [],a,h=>h
 | k::ps,a,h=>uL (ps:=ps) (Kc h)
theorem Ea {M:List Ce}{k:Int}{x:Nat}:(M.take x++oc (br k) (M.drop x)).length=M.length:=by rw [List.length_append,ko];simp;omega
theorem D9 {M:List Ce}{k:Int}{x:Nat}:(M.take x++oa (br k) (M.drop x)).length=M.length:=by rw [List.length_append,kn];simp;omega
theorem Kg {L:List Ce}{rows aa y x:Nat}{n:Int}(g:bW L rows aa)(hy:y<rows):(Dv L aa y x n).length=L.length:=fT g hy (by rw [bO,Ea,bK g hy])
theorem Lc {L:List Ce}{rows aa y x:Nat}{n:Int}(g:bW L rows aa)(hy:y<rows):(Dz L aa y x n).length=L.length:=fT g hy (by rw [bO,D9,bK g hy])
theorem jv {L:List Ce}{rows aa y:Nat}{a b:Int}(g:bW L rows aa)(hy:y<rows):(kJ L aa y a b).length=L.length:=by
 refine fT g hy ?_
 have:=bK g hy
 rw [bO,bL (by omega) (by rw [this];unfold cI;omega) (by simp),this]
theorem xw {s:Sc}(h:aR s)(k:Int):∀n,n≤s.rows→bW (gD s k n) s.rows s.aa
 | 0,_=>h.g
 | n+1,hn=>by
  have ih:=xw h k n (by omega)
  unfold gD
  split
  ·exact ih.eI (jv ih (by omega))
  ·split
   ·exact ih.eI (jv ih (by omega))
   ·exact ih
theorem Fp {s:Sc}(h:aR s)(row:Bool)(k:Int):aR (fL s row k):=by
 unfold fL
 split
 ·refine h.cw ?_
  split
  ·exact jv h.g h.y
  ·rw [(xw h k s.rows (Nat.le_refl _)).len,h.g.len]
 ·exact h.A8
theorem YO {s:Sc}(h:aR s)(b:Int)(ps:List Int):aR (eJ s b ps):=by
 have hy:=h.y
 have hb:=h.b
 unfold eJ
 dsimp only
 have c0:∀{c:Prop} [Decidable c] {x y:Sc},(c→aR x)→(¬c→aR y)→aR (if c then x else y):=fun {c} _ {x y} h1 h2=>by
  by_cases hc:c
  ·rw [if_pos hc];exact h1 hc
  ·rw [if_neg hc];exact h2 hc
 refine c0 (fun _=>sH h _ _) fun _=>c0 (fun _=>sH h _ _) fun _=>c0 (fun _=>sH h _ _) fun _=>c0 (fun _=>sH h _ _) fun _=>c0 (fun _=>sH h _ _) fun _=>c0 (fun _=>sH h _ _) fun _=>c0 (fun _=>sH h _ _) fun _=>?_
 refine c0 (fun _=>Fp h _ _) fun _=>c0 (fun _=>Fp h _ _) fun _=>?_
 refine c0 (fun _=>c0 (fun hh=>h.cw0 (mP h.g h.b hh.2)) fun _=>h.A8) fun _=>c0 (fun _=>c0 (fun hh=>h.cw0 (mL h.g h.b hh.2)) fun _=>h.A8) fun _=>?_
 refine c0 (fun _=>h.cw (mL h.g h.b h.tb)) fun _=>c0 (fun _=>h.cw (mP h.g h.b h.tb)) fun _=>?_
 refine c0 (fun _=>h.cw (Kg h.g hy)) fun _=>c0 (fun _=>h.cw (Lc h.g hy)) fun _=>c0 (fun _=>h.cw (jv h.g hy)) fun _=>?_
 refine c0 (fun _=>c0 (fun hh=>?_) fun _=>h) fun _=>c0 (fun _=>c0 (fun _=>?_) fun _=>c0 (fun _=>?_) fun _=>h) fun _=>c0 (fun _=>?_) fun _=>h
 ·have hr:=h.g.r
  have hc:=h.g.c
  have hbt:(if bE ps 1=0∨(s.rows:Int)<bE ps 1 then (s.rows:Int) else bE ps 1)≤s.rows:=by split <;> omega
  have hn:1≤max (bE ps 0) 1:=by omega
  generalize (if bE ps 1=0∨(s.rows:Int)<bE ps 1 then (s.rows:Int) else bE ps 1)=bt at *
  generalize max (bE ps 0) 1=n at *
  exact ⟨h.g,by show 0<s.rows;omega,by show 0<s.aa;omega,by simp,by show (n-1).toNat≤(bt-1).toNat;omega,by show (bt-1).toNat<s.rows;omega,.inl (by show (n-1).toNat<(bt-1).toNat;omega),h.aU,h.sy,h.sx,h.oy,h.ox,h.at',h.sat,h.alt,h.non⟩
 ·exact ⟨h.g,h.y,h.x,h.wr,h.tb,h.b,h.rg,by simp,h.sy,h.sx,h.oy,h.ox,h.at',h.sat,h.alt,h.non⟩
 ·exact ⟨h.g,h.y,h.x,h.wr,h.tb,h.b,h.rg,by show (s.aU.set s.x false).length=s.aa;rw [List.length_set];exact h.aU,h.sy,h.sx,h.oy,h.ox,h.at',h.sat,h.alt,h.non⟩
 ·refine ⟨h.g,h.y,h.x,h.wr,h.tb,h.b,h.rg,h.aU,h.sy,h.sx,h.oy,h.ox, ?_,h.sat,h.alt,h.non⟩
  show 0≤(if ps=[] then 0 else ps.foldl bR s.attr)∧(if ps=[] then 0 else ps.foldl bR s.attr)≤65535
  split
  ·omega
  ·exact uL h.at'
theorem J1 {on:Bool}{s:Sc}(h:aR s)(k:Int):aR (dZ on s k):=by
 have hr:=h.g.r
 have hc:=h.g.c
 unfold dZ
 split
 ·exact ⟨h.g,h.y,h.x,h.wr,h.tb,h.b,h.rg,h.aU,h.sy,h.sx,h.oy,h.ox,h.at',h.sat,h.alt,h.non⟩
 split
 ·exact ⟨h.g,h.y,h.x,h.wr,h.tb,h.b,h.rg,h.aU,h.sy,h.sx,h.oy,h.ox,h.at',h.sat,h.alt,h.non⟩
 split
 ·exact ⟨xC hr hc,h.y,h.x,by simp,h.tb,h.b,h.rg,h.aU,h.sy,h.sx,h.y,h.x,h.at',h.sat,fun _=>h.g,by simp⟩
 split
 ·rename_i hh
  have ha:=h.alt hh.2.2
  exact ⟨ha,h.oy,h.ox,by simp,h.tb,h.b,h.rg,h.aU,h.sy,h.sx,by show 0<s.rows;omega,by show 0<s.aa;omega,h.at',h.sat,by simp,by simp⟩
 ·exact h
def osL:Option (List Int)→List Int
 | none=> []
 | some l=>l
def zv (L:List Ce)(i:Nat):Prop:=(hAt L i=1∧(i+1=L.length∨hAt L (i+1)≠2))∨(hAt L i=2∧(i=0∨hAt L (i-1)≠1))
theorem zS {L:List Ce}{i:Nat}(h:zv L i):dF L i=aN:=if_pos h
theorem lO {L:List Ce}{i:Nat}(h:¬zv L i):dF L i=L.getD i aN:=if_neg h
theorem nY (L:List Ce):fe (fe L)=fe L:=by
 refine dH (by rw [bO,bO]) fun i hi=>?_
 rw [bO,bO] at hi
 rw [lY (by rw [bO];exact hi)]
 have hat:∀j<L.length,hAt (fe L) j=(dF L j).h:=fun j hj=>by unfold hAt;rw [lY hj]
 rcases Classical.em (zv (fe L) i) with hb | hb
 ·exfalso
  unfold zv at hb
  rw [bO,hat i hi] at hb
  rcases Classical.em (zv L i) with h0 | h0
  ·rw [zS h0] at hb;simp [aN] at hb
  ·rw [lO h0] at hb
   change (hAt L i=1∧_)∨(hAt L i=2∧_) at hb
   rcases hb with ⟨h1,h2⟩ | ⟨h1,h2⟩
   ·have h3:i+1<L.length∧hAt L (i+1)=2:=by
     unfold zv at h0
     constructor
     ·rcases Nat.lt_or_ge (i+1) L.length with h | h;exact h;exact absurd (.inl ⟨h1,.inl (by omega)⟩) h0
     ·rcases Decidable.em (hAt L (i+1)=2) with h | h;exact h;exact absurd (.inl ⟨h1,.inr h⟩) h0
    rcases h2 with h2 | h2
    ·omega
    ·rw [hat _ h3.1,lO (by unfold zv;rw [h3.2];rintro (⟨h4,_⟩ | ⟨_,h4 | h4⟩);omega;omega;exact h4 h1)] at h2
     exact h2 h3.2
   ·have h3:0<i∧hAt L (i-1)=1:=by
     unfold zv at h0
     constructor
     ·rcases Nat.eq_zero_or_pos i with h | h;exact absurd (.inr ⟨h1,.inl h⟩) h0;exact h
     ·rcases Decidable.em (hAt L (i-1)=1) with h | h;exact h;exact absurd (.inr ⟨h1,.inr h⟩) h0
    rcases h2 with h2 | h2
    ·omega
    ·rw [hat _ (by omega),lO (by
      unfold zv;rw [h3.2,show i-1+1=i by omega,h1]
      rintro (⟨_,h4 | h4⟩ | ⟨h4,_⟩)
      ·omega
      ·exact h4 rfl
      ·omega)] at h2
     exact h2 h3.2
 ·exact lO hb
def WhG (L:List Ce)(rows aa:Nat):Prop:=∀y<rows,fe (cM L aa y)=cM L aa y
theorem nr {L R:List Ce}{rows aa y y':Nat}(g:bW L rows aa)(hy:y<rows)(hy':y'<rows)(hR:R.length=aa):cM (kD L aa y R) aa y'=if y'=y then R else cM L aa y':=by
 have gp:bW (kD L aa y R) rows aa:=g.eI (fT g hy hR)
 have s1:=bB y aa
 have s2:=bB y' aa
 refine dH ?_ fun i hi=>?_
 ·rw [bK gp hy'];split
  ·exact hR.symm
  ·exact (bK g hy').symm
 ·rw [bK gp hy'] at hi
  rw [cL gp hy' hi,iy g hy hR]
  rcases Nat.lt_trichotomy y' y with h | h | h
  ·have:(y'+1)*aa≤y*aa:=Nat.mul_le_mul_right _ h
   rw [if_pos (by omega),if_neg (by omega),cL g hy' hi]
  ·subst h
   rw [if_neg (by omega),if_pos (by omega),if_pos rfl]
   congr 1;omega
  ·have:(y+1)*aa≤y'*aa:=Nat.mul_le_mul_right _ h
   rw [if_neg (by omega),if_neg (by omega),if_neg (by omega),cL g hy' hi]
theorem WhG.put {L R:List Ce}{rows aa y:Nat}(w:WhG L rows aa)(g:bW L rows aa)(hy:y<rows)(hR:R.length=aa)(hw:fe R=R):WhG (kD L aa y R) rows aa:=fun y' hy'=>by
 rw [nr g hy hy' hR]
 split
 ·exact hw
 ·exact w y' hy'
theorem WhG.Vm {L:List Ce}{rows aa y:Nat}(g:bW L rows aa)(hy:y<rows)(w:∀y'<rows,y'≠y→fe (cM L aa y')=cM L aa y'):WhG (cS L aa y) rows aa:=fun y' hy'=>by
 unfold cS
 rw [nr g hy hy' (by rw [bO,bK g hy])]
 split
 ·exact nY _
 ·exact w y' hy' ‹_›
theorem qF (n:Nat):fe (List.replicate n aN)=List.replicate n aN:=by
 refine dH (by rw [bO]) fun i hi=>?_
 rw [bO,List.length_replicate] at hi
 have h0:hAt (List.replicate n aN) i=0:=by unfold hAt;rw [gq];first | rfl | (split <;> rfl)
 rw [lY (by simpa using hi),lO (by unfold zv;rw [h0];rintro (⟨h,_⟩ | ⟨h,_⟩) <;> omega)]
theorem gU {L R:List Ce}{rows aa y:Nat}(g:bW L rows aa)(hy:y<rows)(hR:R.length=aa)(h:∀x<aa,L.getD (y*aa+x) aN=R.getD x aN):cM L aa y=R:=
 dH (by rw [bK g hy,hR]) fun i hi=>by
  rw [bK g hy] at hi
  rw [cL g hy hi,h i hi]
theorem WhG.up {L:List Ce}{rows aa top bot:Nat}{n:Int}(w:WhG L rows aa)(g:bW L rows aa)(hb:bot<rows)(ht:top≤bot):WhG (upF L aa top bot n) rows aa:=fun y hy=>by
 have gp:bW (upF L aa top bot n) rows aa:=g.eI (mL g hb ht)
 have s1:=bB y aa
 rcases (show (y<top∨bot<y)∨(top≤y∧y≤bot) by omega) with h | h
 ·rw [gU (R:=cM L aa y) gp hy (bK g hy) fun x hx=>by
   rw [cL g hy hx,Ou g hb ht]
   rcases h with h | h
   ·left;have:(y+1)*aa≤top*aa:=Nat.mul_le_mul_right _ h
    omega
   ·right;have:(bot+1)*aa≤y*aa:=Nat.mul_le_mul_right _ h
    omega]
  exact w y hy
 ·rcases Nat.lt_or_ge bot (y+br n) with hn | hn
  ·rw [gU (R:=List.replicate aa aN) gp hy (by simp) fun x hx=>by rw [MH g hb ht hx h,if_neg (by omega),gq]]
   exact qF _
  ·rw [gU (R:=cM L aa (y+br n)) gp hy (bK g (by omega)) fun x hx=>by rw [MH g hb ht hx h,if_pos hn,cL g (by omega) hx]]
   exact w _ (by omega)
theorem WhG.dn {L:List Ce}{rows aa top bot:Nat}{n:Int}(w:WhG L rows aa)(g:bW L rows aa)(hb:bot<rows)(ht:top≤bot):WhG (dnF L aa top bot n) rows aa:=fun y hy=>by
 have gp:bW (dnF L aa top bot n) rows aa:=g.eI (mP g hb ht)
 have s1:=bB y aa
 rcases (show (y<top∨bot<y)∨(top≤y∧y≤bot) by omega) with h | h
 ·rw [gU (R:=cM L aa y) gp hy (bK g hy) fun x hx=>by
   rw [cL g hy hx,QF g hb ht]
   rcases h with h | h
   ·left;have:(y+1)*aa≤top*aa:=Nat.mul_le_mul_right _ h
    omega
   ·right;have:(bot+1)*aa≤y*aa:=Nat.mul_le_mul_right _ h
    omega]
  exact w y hy
 ·rcases Nat.lt_or_ge y (top+br n) with hn | hn
  ·rw [gU (R:=List.replicate aa aN) gp hy (by simp) fun x hx=>by rw [NC g hb ht hx h,if_neg (by omega),gq]]
   exact qF _
  ·rw [gU (R:=cM L aa (y-br n)) gp hy (bK g (by omega)) fun x hx=>by rw [NC g hb ht hx h,if_pos hn,cL g (by omega) hx]]
   exact w _ (by omega)
theorem WhG.blank {rows aa:Nat}(hr:1≤rows∧rows≤1000)(hc:1≤aa∧aa≤1000):WhG (dL rows aa) rows aa:=fun y hy=>by
 have g:bW (dL rows aa) rows aa:=xC hr hc
 rw [gU (R:=List.replicate aa aN) g hy (by simp) fun x hx=>by unfold dL;rw [gq,gq]]
 exact qF _
theorem WhG.set {L:List Ce}{rows aa y i:Nat}{c:Ce}(w:WhG L rows aa)(g:bW L rows aa)(hy:y<rows)(hi:y*aa≤i∧i<(y+1)*aa):∀y'<rows,y'≠y→cM (L.set i c) aa y'=cM L aa y':=fun y' hy' hne=>by
 have gp:bW (L.set i c) rows aa:=g.eI (by simp)
 have hl:=dc (aa:=aa) hy
 refine gU gp hy' (bK g hy') fun x hx=>?_
 rw [cL g hy' hx,lR (by rw [g.len];omega),if_neg]
 have s2:=bB y' aa
 rcases Nat.lt_or_gt_of_ne hne with h | h
 ·have:(y'+1)*aa≤y*aa:=Nat.mul_le_mul_right _ h
  omega
 ·have:(y+1)*aa≤y'*aa:=Nat.mul_le_mul_right _ h
  omega
theorem WhG.era {L:List Ce}{rows aa y:Nat}{a b:Int}(w:WhG L rows aa)(g:bW L rows aa)(hy:y<rows):WhG (kJ L aa y a b) rows aa:=by
 have hl:=jv (a:=a) (b:=b) g hy
 unfold kJ
 refine w.put g hy ?_ (nY _)
 rw [bO,bL (Nat.le_max_left _ _) (by rw [bK g hy];unfold cI;omega) (by simp),bK g hy]
theorem WhG.ins {L:List Ce}{rows aa y x:Nat}{n:Int}(w:WhG L rows aa)(g:bW L rows aa)(hy:y<rows):WhG (Dv L aa y x n) rows aa:=w.put g hy (by rw [bO,Ea,bK g hy]) (nY _)
theorem WhG.del {L:List Ce}{rows aa y x:Nat}{n:Int}(w:WhG L rows aa)(g:bW L rows aa)(hy:y<rows):WhG (Dz L aa y x n) rows aa:=w.put g hy (by rw [bO,D9,bK g hy]) (nY _)
theorem VY {s:Sc}(h:aR s)(w:WhG s.cells s.rows s.aa)(k:Int):∀n,n≤s.rows→WhG (gD s k n) s.rows s.aa
 | 0,_=>w
 | n+1,hn=>by
  have g:=xw h k n (by omega)
  have ih:=VY h w k n (by omega)
  unfold gD
  split
  ·exact ih.era g (by omega)
  ·split
   ·exact ih.era g (by omega)
   ·exact ih
structure ScW (s:Sc):Prop where
 c:WhG s.cells s.rows s.aa
 o:s.alt=true→WhG s.other s.rows s.aa
theorem Vg {rows aa:Nat}(hr:1≤rows∧rows≤1000)(hc:1≤aa∧aa≤1000):ScW (newF rows aa):=⟨WhG.blank hr hc,fun h=>by cases h⟩
theorem uH {s:Sc}(h:aR s)(w:ScW s):ScW (cD s):=by
 unfold cD
 split
 ·exact ⟨w.c.up h.g h.b h.tb,w.o⟩
 ·split
  ·exact ⟨w.c,w.o⟩
  ·exact ⟨w.c,w.o⟩
theorem Xd {s:Sc}(h:aR s)(w:ScW s):ScW (gl s):=by
 unfold gl
 split
 ·have:=uH h w;exact ⟨this.c,this.o⟩
 ·exact w
theorem K4 {s:Sc}(h:aR s)(w:ScW s)(row:Bool)(k:Int):ScW (fL s row k):=by
 unfold fL
 split
 ·cases row
  ·exact ⟨VY h w.c k s.rows (Nat.le_refl _),w.o⟩
  ·exact ⟨w.c.era h.g h.y,w.o⟩
 ·exact ⟨w.c,w.o⟩
theorem Uf {s:Sc}(h:aR s)(w:ScW s){r:Int}{n:Nat}(h2:n=2→s.x+1<s.aa):WhG (cS (fy s r n) s.aa s.y) s.rows s.aa:=by
 have hx:=h.x
 have s1:=bB s.y s.aa
 have hl:=dc (aa:=s.aa) h.y
 unfold fy
 split
 ·have h3:=h2 ‹_›
  have g1:bW (s.cells.set (s.y*s.aa+s.x) ⟨r,s.attr,1⟩) s.rows s.aa:=h.g.eI (by simp)
  have g2:bW ((s.cells.set (s.y*s.aa+s.x) ⟨r,s.attr,1⟩).set (s.y*s.aa+s.x+1) ⟨0,s.attr,2⟩) s.rows s.aa:=h.g.eI (by simp)
  refine WhG.Vm g2 h.y fun y' hy' hne=>?_
  have e1:=w.c.set h.g h.y (i:=s.y*s.aa+s.x) (c:=⟨r,s.attr,1⟩) (by omega) y' hy' hne
  have e2:cM ((s.cells.set (s.y*s.aa+s.x) ⟨r,s.attr,1⟩).set (s.y*s.aa+s.x+1) ⟨0,s.attr,2⟩) s.aa y'=cM (s.cells.set (s.y*s.aa+s.x) ⟨r,s.attr,1⟩) s.aa y':=by
   refine gU g2 hy' (bK g1 hy') fun x hx'=>?_
   rw [cL g1 hy' hx',lR (by rw [g1.len];omega),if_neg]
   have s2:=bB y' s.aa
   rcases Nat.lt_or_gt_of_ne hne with h | h
   ·have:(y'+1)*s.aa≤s.y*s.aa:=Nat.mul_le_mul_right _ h
    omega
   ·have:(s.y+1)*s.aa≤y'*s.aa:=Nat.mul_le_mul_right _ h
    omega
  rw [e2,e1]
  exact w.c y' hy'
 ·have g1:bW (s.cells.set (s.y*s.aa+s.x) ⟨r,s.attr,0⟩) s.rows s.aa:=h.g.eI (by simp)
  refine WhG.Vm g1 h.y fun y' hy' hne=>?_
  rw [w.c.set h.g h.y (i:=s.y*s.aa+s.x) (c:=⟨r,s.attr,0⟩) (by omega) y' hy' hne]
  exact w.c y' hy'
theorem UK {s:Sc}(h:aR s)(w:ScW s){r:Int}{n:Nat}(h2:n=2→s.x+1<s.aa):ScW (jP s r n):=by
 unfold jP
 split
 ·exact ⟨Uf h w h2,w.o⟩
 ·exact ⟨Uf h w h2,w.o⟩
theorem aaG {s:Sc}(h:aR s)(w:ScW s)(b:Int):ScW (xz s b):=by
 unfold xz
 split
 ·exact ⟨w.c,w.o⟩
 ·split
  ·exact ⟨w.c,w.o⟩
  ·split
   ·exact uH h w
   ·split
    ·exact ⟨w.c,w.o⟩
    ·exact w
theorem aaC {s:Sc}(h:aR s)(w:ScW s)(b:Int):ScW (jD s b):=by
 unfold jD
 split
 ·exact ⟨w.c,w.o⟩
 ·split
  ·exact ⟨w.c,w.o⟩
  ·split
   ·exact uH h w
   ·split
    ·have:=uH h w;exact ⟨this.c,this.o⟩
    ·split
     ·split
      ·exact ⟨w.c.dn h.g h.b h.tb,w.o⟩
      ·exact ⟨w.c,w.o⟩
     ·split
      ·exact ⟨w.c,w.o⟩
      ·split
       ·exact Vg h.g.r h.g.c
       ·exact w
theorem UN {s:Sc}(h:aR s)(w:ScW s)(r:Int):ScW (iU s r):=by
 have o:=o5 h
 have v:=Xd h w
 have n:=gY o.1
 have m:=uH o.1 v
 have hx:=o.1.x
 unfold iU
 split
 ·exact w
 ·split
  ·split
   ·exact v
   ·rename_i h1 h2 h3
    refine UK (n.1.x0 n.2.2.2.2.1) ⟨m.c,m.o⟩ fun _=>?_
    show 0+1<(cD (gl s)).aa
    rw [n.2.2.1,o.2.2.1]
    have:=h.g.c
    have:s.aa≠1:=fun e=>h3 (.inr e)
    omega
  ·rename_i h1 h2
   refine UK o.1 v fun e=>?_
   rw [o.2.2.1] at hx ⊢
   have:(gl s).x+1≠s.aa:=fun e2=>h2 ⟨e,e2⟩
   omega
theorem zW {s:Sc}(w:ScW s)(y x:Int):ScW (toF s y x):=⟨w.c,w.o⟩
theorem aaI {s:Sc}(h:aR s)(w:ScW s)(b:Int)(ps:List Int):ScW (eJ s b ps):=by
 have hy:=h.y
 have hb:=h.b
 have nw:ScW { s with wrap:=false}:=⟨w.c,w.o⟩
 unfold eJ
 dsimp only
 have c0:∀{c:Prop} [Decidable c] {x y:Sc},(c→ScW x)→(¬c→ScW y)→ScW (if c then x else y):=fun {c} _ {x y} h1 h2=>by
  by_cases hc:c
  ·rw [if_pos hc];exact h1 hc
  ·rw [if_neg hc];exact h2 hc
 refine c0 (fun _=>zW w _ _) fun _=>c0 (fun _=>zW w _ _) fun _=>c0 (fun _=>zW w _ _) fun _=>c0 (fun _=>zW w _ _) fun _=>c0 (fun _=>zW w _ _) fun _=>c0 (fun _=>zW w _ _) fun _=>c0 (fun _=>zW w _ _) fun _=>?_
 refine c0 (fun _=>K4 h w _ _) fun _=>c0 (fun _=>K4 h w _ _) fun _=>?_
 refine c0 (fun _=>c0 (fun hh=>⟨w.c.dn h.g h.b hh.2,w.o⟩) fun _=>nw) fun _=>c0 (fun _=>c0 (fun hh=>⟨w.c.up h.g h.b hh.2,w.o⟩) fun _=>nw) fun _=>?_
 refine c0 (fun _=>⟨w.c.up h.g h.b h.tb,w.o⟩) fun _=>c0 (fun _=>⟨w.c.dn h.g h.b h.tb,w.o⟩) fun _=>?_
 refine c0 (fun _=>⟨w.c.ins h.g hy,w.o⟩) fun _=>c0 (fun _=>⟨w.c.del h.g hy,w.o⟩) fun _=>c0 (fun _=>⟨w.c.era h.g hy,w.o⟩) fun _=>?_
 exact c0 (fun _=>c0 (fun hh=>⟨w.c,w.o⟩) fun _=>w) fun _=>c0 (fun _=>c0 (fun _=>⟨w.c,w.o⟩) fun _=>c0 (fun _=>⟨w.c,w.o⟩) fun _=>w) fun _=>c0 (fun _=>⟨w.c,w.o⟩) fun _=>w
theorem Ym {on:Bool}{s:Sc}(h:aR s)(w:ScW s)(k:Int):ScW (dZ on s k):=by
 unfold dZ
 split
 ·exact ⟨w.c,w.o⟩
 split
 ·exact ⟨w.c,w.o⟩
 split
 ·exact ⟨WhG.blank h.g.r h.g.c,fun _=>w.c⟩
 split
 ·rename_i hh
  exact ⟨w.o hh.2.2,fun e=>by cases e⟩
 ·exact w
theorem ax (d:DV):wkT d d=True:=eq_true (fP d)
noncomputable def AQ:RFn:=⟨1,9,(SR [MB 2 false] [0] (SR [MV 3 0,BI 4 .geq 3 1,MV 5 4,MG 6 0 5 true,OG 7 (.bin .leq (.t 6) (.c (.int .i64 1000))) 5 true,OP 8 (.pick (.t 5) (.t 7) (.c (.bool false))),MV 2 8] [2] .ret)),[.t 2]⟩
theorem JC:aK PG.P [⟨0,0,[0],[]⟩,⟨1,0,[2],[]⟩] 76=some AQ:=by kernel_rfl
noncomputable def Hh:RFn:=⟨1,6,(SR [OP 2 (.mov (.c (.int .i64 0)))] [0] (SR [MV 3 0,OP 4 (.mm true (.t 3) (.c (.int .i64 0))),OP 5 (.mm false (.t 4) (.c (.int .i64 1000))),MV 2 5] [2] .ret)),[.t 2]⟩
theorem Nf:aK PG.P [⟨0,0,[0],[]⟩,⟨1,0,[2],[]⟩] 132=some Hh:=by kernel_rfl
noncomputable def AR:RFn:=⟨2,27,(SR [OP 4 (.mov (.c (.int .i64 0)))] [0,1] (.seq (SR [MV 5 1,OP 6 (.call 76 [.t 5]),OP 7 (.un .not (.t 6)),MV 8 7,MG 9 0 8 false,OG 10 (.len (.t 9)) 8 false,MG 11 1 8 false,OG 12 (.bin .rem (.t 10) (.t 11)) 8 false,OG 13 (.bin .neq (.t 12) (.c (.int .i64 0))) 8 false,OP 14 (.pick (.t 8) (.c (.bool true)) (.t 13)),MV 15 14,MG 16 0 15 false,OG 17 (.len (.t 16)) 15 false,MG 18 1 15 false,OG 19 (.bin .quo (.t 17) (.t 18)) 15 false,OG 20 (.call 76 [.t 19]) 15 false,OG 21 (.un .not (.t 20)) 15 false,OP 22 (.pick (.t 15) (.c (.bool true)) (.t 21))] [0,1,22] (.cond (.t 22) (SR [OP 4 (.mov (.c (.int .i64 0)))] [4] .ret) .skip)) (SR [MV 23 0,OP 24 (.len (.t 23)),MV 25 1,BT 26 .quo 24 25,MV 4 26] [4] .ret))),[.t 4]⟩
theorem JD:aK PG.P [⟨0,0,[0,1],[]⟩,⟨1,0,[0,1,22],[]⟩,⟨2,0,[4],[]⟩,⟨3,0,[4],[]⟩] 80=some AR:=by kernel_rfl
noncomputable def wh:RFn:=⟨4,23,(SR [MB 8 false] [0,1,2,3] (SR [MV 9 2,BI 10 .geq 9 0,MV 11 10,MG 12 2 11 true,MG 13 3 11 true,OG 14 (.bin .leq (.t 12) (.t 13)) 11 true,OP 15 (.pick (.t 11) (.t 14) (.c (.bool false))),MV 16 15,MG 17 3 16 true,MG 18 0 16 true,MG 19 1 16 true,OG 20 (.call 80 [.t 18,.t 19]) 16 true,OG 21 (.bin .lss (.t 17) (.t 20)) 16 true,OP 22 (.pick (.t 16) (.t 21) (.c (.bool false))),MV 8 22] [8] .ret)),[.t 8]⟩
theorem GH:aK PG.P [⟨0,0,[0,1,2,3],[]⟩,⟨1,0,[8],[]⟩] 131=some wh:=by kernel_rfl
noncomputable def wN:RFn:=⟨0,2,(SR [OP 0 (.alloc [.int .i32 0,.int .u16 0,.int .u8 0])] [0] (SR [OP 1 (.build [.int .i32 0,.int .u16 0,.int .u8 0] [(0,(1,(.c (.int .i32 32))))]),SA 3 0 1] [0] .ret)),[.c 0 true 3]⟩
theorem Hr:aK PG.P [⟨0,0,[0],[]⟩,⟨1,0,[0],[]⟩] 82=some wN:=by kernel_rfl
noncomputable def x4:RC:=(SR [BT 6 .lss 5 4] [0,4,5,6] (.seq (.cond (.t 6) .skip (.ext 0)) (.seq (.blk 1 (SR [MV 7 5,MV 2 7] [0,2,4,5] (.reg [MV 8 0,MV 9 2,OP 10 (.call 82 []),OP 11 (.aT 3 (.t 8) (.t 9)),SA 3 11 10] 0 [0,4,5]))) (.reg [BI 12 .add 5 1,MV 5 12] 0 [0,4,5]))))
noncomputable def AT:RFn:=⟨1,13,(SR [MV 3 0,OP 4 (.len (.t 3)),OP 5 (.mov (.c (.int .i64 0)))] [0,4,5] (.blk 0 (.loop x4))),[]⟩
theorem JE:aK PG.P [⟨0,0,[0,4,5],[]⟩,⟨1,0,[0,4,5,6],[]⟩,⟨2,0,[0,2,4,5],[]⟩,⟨3,0,[0,4,5],[]⟩,⟨4,0,[0,4,5],[]⟩] 77=some AT:=by kernel_rfl
noncomputable def jO:RFn:=⟨1,8,(SR [OP 2 (.mov (.c (.sl 0 [] .nil)))] [0] (.seq (SR [MV 3 0,OP 4 (.jw false (.t 3) (.c (.sl 0 [] .nil)))] [0,4] (.cond (.t 4) (SR [OP 2 (.mov (.c (.sl 0 [] .nil)))] [2] .ret) .skip)) (SR [OP 5 (.bJ 3 [.int .i32 0,.int .u16 0,.int .u8 0] 0 []),MV 6 0,OP 7 (.append 3 8 (.t 5) (.t 6)),MV 2 7] [2] .ret))),[.t 2]⟩
theorem ov:aK PG.P [⟨0,0,[0],[]⟩,⟨1,0,[0,4],[]⟩,⟨2,0,[2],[]⟩,⟨3,0,[2],[]⟩] 43=some jO:=by kernel_rfl
noncomputable def ux:RFn:=⟨3,25,(SR [OP 6 (.mov (.c (.sl 0 [] .nil)))] [0,1,2] (.seq (SR [MV 7 2,BI 8 .lss 7 0,MV 9 8,MG 10 2 9 false,MG 11 0 9 false,MG 12 1 9 false,OG 13 (.call 80 [.t 11,.t 12]) 9 false,OG 14 (.bin .geq (.t 10) (.t 13)) 9 false,OP 15 (.pick (.t 9) (.c (.bool true)) (.t 14))] [0,1,2,15] (.cond (.t 15) (SR [OP 6 (.mov (.c (.sl 0 [] .nil)))] [6] .ret) .skip)) (SR [MV 16 0,MV 17 2,MV 18 1,BT 19 .mul 17 18,MV 20 2,BI 21 .add 20 1,MV 22 1,BT 23 .mul 21 22,OP 24 (.slice 3 (.t 16) (some (.t 19)) (some (.t 23)) none),MV 6 24] [6] .ret))),[.t 6]⟩
theorem AS:aK PG.P [⟨0,0,[0,1,2],[]⟩,⟨1,0,[0,1,2,15],[]⟩,⟨2,0,[6],[]⟩,⟨3,0,[6],[]⟩] 44=some ux:=by kernel_rfl
def TG0:FL:=[]
theorem WD:FOk PG (tab TG0):=FOk.nil
def jG (n:Int):Bool:=decide (1≤n∧n≤1000)
theorem zD {n:Int}(h:jG n=true):1≤n∧n≤1000:=by simpa [jG] using h
theorem zE {n:Int}(h:jG n=false):¬(1≤n∧n≤1000):=by simpa [jG] using h
theorem O0 {n:Int}(h:1≤n∧n≤1000):jG n=true:=by simpa [jG] using h
theorem YC {m:Int} :
  az PG 76 [.int .i64 m] fun n RR OO=>RR=(((.bool (jG m),[])):DV × aj).1∧OO=(((.bool (jG m),[])):DV × aj).2:=by
 refine az.cY (res:=fun n=>((.bool (jG m),[]))) WD JC (by simp [AQ]) fun n=>?_
 unfold AQ
 dsimp only
 simp -implicitDefEqProofs -dsimp only [vcS,↓an,↓ak,simprocAttr]
 unfold jG
 simp
 omega
def oM:List DV→Option aS
 | [.int .i64 m]=>some ⟨True,fun n=>((.bool (jG m),[]))⟩
 | _=>none
theorem lW (m:Int):oM [.int .i64 m]=some ⟨True,fun n=>((.bool (jG m),[]))⟩:=au _
theorem VK (args:List DV)(s:aS)(hs:oM args=some s)(hp:s.pre):az PG 76 args fun n r os=>r=(s.res n).1∧os=(s.res n).2:=by
 unfold oM at hs
 split at hs
 ·rename_i m
  obtain rfl:=sj hs
  have this:=YC (m:=m)
  exact this
 ·cases hs
theorem Z4 {m:Int} :
  az PG 132 [.int .i64 m] fun n RR OO=>RR=(((.int .i64 (br m),[])):DV × aj).1∧OO=(((.int .i64 (br m),[])):DV × aj).2:=by
 refine az.cY (res:=fun n=>((.int .i64 (br m),[]))) WD Nf (by simp [Hh]) fun n=>?_
 unfold Hh
 dsimp only
 simp -implicitDefEqProofs -dsimp only [vcS,↓an,↓ak,simprocAttr]
 unfold br
 omega
def tN:List DV→Option aS
 | [.int .i64 m]=>some ⟨True,fun n=>((.int .i64 (br m),[]))⟩
 | _=>none
theorem nU (m:Int):tN [.int .i64 m]=some ⟨True,fun n=>((.int .i64 (br m),[]))⟩:=au _
theorem Yh (args:List DV)(s:aS)(hs:tN args=some s)(hp:s.pre):az PG 132 args fun n r os=>r=(s.res n).1∧os=(s.res n).2:=by
 unfold tN at hs
 split at hs
 ·rename_i m
  obtain rfl:=sj hs
  have this:=Z4 (m:=m)
  exact this
 ·cases hs
def TG1:FL:=(76,oM)::(132,tN)::[]
theorem NX:FOk PG (tab TG1):=FOk.cons (FOk.cons (FOk.nil) Yh) VK
theorem vr (args:List DV):tab TG1 76 args=(oM args).map .o:=au _
theorem yS (args:List DV):tab TG1 132 args=(tN args).map .o:=au _
theorem yR:type_of% (And.intro @vr <| And.intro @lW <| And.intro @yS <| @nU):=And.intro @vr <| And.intro @lW <| And.intro @yS <| @nU
def jo (n:Nat)(c:Int):Int:=if 1≤c∧c≤1000∧(n:Int).tmod c=0∧1≤(n:Int).tdiv c∧(n:Int).tdiv c≤1000 then (n:Int).tdiv c else 0
theorem nj {L:List Ce}{rows aa:Nat}(g:bW L rows aa):jo L.length aa=rows:=by
 have h1:=g.r
 have h2:=g.c
 have h3:(L.length:Int)=(rows:Int)*aa:=by rw [g.len];simp
 have h4:(L.length:Int).tmod aa=0:=by rw [h3];exact Int.mul_tmod_left _ _
 have h5:(L.length:Int).tdiv aa=rows:=by rw [h3];exact Int.mul_tdiv_cancel _ (by omega)
 unfold jo
 rw [h4,h5,if_pos (by omega)]
theorem YD {o_l f_l n_l:Nat}{c:Int}(hp:n_l≤1000000) :
  az PG 80 [.own o_l f_l n_l,.int .i64 c] fun n RR OO=>RR=(((.int .i64 (jo n_l c),[])):DV × aj).1∧OO=(((.int .i64 (jo n_l c),[])):DV × aj).2:=by
 refine az.cY (res:=fun n=>((.int .i64 (jo n_l c),[]))) NX JD (by simp [AR]) fun n=>?_
 unfold AR
 dsimp only
 unfold jo
 cases hs:jG c with
 | false=>
  have h1:=zE hs
  simp -implicitDefEqProofs -dsimp only [yR,hs,vcS,↓an,↓ak,simprocAttr]
  rw [if_neg (by omega)]
 | true=>
  have h1:=zD hs
  have hc:¬c=0:=by omega
  have hc1:¬c= -1:=by omega
  have hd0:0≤(n_l:Int).tdiv c:=Int.tdiv_nonneg (by omega) (by omega)
  have hd1:(n_l:Int).tdiv c≤n_l:=Int.tdiv_le_self _ (by omega)
  have hw:IntKind.i64.wrap ((n_l:Int).tdiv c)=(n_l:Int).tdiv c:=aP (by omega) (by omega)
  by_cases hm:(n_l:Int).tmod c=0
  ·cases hq:jG ((n_l:Int).tdiv c) with
   | false=>
    have h2:=zE hq
    simp -implicitDefEqProofs -dsimp only [yR,hs,hc,hc1,hm,hw,hq,vcS,↓an,↓ak,simprocAttr]
    rw [if_neg (by omega)]
   | true=>
    have h2:=zD hq
    simp -implicitDefEqProofs -dsimp only [yR,hs,hc,hc1,hm,hw,hq,vcS,↓an,↓ak,simprocAttr]
    rw [if_pos (by omega)]
  ·simp -implicitDefEqProofs -dsimp only [yR,hs,hc,hc1,hm,vcS,↓an,↓ak,simprocAttr]
   try rw [if_neg (by omega)]
def q8:List DV→Option aS
 | [.own o_l f_l n_l,.int .i64 c]=>some ⟨n_l≤1000000,fun n=>((.int .i64 (jo n_l c),[]))⟩
 | _=>none
theorem q6 (o_l:Nat)(f_l:Nat)(n_l:Nat)(c:Int):q8 [.own o_l f_l n_l,.int .i64 c]=some ⟨n_l≤1000000,fun n=>((.int .i64 (jo n_l c),[]))⟩:=au _
theorem VL (args:List DV)(s:aS)(hs:q8 args=some s)(hp:s.pre):az PG 80 args fun n r os=>r=(s.res n).1∧os=(s.res n).2:=by
 unfold q8 at hs
 split at hs
 ·rename_i o_l f_l n_l c
  obtain rfl:=sj hs
  have this:=YD (o_l:=o_l) (f_l:=f_l) (n_l:=n_l) (c:=c) hp
  exact this
 ·cases hs
def TG2:FL:=(80,q8)::TG1
theorem WC:FOk PG (tab TG2):=FOk.cons (NX) VL
theorem vq (args:List DV):tab TG2 80 args=(q8 args).map .o:=au _
theorem vp (args:List DV):tab TG2 76 args=(oM args).map .o:=au _
theorem yQ (args:List DV):tab TG2 132 args=(tN args).map .o:=au _
theorem acq:type_of% (And.intro @vq <| And.intro @q6 <| And.intro @vp <| And.intro @lW <| And.intro @yQ <| @nU):=And.intro @vq <| And.intro @q6 <| And.intro @vp <| And.intro @lW <| And.intro @yQ <| @nU
theorem Tw {o_l f_l n_l:Nat}{c:Int}{a:Int}{b:Int}(hp:n_l≤1000000) :
  az PG 131 [.own o_l f_l n_l,.int .i64 c,.int .i64 a,.int .i64 b] fun n RR OO=>RR=(((.bool (decide (0≤a∧a≤b∧b<jo n_l c)),[])):DV × aj).1∧OO=(((.bool (decide (0≤a∧a≤b∧b<jo n_l c)),[])):DV × aj).2:=by
 refine az.cY (res:=fun n=>((.bool (decide (0≤a∧a≤b∧b<jo n_l c)),[]))) WC GH (by simp [wh]) fun n=>?_
 unfold wh
 dsimp only
 simp -implicitDefEqProofs -dsimp only [acq,hp,vcS,↓an,↓ak,simprocAttr]
 refine ⟨fun h1=>⟨fun h2=>by simp [h1,h2],fun h2=>by simp [h2]⟩,fun h1=>by simp [h1]⟩
def qu:List DV→Option aS
 | [.own o_l f_l n_l,.int .i64 c,.int .i64 a,.int .i64 b]=>some ⟨n_l≤1000000,fun n=>((.bool (decide (0≤a∧a≤b∧b<jo n_l c)),[]))⟩
 | _=>none
theorem CR (o_l:Nat)(f_l:Nat)(n_l:Nat)(c:Int)(a:Int)(b:Int):qu [.own o_l f_l n_l,.int .i64 c,.int .i64 a,.int .i64 b]=some ⟨n_l≤1000000,fun n=>((.bool (decide (0≤a∧a≤b∧b<jo n_l c)),[]))⟩:=au _
theorem Rz (args:List DV)(s:aS)(hs:qu args=some s)(hp:s.pre):az PG 131 args fun n r os=>r=(s.res n).1∧os=(s.res n).2:=by
 unfold qu at hs
 split at hs
 ·rename_i o_l f_l n_l c a b
  obtain rfl:=sj hs
  have this:=Tw (o_l:=o_l) (f_l:=f_l) (n_l:=n_l) (c:=c) (a:=a) (b:=b) hp
  exact this
 ·cases hs
def TG3:FL:=(131,qu)::TG2
theorem tK:FOk PG (tab TG3):=FOk.cons (WC) Rz
theorem rV (args:List DV):tab TG3 131 args=(qu args).map .o:=au _
theorem vn (args:List DV):tab TG3 80 args=(q8 args).map .o:=au _
theorem vm (args:List DV):tab TG3 76 args=(oM args).map .o:=au _
theorem yP (args:List DV):tab TG3 132 args=(tN args).map .o:=au _
theorem gJ:type_of% (And.intro @rV <| And.intro @CR <| And.intro @vn <| And.intro @q6 <| And.intro @vm <| And.intro @lW <| And.intro @yP <| @nU):=And.intro @rV <| And.intro @CR <| And.intro @vn <| And.intro @q6 <| And.intro @vm <| And.intro @lW <| And.intro @yP <| @nU
theorem pV {T:aj}{K:DV→aj→Prop}(h:∀T',aA T T' []→K (.agg aN.row) T'):aq PG 82 [] T K:=by
 refine aq.aE FOk.nil Hr (by simp [wN]) ?_
 unfold wN
 dsimp only
 simp -implicitDefEqProofs -dsimp only [ah,vcS,↓an,↓ak,simprocAttr]
 exact h _ (aA.app _ _ _)
theorem pY {T:aj}{q off n:Nat}{L:List Ce}{K:DV→aj→Prop}(hq:T[q]?=some (some (.arr 3 (av L))))(ho:off+n≤L.length)(h0:0<n)(hl:L.length≤1000000)
  (h:∀T' p,T.length≤p→T'[p]?=some (some (.arr 3 (av ((L.drop off).take n))))→aA T T' []→K (.own p 0 n) T'):aq PG 43 [.own q off n] T K:=by
 refine aq.aE FOk.nil ov (by simp [jO]) ?_
 unfold jO
 dsimp only
 have hlen:(List.take n (List.drop off (av L))).length=n:=by simp [aH];omega
 simp -implicitDefEqProofs -dsimp only [ah,ai hq,h0,hlen,vcS,↓an,↓ak,simprocAttr]
 rw [aH]
 refine ⟨ho,by omega,h _ _ (by omega) ?_ (aA.app _ _ _)⟩
 rw [bh,jf,je]
 rfl
theorem aA.set (T:aj)(q:Nat)(x:Option Ob):aA T (T.set q x) [q]:=⟨by simp,fun k ob hk h=>by rw [List.getElem?_set_ne (fun e=>hk (by simp [e]))];exact h⟩
theorem Fl {L:List Ce}{off i n:Nat}(hi:i<n)(ho:off+n≤L.length):(ct L off (off+i) (List.replicate i aN)).set (off+i) aN=ct L off (off+(i+1)) (List.replicate (i+1) aN):=by
 have l1:(ct L off (off+i) (List.replicate i aN)).length=L.length:=bL (by omega) (by omega) (by simp)
 have l2:(ct L off (off+(i+1)) (List.replicate (i+1) aN)).length=L.length:=bL (by omega) (by omega) (by simp)
 refine dH (by rw [List.length_set,l1,l2]) fun j hj=>?_
 rw [lR (by omega),cr (by omega) (by omega) (by simp),cr (by omega) (by omega) (by simp),gq,gq]
 by_cases h1:j=off+i
 ·rw [if_pos h1,if_neg (by omega),if_pos (by omega)]
 ·rw [if_neg h1]
  by_cases h2:j<off
  ·rw [if_pos h2,if_pos h2]
  ·rw [if_neg h2,if_neg h2]
   by_cases h3:j<off+i
   ·rw [if_pos h3,if_pos (by omega)]
   ·rw [if_neg h3,if_neg (by omega)]
theorem PN (L:List Ce)(off:Nat):ct L off off []=L:=by simp [ct]
theorem xu {T:aj}{q off n:Nat}{L:List Ce}{K:DV→aj→Prop}(hq:T[q]?=some (some (.arr 3 (av L))))(ho:off+n≤L.length)(hl:L.length≤1000000)
  (h:∀T',T'[q]?=some (some (.arr 3 (av (ct L off (off+n) (List.replicate n aN)))))→aA T T' [q]→K (.tup []) T'):aq PG 77 [.own q off n] T K:=by
 refine aq.aE FOk.nil JE (by simp [AT]) ?_
 unfold AT
 dsimp only
 simp -implicitDefEqProofs -dsimp only [ah,ai hq,vcS,↓an,↓ak,simprocAttr]
 refine bp.inv FOk.nil (S:=fun s:Nat × aj=>⟨[(0,.own q off n),(4,.int .i64 n),(5,.int .i64 s.1)],s.2⟩)
  (I:=fun s=>s.1≤n∧s.2[q]?=some (some (.arr 3 (av (ct L off (off+s.1) (List.replicate s.1 aN)))))∧aA T s.2 [q])
  (μ:=fun s=>n-s.1) (0,T) ⟨by simp,by simpa [PN] using hq,aA.refl _ _⟩ ?_ ?_
 ·simp -implicitDefEqProofs -dsimp only [ax,vcS,↓an,↓ak,simprocAttr]
 ·intro ⟨i,A⟩ ⟨h1,h2,h3⟩
  dsimp only at h1 h2 h3 ⊢
  unfold x4
  have l1:(ct L off (off+i) (List.replicate i aN)).length=L.length:=bL (by omega) (by omega) (by simp)
  by_cases hi:i<n
  ·have hii:(i:Int)<n:=by omega
   have hi0:(0:Int)≤(i:Int):=by omega
   have hw1:IntKind.i64.wrap ((i:Int)+1)=((i+1:Nat):Int):=by rw [aP (by omega) (by omega)];omega
   simp -implicitDefEqProofs -dsimp only [ai h2,hii,hi0,hw1,ax,Nat.zero_add,ah,vcS,↓an,↓ak,simprocAttr]
   refine pV fun T' k=>?_
   have h2':=k.at h2 (by simp)
   have hg:=bw (L:=ct L off (off+i) (List.replicate i aN)) (i:=off+i) (by omega)
   have cv:=bP (ct L off (off+i) (List.replicate i aN)) (off+i) aN
   rw [Fl hi ho] at cv
   have hb:aN.row=[.int .i32 32,.int .u16 0,.int .u8 0]:=rfl
   change (av (ct L off (off+i) (List.replicate i aN))).set (off+i) [.int .i32 32,.int .u16 0,.int .u8 0]=_ at cv
   rw [hb]
   simp -implicitDefEqProofs -dsimp only [ai h2',hii,hi0,hw1,ax,Nat.zero_add,ah,hg,cv,vcS,↓an,↓ak,simprocAttr]
   refine ⟨(i+1,T'.set q (some (.arr 3 (av (ct L off (off+(i+1)) (List.replicate (i+1) aN)))))),⟨rfl,aJ _⟩,⟨hi,bX h2' _, ?_⟩,by dsimp only;omega⟩
   exact (h3.trans k (k:=[q]) (by simp) (by simp)).trans (aA.set T' q _) (by simp) (by simp)
  ·have hii:¬(i:Int)<n:=by omega
   simp -implicitDefEqProofs -dsimp only [ai h2,hii,ax,vcS,↓an,↓ak,simprocAttr]
   obtain rfl:i=n:=by omega
   exact ⟨h3.1,h _ h2 h3⟩
theorem xj {T:aj}{q rows aa y:Nat}{L:List Ce}{K:DV→aj→Prop}(hq:T[q]?=some (some (.arr 3 (av L))))(g:bW L rows aa)(hy:y<rows)(h:K (.own q (y*aa) aa) T):aq PG 44 [.own q 0 L.length,.int .i64 aa,.int .i64 y] T K:=by
 have h1:=g.r
 have h2:=g.c
 have hm:rows*aa≤1000*1000:=Nat.mul_le_mul h1.2 h2.2
 have hl:L.length≤1000000:=by rw [g.len];omega
 have hrow:=dc (aa:=aa) hy
 have pU:=bB y aa
 have hp:(y:Int)*aa=((y*aa:Nat):Int):=by simp
 have hp1:((y:Int)+1)*aa=(((y+1)*aa:Nat):Int):=by simp
 have hw1:IntKind.i64.wrap ((y:Int)+1)=(y:Int)+1:=aP (by omega) (by omega)
 have hw2:IntKind.i64.wrap ((y:Int)*aa)=((y*aa:Nat):Int):=by rw [hp];exact aP (by omega) (by omega)
 have hw3:IntKind.i64.wrap (((y:Int)+1)*aa)=(((y+1)*aa:Nat):Int):=by rw [hp1];exact aP (by omega) (by omega)
 have hy0:¬(y:Int)<0:=by omega
 have hy1:¬(rows:Int)≤y:=by omega
 refine aq.aE tK AS (by simp [ux]) ?_
 unfold ux
 dsimp only
 simp -implicitDefEqProofs -dsimp only [gJ,ai hq,nj g,hl,hy0,hy1,hw1,hw2,hw3,vcS,↓an,↓ak,simprocAttr]
 have hsub:(y+1)*aa-y*aa=aa:=by omega
 rw [hsub]
 refine ⟨by omega,by omega,⟨by omega,by rw [g.len];omega⟩,h⟩
noncomputable def Nh:RFn:=⟨5,50,(SR [OP 10 (.mov (.c (.sl 0 [] .nil)))] [0,1,2,3,4] (SR [MV 14 0,OP 15 (.call 43 [.t 14]),MV 11 15] [0,1,2,3,4,11] (.seq (SR [MV 16 0,MV 17 1,MV 18 2,MV 19 3,OP 20 (.call 131 [.t 16,.t 17,.t 18,.t 19])] [1,2,3,4,11,20] (.cond (.t 20) (SR [MV 21 11,MV 22 2,MV 23 1,BT 24 .mul 22 23,MV 25 3,BI 26 .add 25 1,MV 27 1,BT 28 .mul 26 27,OP 29 (.slice 3 (.t 21) (some (.t 24)) (some (.t 28)) none),MV 12 29] [1,4,11,12] (SR [MV 30 4,OP 31 (.call 132 [.t 30]),MV 32 1,BT 33 .mul 31 32,MV 34 12,OP 35 (.len (.t 34)),OP 36 (.mm false (.t 33) (.t 35)),MV 13 36] [11,12,13] (SR [MV 37 12,MV 38 12,MV 39 13,OP 40 (.slice 3 (.t 38) (some (.t 39)) none none),OP 41 (.copy 3 (.t 37) (.t 40))] [11,12,13] (.reg [MV 42 12,MV 43 12,OP 44 (.len (.t 43)),MV 45 13,BT 46 .sub 44 45,OP 47 (.slice 3 (.t 42) (some (.t 46)) none none),OP 48 (.call 77 [.t 47])] 0 [11])))) .skip)) (SR [MV 49 11,MV 10 49] [10] .ret)))),[.t 10]⟩
theorem Sk:aK PG.P [⟨0,0,[0,1,2,3,4],[]⟩,⟨1,0,[0,1,2,3,4,11],[]⟩,⟨2,0,[1,2,3,4,11,20],[]⟩,⟨3,0,[1,4,11,12],[]⟩,⟨4,0,[11,12,13],[]⟩,⟨5,0,[11,12,13],[]⟩,⟨6,0,[11],[]⟩,⟨7,0,[10],[]⟩] 130=some Nh:=by kernel_rfl
noncomputable def AU:RFn:=⟨5,47,(SR [OP 10 (.mov (.c (.sl 0 [] .nil)))] [0,1,2,3,4] (SR [MV 14 0,OP 15 (.call 43 [.t 14]),MV 11 15] [0,1,2,3,4,11] (.seq (SR [MV 16 0,MV 17 1,MV 18 2,MV 19 3,OP 20 (.call 131 [.t 16,.t 17,.t 18,.t 19])] [1,2,3,4,11,20] (.cond (.t 20) (SR [MV 21 11,MV 22 2,MV 23 1,BT 24 .mul 22 23,MV 25 3,BI 26 .add 25 1,MV 27 1,BT 28 .mul 26 27,OP 29 (.slice 3 (.t 21) (some (.t 24)) (some (.t 28)) none),MV 12 29] [1,4,11,12] (SR [MV 30 4,OP 31 (.call 132 [.t 30]),MV 32 1,BT 33 .mul 31 32,MV 34 12,OP 35 (.len (.t 34)),OP 36 (.mm false (.t 33) (.t 35)),MV 13 36] [11,12,13] (SR [MV 37 12,MV 38 13,OP 39 (.slice 3 (.t 37) (some (.t 38)) none none),MV 40 12,OP 41 (.copy 3 (.t 39) (.t 40))] [11,12,13] (.reg [MV 42 12,MV 43 13,OP 44 (.slice 3 (.t 42) none (some (.t 43)) none),OP 45 (.call 77 [.t 44])] 0 [11])))) .skip)) (SR [MV 46 11,MV 10 46] [10] .ret)))),[.t 10]⟩
theorem JF:aK PG.P [⟨0,0,[0,1,2,3,4],[]⟩,⟨1,0,[0,1,2,3,4,11],[]⟩,⟨2,0,[1,2,3,4,11,20],[]⟩,⟨3,0,[1,4,11,12],[]⟩,⟨4,0,[11,12,13],[]⟩,⟨5,0,[11,12,13],[]⟩,⟨6,0,[11],[]⟩,⟨7,0,[10],[]⟩] 98=some AU:=by kernel_rfl
noncomputable def wO:RFn:=⟨2,21,(SR [OP 4 (.mov (.c (.sl 0 [] .nil)))] [0,1] (.seq (SR [MV 6 0,OP 7 (.call 76 [.t 6]),OP 8 (.un .not (.t 7)),MV 9 8,MG 10 1 9 false,OG 11 (.call 76 [.t 10]) 9 false,OG 12 (.un .not (.t 11)) 9 false,OP 13 (.pick (.t 9) (.c (.bool true)) (.t 12))] [0,1,13] (.cond (.t 13) (SR [OP 4 (.mov (.c (.sl 0 [] .nil)))] [4] .ret) .skip)) (SR [MV 14 0,MV 15 1,BT 16 .mul 14 15,OP 17 (.fO 3 8 [.int .i32 0,.int .u16 0,.int .u8 0] (.t 16) (.t 16)),MV 5 17] [5] (SR [MV 18 5,OP 19 (.call 77 [.t 18])] [5] (SR [MV 20 5,MV 4 20] [4] .ret))))),[.t 4]⟩
theorem Hs:aK PG.P [⟨0,0,[0,1],[]⟩,⟨1,0,[0,1,13],[]⟩,⟨2,0,[4],[]⟩,⟨3,0,[5],[]⟩,⟨4,0,[5],[]⟩,⟨5,0,[4],[]⟩] 38=some wO:=by kernel_rfl
theorem eA (args:List DV):tab TG3 43 args=none:=au _
theorem dI (args:List DV):tab TG3 77 args=none:=au _
theorem bW.lim {L:List Ce}{rows aa:Nat}(g:bW L rows aa):L.length≤1000000∧0<L.length:=by
 have h1:=g.r
 have h2:=g.c
 have hm:rows*aa≤1000*1000:=Nat.mul_le_mul h1.2 h2.2
 have hm2:1*1≤rows*aa:=Nat.mul_le_mul h1.1 h2.1
 rw [g.len];omega
theorem Y6 {L:List Ce}{a b k k0:Nat}(hab:a≤b)(hb:b≤L.length)(hk:k=min k0 (b-a)) :
  ct (ct L a (a+(b-a-k)) ((L.drop (a+k)).take (b-a-k))) (a+(b-a-k)) (a+(b-a-k)+k) (List.replicate k aN)=ct L a b (oa k0 ((L.drop a).take (b-a))):=by
 have m1:((L.drop (a+k)).take (b-a-k)).length=a+(b-a-k)-a:=by simp;omega
 have m2:((L.drop a).take (b-a)).length=b-a:=by simp;omega
 have l1:(ct L a (a+(b-a-k)) ((L.drop (a+k)).take (b-a-k))).length=L.length:=bL (by omega) (by omega) m1
 have l2:(ct L a b (oa k0 ((L.drop a).take (b-a)))).length=L.length:=bL hab hb (by rw [kn,m2])
 have l3:(ct (ct L a (a+(b-a-k)) ((L.drop (a+k)).take (b-a-k))) (a+(b-a-k)) (a+(b-a-k)+k) (List.replicate k aN)).length=L.length:=by rw [bL (by omega) (by omega) (by simp),l1]
 refine dH (by rw [l3,l2]) fun i hi=>?_
 rw [l3] at hi
 rw [cr (by omega) (by omega) (by simp),cr (by omega) (by omega) m1,cr hab hb (by rw [kn,m2]),gq,dX,dJ]
 by_cases h1:i<a
 ·rw [if_pos (by omega),if_pos h1,if_pos h1]
 ·rw [if_neg h1,if_neg h1]
  by_cases h2:i<a+(b-a-k)
  ·rw [if_pos h2,if_pos h2,if_pos (by omega),if_pos (by omega),qL (by omega),m2,if_pos (by omega),dX,if_pos (by omega),dJ]
   congr 1;omega
  ·rw [if_neg h2,if_neg h2]
   by_cases h3:i<b
   ·rw [if_pos (by omega),if_pos h3,qL (by omega),m2,if_neg (by omega)]
   ·rw [if_neg (by omega),if_neg h3]
theorem Zo {L:List Ce}{a b k k0:Nat}(hab:a≤b)(hb:b≤L.length)(hk:k=min k0 (b-a)) :
  ct (ct L (a+k) (a+k+(b-a-k)) ((L.drop a).take (b-a-k))) a (a+k) (List.replicate k aN)=ct L a b (oc k0 ((L.drop a).take (b-a))):=by
 have m1:((L.drop a).take (b-a-k)).length=a+k+(b-a-k)-(a+k):=by simp;omega
 have m2:((L.drop a).take (b-a)).length=b-a:=by simp;omega
 have l1:(ct L (a+k) (a+k+(b-a-k)) ((L.drop a).take (b-a-k))).length=L.length:=bL (by omega) (by omega) m1
 have l2:(ct L a b (oc k0 ((L.drop a).take (b-a)))).length=L.length:=bL hab hb (by rw [ko,m2])
 have l3:(ct (ct L (a+k) (a+k+(b-a-k)) ((L.drop a).take (b-a-k))) a (a+k) (List.replicate k aN)).length=L.length:=by rw [bL (by omega) (by omega) (by simp),l1]
 refine dH (by rw [l3,l2]) fun i hi=>?_
 rw [l3] at hi
 rw [cr (by omega) (by omega) (by simp),cr (by omega) (by omega) m1,cr hab hb (by rw [ko,m2]),gq,dX,dJ]
 by_cases h1:i<a
 ·rw [if_pos h1,if_pos (by omega),if_pos h1]
 ·rw [if_neg h1,if_neg h1]
  by_cases h2:i<a+k
  ·rw [if_pos h2,if_pos (by omega),qM (by omega),if_neg (by omega)]
  ·rw [if_neg h2,if_neg h2]
   by_cases h3:i<b
   ·rw [if_pos (by omega),if_pos h3,if_pos (by omega),qM (by omega),if_pos (by omega),dX,if_pos (by omega),dJ]
    congr 1;omega
   ·rw [if_neg (by omega),if_neg h3]
theorem VJ {T:aj}{q rows aa top bot:Nat}{n:Int}{L:List Ce}{K:DV→aj→Prop}(hq:T[q]?=some (some (.arr 3 (av L))))(g:bW L rows aa)(ht:top≤bot)(hb:bot<rows)
  (h:∀T' p,T.length≤p→T'[p]?=some (some (.arr 3 (av (upF L aa top bot n))))→aA T T' []→K (.own p 0 L.length) T'):aq PG 130 [.own q 0 L.length,.int .i64 aa,.int .i64 top,.int .i64 bot,.int .i64 n] T K:=by
 have h1:=g.r
 have h2:=g.c
 have hl:=g.lim
 have hrow:=dc (aa:=aa) hb
 have pU:=bB bot aa
 have htb:top*aa≤(bot+1)*aa:=Nat.mul_le_mul_right _ (by omega)
 have hgl:=g.len
 have hp:(top:Int)*aa=((top*aa:Nat):Int):=by simp
 have hp1:((bot:Int)+1)*aa=(((bot+1)*aa:Nat):Int):=by simp
 have hw1:IntKind.i64.wrap ((bot:Int)+1)=(bot:Int)+1:=aP (by omega) (by omega)
 have hw2:IntKind.i64.wrap ((top:Int)*aa)=((top*aa:Nat):Int):=by rw [hp];exact aP (by omega) (by omega)
 have hw3:IntKind.i64.wrap (((bot:Int)+1)*aa)=(((bot+1)*aa:Nat):Int):=by rw [hp1];exact aP (by omega) (by omega)
 have hn:br n≤1000:=by unfold br;omega
 have hnm:br n*aa≤1000*1000:=Nat.mul_le_mul hn h2.2
 have hp4:((br n:Nat):Int)*aa=((br n*aa:Nat):Int):=by simp
 have hw4:IntKind.i64.wrap ((br n:Int)*aa)=((br n*aa:Nat):Int):=by rw [hp4];exact aP (by omega) (by omega)
 have ha:decide ((0:Int)≤top∧(top:Int)≤bot∧(bot:Int)<rows)=true:=decide_eq_true (by omega)
 refine aq.aE tK Sk (by simp [Nh]) ?_
 unfold Nh
 dsimp only
 simp -implicitDefEqProofs -dsimp only [gJ,eA,dI,ai hq,nj g,hl.1,ha,vcS,↓an,↓ak,simprocAttr]
 refine pY hq (by omega) hl.2 hl.1 fun T' p hp hA kp=>?_
 simp only [List.drop_zero,List.take_length] at hA
 obtain ⟨a,ea⟩:∃a,a=top*aa:=⟨_,rfl⟩
 obtain ⟨b,eb⟩:∃b,b=(bot+1)*aa:=⟨_,rfl⟩
 obtain ⟨e,ee⟩:∃e,e=br n*aa:=⟨_,rfl⟩
 unfold upF at h
 rw [←ea,←eb,←ee] at h
 rw [←ea] at hw2
 rw [←eb] at hw3
 rw [←ee] at hw4
 rw [←ea,←eb] at htb
 rw [←eb] at hrow
 obtain ⟨k,ek⟩:∃k,k=min e (b-a):=⟨_,rfl⟩
 have hmin:min (e:Int) ((b-a:Nat):Int)=(k:Int):=by omega
 have hab:a≤b∧b≤L.length:=by omega
 have hkk:k≤b-a:=by omega
 have z0:(0:Int)≤(a:Int):=by omega
 have z1:(0:Int)≤(b:Int):=by omega
 have z2:(0:Int)≤(k:Int):=by omega
 have z3:a+(k+(b-a-k))≤L.length:=by omega
 have hM:((L.drop (a+k)).take (b-a-k)).length=b-a-k:=by simp;omega
 have hmm:min (b-a-k) (b-a)=b-a-k:=by omega
 have htk:(List.take (b-a-k) (List.take (b-a-k) (L.drop (a+k))))=List.take (b-a-k) (L.drop (a+k)):=by rw [List.take_take,Nat.min_self]
 have hcp:av (List.take a L)++(av (List.take (b-a-k) (List.drop (a+k) L))++av (List.drop (a+(b-a-k)) L))=av (ct L a (a+(b-a-k)) ((L.drop (a+k)).take (b-a-k))):=by rw [hY,hY];simp [ct]
 have z4:a+(b-a)≤L.length:=by omega
 have z5:(0:Int)≤((b-a-k:Nat):Int):=by omega
 have z6:b-a-k≤b-a:=by omega
 have z7:b-a-(b-a-k)=k:=by omega
 have hw5:IntKind.i64.wrap (((b-a:Nat):Int)-(k:Int))=((b-a-k:Nat):Int):=by rw [aP (by omega) (by omega)];omega
 simp -implicitDefEqProofs -dsimp only [gJ,eA,dI,ai hA,nj g,hl.1,ha,hw1,hw2,hw3,hw4,hmin,hab,hkk,z0,z1,z2,z3,aH,jf,je,hM,hmm,htk,hcp,hw5,z4,z5,z6,z7,vcS,↓an,↓ak,simprocAttr]
 have m1:((L.drop (a+k)).take (b-a-k)).length=a+(b-a-k)-a:=by simp;omega
 have l1:(ct L a (a+(b-a-k)) ((L.drop (a+k)).take (b-a-k))).length=L.length:=bL (by omega) (by omega) m1
 refine xu (bX hA _) (by omega) (by omega) fun T2 h2 k2=>?_
 simp -implicitDefEqProofs -dsimp only [gJ,eA,dI,vcS,↓an,↓ak,simprocAttr]
 rw [Y6 hab.1 hab.2 ek] at h2
 exact ⟨by have:=kp.1;have:=k2.1;simp at this;omega,h T2 p hp h2 (kp.new ((aA.set T' p _).trans k2 (k:=[p]) (by simp) (by simp)) (by simpa using hp))⟩
theorem HJ {T:aj}{q rows aa top bot:Nat}{n:Int}{L:List Ce}{K:DV→aj→Prop}(hq:T[q]?=some (some (.arr 3 (av L))))(g:bW L rows aa)(ht:top≤bot)(hb:bot<rows)
  (h:∀T' p,T.length≤p→T'[p]?=some (some (.arr 3 (av (dnF L aa top bot n))))→aA T T' []→K (.own p 0 L.length) T'):aq PG 98 [.own q 0 L.length,.int .i64 aa,.int .i64 top,.int .i64 bot,.int .i64 n] T K:=by
 have h1:=g.r
 have h2:=g.c
 have hl:=g.lim
 have hrow:=dc (aa:=aa) hb
 have pU:=bB bot aa
 have htb:top*aa≤(bot+1)*aa:=Nat.mul_le_mul_right _ (by omega)
 have hgl:=g.len
 have hp:(top:Int)*aa=((top*aa:Nat):Int):=by simp
 have hp1:((bot:Int)+1)*aa=(((bot+1)*aa:Nat):Int):=by simp
 have hw1:IntKind.i64.wrap ((bot:Int)+1)=(bot:Int)+1:=aP (by omega) (by omega)
 have hw2:IntKind.i64.wrap ((top:Int)*aa)=((top*aa:Nat):Int):=by rw [hp];exact aP (by omega) (by omega)
 have hw3:IntKind.i64.wrap (((bot:Int)+1)*aa)=(((bot+1)*aa:Nat):Int):=by rw [hp1];exact aP (by omega) (by omega)
 have hn:br n≤1000:=by unfold br;omega
 have hnm:br n*aa≤1000*1000:=Nat.mul_le_mul hn h2.2
 have hp4:((br n:Nat):Int)*aa=((br n*aa:Nat):Int):=by simp
 have hw4:IntKind.i64.wrap ((br n:Int)*aa)=((br n*aa:Nat):Int):=by rw [hp4];exact aP (by omega) (by omega)
 have ha:decide ((0:Int)≤top∧(top:Int)≤bot∧(bot:Int)<rows)=true:=decide_eq_true (by omega)
 refine aq.aE tK JF (by simp [AU]) ?_
 unfold AU
 dsimp only
 simp -implicitDefEqProofs -dsimp only [gJ,eA,dI,ai hq,nj g,hl.1,ha,vcS,↓an,↓ak,simprocAttr]
 refine pY hq (by omega) hl.2 hl.1 fun T' p hp hA kp=>?_
 simp only [List.drop_zero,List.take_length] at hA
 obtain ⟨a,ea⟩:∃a,a=top*aa:=⟨_,rfl⟩
 obtain ⟨b,eb⟩:∃b,b=(bot+1)*aa:=⟨_,rfl⟩
 obtain ⟨e,ee⟩:∃e,e=br n*aa:=⟨_,rfl⟩
 unfold dnF at h
 rw [←ea,←eb,←ee] at h
 rw [←ea] at hw2
 rw [←eb] at hw3
 rw [←ee] at hw4
 rw [←ea,←eb] at htb
 rw [←eb] at hrow
 obtain ⟨k,ek⟩:∃k,k=min e (b-a):=⟨_,rfl⟩
 have hmin:min (e:Int) ((b-a:Nat):Int)=(k:Int):=by omega
 have hab:a≤b∧b≤L.length:=by omega
 have hkk:k≤b-a:=by omega
 have z0:(0:Int)≤(a:Int):=by omega
 have z1:(0:Int)≤(b:Int):=by omega
 have z2:(0:Int)≤(k:Int):=by omega
 have z3:a+(k+(b-a-k))≤L.length:=by omega
 have hM:((L.drop a).take (b-a)).length=b-a:=by simp;omega
 have hmm:min (b-a) (b-a-k)=b-a-k:=by omega
 have htk:(List.take (b-a-k) (List.take (b-a) (L.drop a)))=List.take (b-a-k) (L.drop a):=by rw [List.take_take,Nat.min_eq_left (by omega)]
 have hcp:av (List.take (a+k) L)++(av (List.take (b-a-k) (List.drop a L))++av (List.drop (a+(k+(b-a-k))) L))=av (ct L (a+k) (a+k+(b-a-k)) ((L.drop a).take (b-a-k))):=by rw [hY,hY];simp [ct,Nat.add_assoc]
 have hw5:k-0=k:=rfl
 have z4:a+(b-a)≤L.length:=by omega
 have z5:(0:Int)≤((b-a-k:Nat):Int):=by omega
 have z6:b-a-k≤b-a:=by omega
 have z7:b-a-(b-a-k)=k:=by omega
 have hw5:IntKind.i64.wrap (((b-a:Nat):Int)-(k:Int))=((b-a-k:Nat):Int):=by rw [aP (by omega) (by omega)];omega
 simp -implicitDefEqProofs -dsimp only [gJ,eA,dI,ai hA,nj g,hl.1,ha,hw1,hw2,hw3,hw4,hmin,hab,hkk,z0,z1,z2,z3,aH,jf,je,hM,hmm,htk,hcp,hw5,z4,z5,z6,z7,vcS,↓an,↓ak,simprocAttr]
 have m1:((L.drop a).take (b-a-k)).length=a+k+(b-a-k)-(a+k):=by simp;omega
 have l1:(ct L (a+k) (a+k+(b-a-k)) ((L.drop a).take (b-a-k))).length=L.length:=bL (by omega) (by omega) m1
 have hz:a+(k+(b-a-k))=a+k+(b-a-k):=(Nat.add_assoc _ _ _).symm
 refine ⟨Nat.zero_le _, ?_⟩
 refine xu (L:=ct L (a+k) (a+(k+(b-a-k))) ((L.drop a).take (b-a-k))) (n:=k) (bX hA _) (by rw [hz,l1];omega) (by rw [hz,l1];omega) fun T2 h2 k2=>?_
 simp -implicitDefEqProofs -dsimp only [gJ,eA,dI,vcS,↓an,↓ak,simprocAttr]
 rw [hz,Zo hab.1 hab.2 ek] at h2
 exact ⟨by have:=kp.1;have:=k2.1;simp at this;omega,h T2 p hp h2 (kp.new ((aA.set T' p _).trans k2 (k:=[p]) (by simp) (by simp)) (by simpa using hp))⟩
end Go.Proofs.YtjmnbpilnneonaaGreatDoor
