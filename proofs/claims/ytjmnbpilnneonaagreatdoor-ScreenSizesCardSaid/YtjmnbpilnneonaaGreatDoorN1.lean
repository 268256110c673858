/- Texts C1, C2, C3, C4, C5, C6, C7, C8, C9, G1, G2 in one. -/
import Derived.Test.YtjmnbpilnneonaaGreatDoorM3
import Derived.Test.YtjmnbpilnneonaaGreatDoorM4
set_option linter.unusedVariables false
set_option linter.unusedSimpArgs false
set_option maxRecDepth 10000
set_option linter.defProp false
namespace Go.Proofs.YtjmnbpilnneonaaGreatDoor
open Go.RowKit
noncomputable section
variable {rows aa i y top bot x q b k:Nat}{n a:Int}{T:ay}{K:DV->ay->Prop}
structure Ce where
 r:Int
 a:Int
 h:Int
 deriving DecidableEq,Inhabited
def aM:Ce:=⟨32,0,0⟩
def Ce.row (c:Ce):List DV:=[.int .i32 c.r,.int .u16 c.a,.int .u8 c.h]
def aq (L:List Ce):List (List DV):=L.map Ce.row
theorem az (L:List Ce):(aq L).length=L.length:=by simp[aq]
theorem bf {L:List Ce}(h:i<L.length):(aq L)[i]?=some [.int .i32 (L.getD i aM).r,.int .u16 (L.getD i aM).a,.int .u8 (L.getD i aM).h]:=by simp[aq,Ce.row,h]
theorem iC (A B:List Ce):aq A++aq B=aq (A++B):=by simp[aq]
theorem jw (L:List Ce)(n:Nat):(aq L).take n=aq (L.take n):=by simp[aq]
theorem jx (L:List Ce)(n:Nat):(aq L).drop n=aq (L.drop n):=by simp[aq]
theorem bM (L:List Ce)(i:Nat)(c:Ce):(aq L).set i [.int .i32 c.r,.int .u16 c.a,.int .u8 c.h]=aq (L.set i c):=by simp[aq,Ce.row,List.map_set]
theorem AU (n:Nat)(c:Ce):List.replicate n [.int .i32 c.r,.int .u16 c.a,.int .u8 c.h]=aq (List.replicate n c):=by simp[aq,Ce.row]
theorem AV:aq []=[]:=rfl
theorem mu (L:List Ce):gW (aq L):=fun row hr c hc=>by
 simp only[aq,List.mem_map] at hr
 obtain ⟨e,_,rfl⟩:=hr
 simp[Ce.row] at hc
 rcases hc with rfl | rfl | rfl <;> exact .int _ _
theorem dM {A B:List Ce}(hl:A.length=B.length)(h:∀i,i<A.length->A.getD i aM=B.getD i aM):A=B:=by
 refine List.ext_getElem hl fun i h1 h2=>?_
 have:=h i h1
 simpa [List.getD_eq_getElem?_getD,h1,h2] using this
theorem eB {L:List Ce}{n:Nat}:(L.take n).getD i aM=if i<n then L.getD i aM else aM:=by
 simp only[List.getD_eq_getElem?_getD,List.getElem?_take]
 split <;> rfl
theorem dQ {L:List Ce}{n:Nat}:(L.drop n).getD i aM=L.getD (n+i) aM:=by
 simp only[List.getD_eq_getElem?_getD,List.getElem?_drop]
theorem oh {A B:List Ce}:(A++B).getD i aM=if i<A.length then A.getD i aM else B.getD (i-A.length) aM:=by
 simp only[List.getD_eq_getElem?_getD]
 split
 ·rw[List.getElem?_append_left (by assumption)]
 ·rw[List.getElem?_append_right (by omega)]
theorem gH {n:Nat}:(List.replicate n aM).getD i aM=aM:=by
 simp only[List.getD_eq_getElem?_getD,List.getElem?_replicate]
 split <;> rfl
theorem OL {L:List Ce}(h:L.length<=i):L.getD i aM=aM:=by
 rw[List.getD_eq_getElem?_getD,List.getElem?_eq_none h];rfl
theorem mq {L:List Ce}{j:Nat}{c:Ce}(h:i<L.length):(L.set i c).getD j aM=if j=i then c else L.getD j aM:=by
 simp only[List.getD_eq_getElem?_getD,List.getElem?_set]
 by_cases e:i=j
 ·subst e;simp[h]
 ·rw[if_neg e,if_neg (fun h=>e h.symm)]
def cy (L:List Ce)(a b:Nat)(M:List Ce):List Ce:=L.take a++M++L.drop b
theorem bN {L:List Ce}{a:Nat}{M:List Ce}(hab:a<=b)(hb:b<=L.length)(hM:M.length=b-a):(cy L a b M).length=L.length:=by simp[cy];omega
theorem cx {L:List Ce}{a:Nat}{M:List Ce}(hab:a<=b)(hb:b<=L.length)(hM:M.length=b-a) :
  (cy L a b M).getD i aM=if i<a then L.getD i aM else if i<b then M.getD (i-a) aM else L.getD i aM:=by
 unfold cy
 rw[oh,oh,eB,dQ]
 simp only[List.length_append,List.length_take,Nat.min_eq_left (show a<=L.length by omega),hM]
 by_cases h1:i<a
 ·rw[if_pos (by omega),if_pos h1,if_pos h1,if_pos h1]
 ·by_cases h2:i<b
  ·rw[if_pos (by omega),if_neg h1,if_neg h1,if_pos h2]
  ·rw[if_neg (by omega),if_neg h1,if_neg h2]
   congr 1;omega
def oN (k:Nat)(M:List Ce):List Ce:=M.drop k++List.replicate (min k M.length) aM
def oO (k:Nat)(M:List Ce):List Ce:=List.replicate (min k M.length) aM++M.take (M.length-k)
theorem kE (k:Nat)(M:List Ce):(oN k M).length=M.length:=by simp[oN];omega
theorem kG (k:Nat)(M:List Ce):(oO k M).length=M.length:=by simp[oO];omega
theorem rH {M:List Ce}(hi:i<M.length):(oN k M).getD i aM=if i+k<M.length then M.getD (i+k) aM else aM:=by
 unfold oN
 rw[oh,dQ,gH,List.length_drop]
 by_cases h:i+k<M.length
 ·rw[if_pos (by omega),if_pos h,Nat.add_comm]
 ·rw[if_neg (by omega),if_neg h]
theorem rI {M:List Ce}(hi:i<M.length):(oO k M).getD i aM=if k<=i then M.getD (i-k) aM else aM:=by
 unfold oO
 rw[oh,eB,gH,List.length_replicate]
 by_cases h:k<=i
 ·rw[if_neg (by omega),if_pos h,if_pos (by omega)]
  congr 1;omega
 ·rw[if_pos (by omega),if_neg h]
def hAt (L:List Ce)(i:Nat):Int:=(L.getD i aM).h
def dK (L:List Ce)(i:Nat):Ce:=if (hAt L i=1/\(i+1=L.length\/hAt L (i+1)≠2))\/(hAt L i=2/\(i=0\/hAt L (i-1)≠1)) then aM else L.getD i aM
def fh (L:List Ce):List Ce:=(List.range L.length).map (dK L)
theorem bQ (L:List Ce):(fh L).length=L.length:=by simp[fh]
theorem mB {L:List Ce}(h:i<L.length):(fh L).getD i aM=dK L i:=by simp[fh,List.getD_eq_getElem?_getD,h]
def lQ (L:List Ce)(i:Nat):List Ce:=(fh L).take i++L.drop i
theorem kC {L:List Ce}:(lQ L i).length=L.length:=by simp[lQ,bQ];omega
theorem MY (L:List Ce):lQ L 0=L:=by simp[lQ]
theorem F3 (L:List Ce):lQ L L.length=fh L:=by
 simp only[lQ,List.drop_length,List.append_nil]
 exact List.take_of_length_le (by rw[bQ];exact Nat.le_refl _)
theorem D2 {L:List Ce}{j:Nat}(hj:j<L.length):(lQ L i).getD j aM=if j<i then dK L j else L.getD j aM:=by
 unfold lQ
 rw[oh,eB,dQ,List.length_take,bQ]
 by_cases h:j<i
 ·rw[if_pos (by omega),if_pos h,if_pos h,mB hj]
 ·by_cases h2:i<=L.length
  ·rw[if_neg (by omega),if_neg h]
   congr 1;omega
  ·omega
theorem Jg {L:List Ce}(hi:i+1<L.length)(h2:hAt L (i+1)=2):((dK L i).h=1↔hAt L i=1):=by
 unfold dK
 constructor
 ·intro h
  split at h
  ·simp[aM] at h
  ·exact h
 ·intro h
  rw[if_neg]
  ·exact h
  ·intro hc
   rcases hc with ⟨_,h3 | h3⟩ | ⟨h3,_⟩
   ·omega
   ·exact h3 h2
   ·omega
structure bU (L:List Ce) (rows aa:Nat):Prop where
 r:1<=rows/\rows<=1000
 c:1<=aa/\aa<=1000
 len:L.length=rows*aa
def bz (n:Int):Nat:=min n.toNat 1000
def upF (L:List Ce)(aa top bot:Nat)(n:Int):List Ce:=cy L (top*aa) ((bot+1)*aa) (oN (bz n*aa) ((L.drop (top*aa)).take ((bot+1)*aa-top*aa)))
def dnF (L:List Ce)(aa top bot:Nat)(n:Int):List Ce:=cy L (top*aa) ((bot+1)*aa) (oO (bz n*aa) ((L.drop (top*aa)).take ((bot+1)*aa-top*aa)))
def cM (L:List Ce)(aa y:Nat):List Ce:=(L.drop (y*aa)).take aa
def kP (L:List Ce)(aa y:Nat)(R:List Ce):List Ce:=cy L (y*aa) ((y+1)*aa) R
def cO (L:List Ce)(aa y:Nat):List Ce:=kP L aa y (fh (cM L aa y))
def BZ (L:List Ce)(aa y x:Nat)(n:Int):List Ce:=kP L aa y (fh ((cM L aa y).take x++oO (bz n) ((cM L aa y).drop x)))
def B5 (L:List Ce)(aa y x:Nat)(n:Int):List Ce:=kP L aa y (fh ((cM L aa y).take x++oN (bz n) ((cM L aa y).drop x)))
def cP (n:Int)(c:Nat):Nat:=min n.toNat c
def kY (L:List Ce)(aa y:Nat)(a b:Int):List Ce:=kP L aa y (fh (cy (cM L aa y) (cP a aa) (max (cP a aa) (cP b aa)) (List.replicate (max (cP a aa) (cP b aa)-cP a aa) aM)))
theorem cY (hy:y<rows):(y+1)*aa<=rows*aa:=Nat.mul_le_mul_right _ hy
theorem bx (y aa:Nat):(y+1)*aa=y*aa+aa:=by rw[Nat.add_mul];omega
theorem bG {L:List Ce}(g:bU L rows aa)(hy:y<rows):(cM L aa y).length=aa:=by
 have:=cY (aa:=aa) hy
 have h1:=bx y aa
 simp[cM,g.len];omega
theorem cU {L:List Ce}(g:bU L rows aa)(hy:y<rows)(hi:i<aa):(cM L aa y).getD i aM=L.getD (y*aa+i) aM:=by
 unfold cM
 rw[eB,if_pos hi,dQ]
theorem fO {L R:List Ce}(g:bU L rows aa)(hy:y<rows)(hR:R.length=aa):(kP L aa y R).length=L.length:=by
 have:=cY (aa:=aa) hy
 have h1:=bx y aa
 exact bN (by omega) (by rw[g.len];omega) (by omega)
theorem iI {L R:List Ce}(g:bU L rows aa)(hy:y<rows)(hR:R.length=aa) :
  (kP L aa y R).getD i aM=if i<y*aa then L.getD i aM else if i<(y+1)*aa then R.getD (i-y*aa) aM else L.getD i aM:=by
 have:=cY (aa:=aa) hy
 have h1:=bx y aa
 exact cx (by omega) (by rw[g.len];omega) (by omega)
theorem bU.ej {L M:List Ce}(g:bU L rows aa)(h:M.length=L.length):bU M rows aa:=⟨g.r,g.c,h.trans g.len⟩
theorem jG {L:List Ce}(g:bU L rows aa)(hb:bot<rows)(ht:top<=bot):((L.drop (top*aa)).take ((bot+1)*aa-top*aa)).length=(bot+1)*aa-top*aa:=by
 have:=cY (aa:=aa) hb
 have:top*aa<=(bot+1)*aa:=Nat.mul_le_mul_right _ (by omega)
 simp[g.len];omega
theorem m3 {L:List Ce}(g:bU L rows aa)(hb:bot<rows)(ht:top<=bot):(upF L aa top bot n).length=L.length:=by
 have h1:=cY (aa:=aa) hb
 have h2:top*aa<=(bot+1)*aa:=Nat.mul_le_mul_right _ (by omega)
 exact bN h2 (by rw[g.len];exact h1) (by rw[kE,jG g hb ht])
theorem nk {L:List Ce}(g:bU L rows aa)(hb:bot<rows)(ht:top<=bot):(dnF L aa top bot n).length=L.length:=by
 have h1:=cY (aa:=aa) hb
 have h2:top*aa<=(bot+1)*aa:=Nat.mul_le_mul_right _ (by omega)
 exact bN h2 (by rw[g.len];exact h1) (by rw[kG,jG g hb ht])
theorem Jn {L:List Ce}(g:bU L rows aa)(hb:bot<rows)(ht:top<=bot){y x:Nat}(hx:x<aa)(hy:top<=y/\y<=bot) :
  (upF L aa top bot n).getD (y*aa+x) aM=if y+bz n<=bot then L.getD ((y+bz n)*aa+x) aM else aM:=by
 have h1:=cY (aa:=aa) hb
 have h2:top*aa<=(bot+1)*aa:=Nat.mul_le_mul_right _ (by omega)
 have h3:top*aa<=y*aa:=Nat.mul_le_mul_right _ hy.1
 have h4:(y+1)*aa<=(bot+1)*aa:=Nat.mul_le_mul_right _ (by omega)
 have h5:=bx y aa
 unfold upF
 rw[cx h2 (by rw[g.len];exact h1) (by rw[kE,jG g hb ht]),if_neg (by omega),if_pos (by omega),rH (by rw[jG g hb ht];omega),jG g hb ht]
 have h6:=Nat.add_mul y (bz n) aa
 by_cases hc:y+bz n<=bot
 ·have h7:(y+bz n+1)*aa<=(bot+1)*aa:=Nat.mul_le_mul_right _ (by omega)
  have h8:=bx (y+bz n) aa
  rw[if_pos (by omega),if_pos hc,eB,if_pos (by omega),dQ]
  congr 1;omega
 ·have h7:(bot+1)*aa<=(y+bz n)*aa:=Nat.mul_le_mul_right _ (by omega)
  rw[if_neg (by omega),if_neg hc]
theorem KK {L:List Ce}(g:bU L rows aa)(hb:bot<rows)(ht:top<=bot){y x:Nat}(hx:x<aa)(hy:top<=y/\y<=bot) :
  (dnF L aa top bot n).getD (y*aa+x) aM=if top+bz n<=y then L.getD ((y-bz n)*aa+x) aM else aM:=by
 have h1:=cY (aa:=aa) hb
 have h2:top*aa<=(bot+1)*aa:=Nat.mul_le_mul_right _ (by omega)
 have h3:top*aa<=y*aa:=Nat.mul_le_mul_right _ hy.1
 have h4:(y+1)*aa<=(bot+1)*aa:=Nat.mul_le_mul_right _ (by omega)
 have h5:=bx y aa
 unfold dnF
 rw[cx h2 (by rw[g.len];exact h1) (by rw[kG,jG g hb ht]),if_neg (by omega),if_pos (by omega),rI (by rw[jG g hb ht];omega)]
 by_cases hc:top+bz n<=y
 ·have h6:(top+bz n)*aa<=y*aa:=Nat.mul_le_mul_right _ hc
  have h7:=Nat.add_mul top (bz n) aa
  have h8:(y-bz n)*aa=y*aa-bz n*aa:=Nat.sub_mul _ _ _
  rw[if_pos (by omega),if_pos hc,eB,if_pos (by omega),dQ]
  congr 1;omega
 ·have h6:(y+1)*aa<=(top+bz n)*aa:=Nat.mul_le_mul_right _ (by omega)
  have h7:=Nat.add_mul top (bz n) aa
  rw[if_neg (by omega),if_neg hc]
theorem LQ {L:List Ce}(g:bU L rows aa)(hb:bot<rows)(ht:top<=bot){i:Nat}(hi:i<top*aa\/(bot+1)*aa<=i):(upF L aa top bot n).getD i aM=L.getD i aM:=by
 have h1:=cY (aa:=aa) hb
 have h2:top*aa<=(bot+1)*aa:=Nat.mul_le_mul_right _ (by omega)
 unfold upF
 rw[cx h2 (by rw[g.len];exact h1) (by rw[kE,jG g hb ht])]
 rcases hi with h | h
 ·rw[if_pos h]
 ·rw[if_neg (by omega),if_neg (by omega)]
theorem Mq {L:List Ce}(g:bU L rows aa)(hb:bot<rows)(ht:top<=bot){i:Nat}(hi:i<top*aa\/(bot+1)*aa<=i):(dnF L aa top bot n).getD i aM=L.getD i aM:=by
 have h1:=cY (aa:=aa) hb
 have h2:top*aa<=(bot+1)*aa:=Nat.mul_le_mul_right _ (by omega)
 unfold dnF
 rw[cx h2 (by rw[g.len];exact h1) (by rw[kG,jG g hb ht])]
 rcases hi with h | h
 ·rw[if_pos h]
 ·rw[if_neg (by omega),if_neg (by omega)]
structure Sc where
 rows:Nat
 aa:Nat
 cells:List Ce
 y:Nat
 x:Nat
 wrap:Bool
 attr:Int
 top:Nat
 bot:Nat
 aP:List Bool
 sy:Nat
 sx:Nat
 eg:Int
 auto:Bool
 shown:Bool
 alt:Bool
 other:List Ce
 oy:Nat
 ox:Nat
def vJ (r:Int):Bool:=decide (0<=r/\r<=1114111/\(r<55296\/57343<r))
def inR (r a b:Int):Bool:=decide (a<=r/\r<=b)
def iN:List (Int × Int):=[(0x1100,0x115f),(0x2e80,0x303e),(0x3041,0x33ff),(0x3400,0x4dbf),(0x4e00,0x9fff),(0xa000,0xa4cf),(0xac00,0xd7a3),(0xf900,0xfaff),(0xfe30,0xfe6f),(0xff00,0xff60),(0xffe0,0xffe6),(0x1f300,0x1f64f),(0x1f900,0x1f9ff),(0x20000,0x2fffd),(0x30000,0x3fffd)]
def dB (r:Int):Nat:=
 if vJ r=false\/r<32\/inR r 0x7f 0x9f=true\/inR r 0x300 0x36f=true\/inR r 0x200b 0x200f=true\/inR r 0xfe00 0xfe0f=true then 0
 else if iN.any (fun p=>inR r p.1 p.2)=true then 2 else 1
def dV (rows aa:Nat):List Ce:=List.replicate (rows*aa) aM
def mC (aa:Nat):List Bool:=(List.range aa).map fun x=>decide (x % 8=0)
def newF (rows aa:Nat):Sc:=⟨rows,aa,dV rows aa,0,0,false,0,0,rows-1,mC aa,0,0,0,true,true,false,[],0,0⟩
def cH (s:Sc):Sc:=
 if s.y=s.bot then { s with wrap:=false,cells:=upF s.cells s.aa s.top s.bot 1}
 else if s.y+1<s.rows then { s with wrap:=false,y:=s.y+1} else { s with wrap:=false}
def fL (s:Sc)(r:Int)(w:Nat):List Ce:=
 if w=2 then (s.cells.set (s.y*s.aa+s.x) ⟨r,s.attr,1⟩).set (s.y*s.aa+s.x+1) ⟨0,s.attr,2⟩ else s.cells.set (s.y*s.aa+s.x) ⟨r,s.attr,0⟩
def jY (s:Sc)(r:Int)(w:Nat):Sc:=
 if s.x+w≥s.aa then { s with cells:=cO (fL s r w) s.aa s.y,x:=s.aa-1,wrap:=s.auto}
 else { s with cells:=cO (fL s r w) s.aa s.y,x:=s.x+w}
def gE (s:Sc):Sc:=if s.wrap=true then { cH s with x:=0} else s
def je (s:Sc)(r:Int):Sc:=
 if dB r=0 then s
 else if dB r=2/\(gE s).x+1=s.aa then (if s.auto=false\/s.aa=1 then gE s else jY { cH (gE s) with x:=0} r 2)
 else jY (gE s) r (dB r)
def qm (t:List Bool)(c:Nat):Nat->Nat->Nat
 | 0,x=>x
 | f+1,x=>if x+1<c/\t.getD x false=false then qm t c f (x+1) else x
def xD (s:Sc)(b:Int):Sc:=
 if b=8 then { s with x:=s.x-1,wrap:=false}
 else if b=9 then { s with x:=min (qm s.aP s.aa s.aa (s.x+1)) (s.aa-1),wrap:=false}
 else if b=10\/b=11\/b=12 then cH s
 else if b=13 then { s with x:=0,wrap:=false} else s
def jS (s:Sc)(b:Int):Sc:=
 if b=55 then { s with sy:=s.y,sx:=s.x,eg:=s.attr}
 else if b=56 then { s with y:=s.sy,x:=s.sx,attr:=s.eg,wrap:=false}
 else if b=68 then cH s
 else if b=69 then { cH s with x:=0}
 else if b=77 then (if s.y=s.top then { s with wrap:=false,cells:=dnF s.cells s.aa s.top s.bot 1} else { s with wrap:=false,y:=s.y-1})
 else if b=72 then { s with aP:=s.aP.set s.x true}
 else if b=99 then newF s.rows s.aa else s
def bF (ps:List Int)(i:Nat):Int:=ps.getD i 0
def toF (s:Sc)(y x:Int):Sc:={ s with y:=min y.toNat (s.rows-1),x:=min x.toNat (s.aa-1),wrap:=false}
def ju (s:Sc)(k:Int):Int:=if k=0 then s.x else 0
def toK (s:Sc)(k:Int):Int:=if k=1 then s.x+1 else s.aa
def gU (s:Sc)(k:Int):Nat->List Ce
 | 0=>s.cells
 | n+1=>if n=s.y then kY (gU s k n) s.aa n (ju s k) (toK s k) else if k=2\/(k=0/\s.y<n)\/(k=1/\n<s.y) then kY (gU s k n) s.aa n 0 s.aa else gU s k n
def fW (s:Sc)(row:Bool)(k:Int):Sc:=
 if 0<=k/\k<=2 then { s with wrap:=false,cells:=if row=true then kY s.cells s.aa s.y (ju s k) (toK s k) else gU s k s.rows} else { s with wrap:=false}
def mY (a:Int)(b:Int):Int:=(a.toNat ||| b.toNat:Nat)
def jB (a:Int)(m:Nat):Int:=((a.toNat &&& (65535 ^^^ m)):Nat)
def bR (a k:Int):Int:=
 if k=0 then 0 else if k=1 then mY a 1 else if k=4 then mY a 2 else if k=7 then mY a 4
 else if k=22 then jB a 1 else if k=24 then jB a 2 else if k=27 then jB a 4
 else if 30<=k/\k<=37 then mY (jB a 0xf0) ((k-29)*16) else if k=39 then jB a 0xf0
 else if 40<=k/\k<=47 then mY (jB a 0xf00) ((k-39)*256) else if k=49 then jB a 0xf00 else a
def eS (s:Sc)(b:Int)(ps:List Int):Sc:=
 let n:=max (bF ps 0) 1
 let m:=max (bF ps 1) 1
 let k:=bF ps 0
 if b=65 then toF s (s.y-n) s.x
 else if b=66 then toF s (s.y+n) s.x
 else if b=67 then toF s s.y (s.x+n)
 else if b=68 then toF s s.y (s.x-n)
 else if b=71\/b=96 then toF s s.y (n-1)
 else if b=100 then toF s (n-1) s.x
 else if b=72\/b=102 then toF s (n-1) (m-1)
 else if b=74 then fW s false k
 else if b=75 then fW s true k
 else if b=76 then (if s.top<=s.y/\s.y<=s.bot then { s with wrap:=false,x:=0,cells:=dnF s.cells s.aa s.y s.bot n} else { s with wrap:=false})
 else if b=77 then (if s.top<=s.y/\s.y<=s.bot then { s with wrap:=false,x:=0,cells:=upF s.cells s.aa s.y s.bot n} else { s with wrap:=false})
 else if b=83 then { s with wrap:=false,cells:=upF s.cells s.aa s.top s.bot n}
 else if b=84 then { s with wrap:=false,cells:=dnF s.cells s.aa s.top s.bot n}
 else if b=64 then { s with wrap:=false,cells:=BZ s.cells s.aa s.y s.x n}
 else if b=80 then { s with wrap:=false,cells:=B5 s.cells s.aa s.y s.x n}
 else if b=88 then { s with wrap:=false,cells:=kY s.cells s.aa s.y s.x (s.x+n)}
 else if b=114 then
  let bt:=(if bF ps 1=0\/(s.rows:Int)<bF ps 1 then (s.rows:Int) else bF ps 1)-1
  if n-1<bt then { s with y:=0,x:=0,wrap:=false,top:=(n-1).toNat,bot:=bt.toNat} else s
 else if b=103 then (if k=3 then { s with aP:=List.replicate s.aa false} else if k=0 then { s with aP:=s.aP.set s.x false} else s)
 else if b=109 then { s with attr:=if ps=[] then 0 else ps.foldl bR s.attr}
 else s
def eD (on:Bool)(s:Sc)(k:Int):Sc:=
 if k=7 then { s with auto:=on} else if k=25 then { s with shown:=on}
 else if k=1049/\on=true/\s.alt=false then { s with other:=s.cells,oy:=s.y,ox:=s.x,alt:=true,wrap:=false,cells:=dV s.rows s.aa}
 else if k=1049/\on=false/\s.alt=true then { s with cells:=s.other,y:=s.oy,x:=s.ox,alt:=false,wrap:=false,other:=[],oy:=0,ox:=0}
 else s
structure aR (s:Sc):Prop where
 g:bU s.cells s.rows s.aa
 y:s.y<s.rows
 x:s.x<s.aa
 wr:s.wrap=true->s.x+1=s.aa
 tb:s.top<=s.bot
 b:s.bot<s.rows
 rg:s.top<s.bot\/s.rows=1
 aP:s.aP.length=s.aa
 sy:s.sy<s.rows
 sx:s.sx<s.aa
 oy:s.oy<s.rows
 ox:s.ox<s.aa
 at':0<=s.attr/\s.attr<=65535
 sat:0<=s.eg/\s.eg<=65535
 alt:s.alt=true->bU s.other s.rows s.aa
 non:s.alt=false->s.other=[]/\s.oy=0/\s.ox=0
theorem xF (hr:1<=rows/\rows<=1000)(hc:1<=aa/\aa<=1000):bU (dV rows aa) rows aa:=⟨hr,hc,by simp[dV]⟩
theorem rE (aa:Nat):(mC aa).length=aa:=by simp[mC]
theorem vH (hr:1<=rows/\rows<=1000)(hc:1<=aa/\aa<=1000):aR (newF rows aa):=by
 have h1:=hr.1
 have h2:=hc.1
 refine ⟨xF hr hc, ?_, ?_, ?_, ?_, ?_, ?_, ?_, ?_, ?_, ?_, ?_, ?_, ?_, ?_, ?_⟩ <;> simp[newF,rE] <;> omega
theorem iy {s:Sc}(h:aR s):aR (cH s)/\(cH s).rows=s.rows/\(cH s).aa=s.aa/\(cH s).x=s.x/\(cH s).wrap=false/\(cH s).auto=s.auto/\(cH s).attr=s.attr:=by
 unfold cH
 split
 ·exact ⟨⟨h.g.ej (m3 h.g h.b h.tb),h.y,h.x,by simp,h.tb,h.b,h.rg,h.aP,h.sy,h.sx,h.oy,h.ox,h.at',h.sat,h.alt,h.non⟩,rfl,rfl,rfl,rfl,rfl,rfl⟩
 ·split
  ·rename_i hh
   exact ⟨⟨h.g,hh,h.x,by simp,h.tb,h.b,h.rg,h.aP,h.sy,h.sx,h.oy,h.ox,h.at',h.sat,h.alt,h.non⟩,rfl,rfl,rfl,rfl,rfl,rfl⟩
  ·exact ⟨⟨h.g,h.y,h.x,by simp,h.tb,h.b,h.rg,h.aP,h.sy,h.sx,h.oy,h.ox,h.at',h.sat,h.alt,h.non⟩,rfl,rfl,rfl,rfl,rfl,rfl⟩
theorem aR.x0 {s:Sc}(h:aR s)(hw:s.wrap=false):aR { s with x:=0}:=
 ⟨h.g,h.y,by have:=h.g.c;show 0<s.aa;omega,by simp[hw],h.tb,h.b,h.rg,h.aP,h.sy,h.sx,h.oy,h.ox,h.at',h.sat,h.alt,h.non⟩
theorem qh {s:Sc}(h:aR s):aR (gE s)/\(gE s).rows=s.rows/\(gE s).aa=s.aa/\(gE s).wrap=false/\(gE s).auto=s.auto/\(gE s).attr=s.attr:=by
 have n:=iy h
 unfold gE
 split
 ·exact ⟨n.1.x0 n.2.2.2.2.1,n.2.1,n.2.2.1,n.2.2.2.2.1,n.2.2.2.2.2.1,n.2.2.2.2.2.2⟩
 ·rename_i hw
  exact ⟨h,rfl,rfl,by simpa using hw,rfl,rfl⟩
theorem kH (s:Sc)(r:Int)(w:Nat):(fL s r w).length=s.cells.length:=by
 unfold fL
 split <;> simp
theorem fH {L:List Ce}(g:bU L rows aa)(hy:y<rows):(cO L aa y).length=L.length:=fO g hy (by rw[bQ,bG g hy])
theorem aR.cells {s:Sc}(h:aR s){L:List Ce}(hL:L.length=s.cells.length):aR { s with cells:=L}:=
 ⟨h.g.ej hL,h.y,h.x,h.wr,h.tb,h.b,h.rg,h.aP,h.sy,h.sx,h.oy,h.ox,h.at',h.sat,h.alt,h.non⟩
theorem aR.Ag {s:Sc}(h:aR s):aR { s with wrap:=false}:=
 ⟨h.g,h.y,h.x,by simp,h.tb,h.b,h.rg,h.aP,h.sy,h.sx,h.oy,h.ox,h.at',h.sat,h.alt,h.non⟩
theorem aR.place {s:Sc}(h:aR s){y x:Nat}(hy:y<s.rows)(hx:x<s.aa):aR { s with y:=y,x:=x,wrap:=false}:=
 ⟨h.g,hy,hx,by simp,h.tb,h.b,h.rg,h.aP,h.sy,h.sx,h.oy,h.ox,h.at',h.sat,h.alt,h.non⟩
theorem aR.cw {s:Sc}(h:aR s){L:List Ce}(hL:L.length=s.cells.length):aR { s with cells:=L,wrap:=false}:=(h.cells hL).Ag
theorem aR.cw0 {s:Sc}(h:aR s){L:List Ce}(hL:L.length=s.cells.length):aR { s with cells:=L,wrap:=false,x:=0}:=(h.cw hL).x0 rfl
theorem JJ {s:Sc}(h:aR s)(r:Int)(w:Nat):bU (fL s r w) s.rows s.aa:=h.g.ej (kH s r w)
theorem L7 {s:Sc}(h:aR s)(hw:s.wrap=false){r:Int}{w:Nat}:aR (jY s r w):=by
 have hl:(cO (fL s r w) s.aa s.y).length=s.cells.length:=by rw[fH (JJ h r w) h.y,kH]
 have hc:=h.g.c
 unfold jY
 split
 ·exact ⟨h.g.ej hl,h.y,by show s.aa-1<s.aa;omega,fun _=>by show s.aa-1+1=s.aa;omega,h.tb,h.b,h.rg,h.aP,h.sy,h.sx,h.oy,h.ox,h.at',h.sat,h.alt,h.non⟩
 ·exact ⟨h.g.ej hl,h.y,by show s.x+w<s.aa;omega,by simp[hw],h.tb,h.b,h.rg,h.aP,h.sy,h.sx,h.oy,h.ox,h.at',h.sat,h.alt,h.non⟩
theorem NY {s:Sc}(h:aR s)(r:Int):aR (je s r):=by
 have w:=qh h
 have n:=iy w.1
 unfold je
 split
 ·exact h
 ·split
  ·split
   ·exact w.1
   ·exact L7 (n.1.x0 n.2.2.2.2.1) n.2.2.2.2.1
  ·exact L7 w.1 w.2.2.2.1
theorem Zi {s:Sc}(h:aR s)(b:Int):aR (xD s b):=by
 have hx:=h.x
 unfold xD
 split
 ·exact ⟨h.g,h.y,by show s.x-1<s.aa;omega,by simp,h.tb,h.b,h.rg,h.aP,h.sy,h.sx,h.oy,h.ox,h.at',h.sat,h.alt,h.non⟩
 ·split
  ·exact ⟨h.g,h.y,by show min _ (s.aa-1)<s.aa;omega,by simp,h.tb,h.b,h.rg,h.aP,h.sy,h.sx,h.oy,h.ox,h.at',h.sat,h.alt,h.non⟩
  ·split
   ·exact (iy h).1
   ·split
    ·exact (h.Ag).x0 rfl
    ·exact h
theorem Zg {s:Sc}(h:aR s)(b:Int):aR (jS s b):=by
 have hy:=h.y
 have n:=iy h
 unfold jS
 split
 ·exact ⟨h.g,h.y,h.x,h.wr,h.tb,h.b,h.rg,h.aP,h.y,h.x,h.oy,h.ox,h.at',h.at',h.alt,h.non⟩
 split
 ·exact ⟨h.g,h.sy,h.sx,by simp,h.tb,h.b,h.rg,h.aP,h.sy,h.sx,h.oy,h.ox,h.sat,h.sat,h.alt,h.non⟩
 split
 ·exact n.1
 split
 ·exact n.1.x0 n.2.2.2.2.1
 split
 ·split
  ·exact h.cw (nk h.g h.b h.tb)
  ·exact ⟨h.g,by show s.y-1<s.rows;omega,h.x,by simp,h.tb,h.b,h.rg,h.aP,h.sy,h.sx,h.oy,h.ox,h.at',h.sat,h.alt,h.non⟩
 split
 ·exact ⟨h.g,h.y,h.x,h.wr,h.tb,h.b,h.rg,by show (s.aP.set s.x true).length=s.aa;rw[List.length_set];exact h.aP,h.sy,h.sx,h.oy,h.ox,h.at',h.sat,h.alt,h.non⟩
 split
 ·exact vH h.g.r h.g.c
 ·exact h
theorem tD {s:Sc}(h:aR s)(y x:Int):aR (toF s y x):=h.place (by have:=h.y;omega) (by have:=h.x;omega)
theorem Vg {s:Sc}(h:aR s):s.y*s.aa+s.x<s.cells.length/\(s.y+1)*s.aa<=s.cells.length/\s.y*s.aa+s.aa=(s.y+1)*s.aa:=by
 have h1:=cY (aa:=s.aa) h.y
 have h2:=bx s.y s.aa
 have h3:=h.x
 rw[h.g.len];omega
theorem Fc {b:Int}(ha:0<=a/\a<=65535)(hb:0<=b/\b<=65535):0<=mY a b/\mY a b<=65535:=by
 unfold mY
 have:a.toNat ||| b.toNat<2 ^ 16:=Nat.or_lt_two_pow (by omega) (by omega)
 omega
theorem nu {m:Nat}(ha:0<=a/\a<=65535):0<=jB a m/\jB a m<=65535:=by
 unfold jB
 have:a.toNat &&& (65535 ^^^ m)<=a.toNat:=Nat.and_le_left
 omega
theorem Hw {k:Int}(ha:0<=a/\a<=65535):0<=bR a k/\bR a k<=65535:=by
 unfold bR
 repeat' split
 all_goals first
  | omega
  | exact Fc ha (by decide)
  | exact nu ha
  | exact Fc (nu ha) (by omega)
  | exact ha
theorem vK:∀{ps:List Int} {a:Int},(0<=a/\a<=65535)->0<=ps.foldl bR a/\ps.foldl bR a<=65535
 | [],a,h=>h
 | k::ps,a,h=>vK (ps:=ps) (Hw h)
theorem CU {M:List Ce}{k:Int}:(M.take x++oO (bz k) (M.drop x)).length=M.length:=by rw[List.length_append,kG];simp;omega
theorem CT {M:List Ce}{k:Int}:(M.take x++oN (bz k) (M.drop x)).length=M.length:=by rw[List.length_append,kE];simp;omega
theorem HC {L:List Ce}(g:bU L rows aa)(hy:y<rows):(BZ L aa y x n).length=L.length:=fO g hy (by rw[bQ,CU,bG g hy])
theorem HW {L:List Ce}(g:bU L rows aa)(hy:y<rows):(B5 L aa y x n).length=L.length:=fO g hy (by rw[bQ,CT,bG g hy])
theorem jL {L:List Ce}{b:Int}(g:bU L rows aa)(hy:y<rows):(kY L aa y a b).length=L.length:=by
 refine fO g hy ?_
 have:=bG g hy
 rw[bQ,bN (by omega) (by rw[this];unfold cP;omega) (by simp),this]
theorem xA {s:Sc}(h:aR s)(k:Int):∀n,n<=s.rows->bU (gU s k n) s.rows s.aa
 | 0,_=>h.g
 | n+1,hn=>by
  have ih:=xA h k n (by omega)
  unfold gU
  split
  ·exact ih.ej (jL ih (by omega))
  ·split
   ·exact ih.ej (jL ih (by omega))
   ·exact ih
theorem Dz {s:Sc}(h:aR s)(row:Bool)(k:Int):aR (fW s row k):=by
 unfold fW
 split
 ·refine h.cw ?_
  split
  ·exact jL h.g h.y
  ·rw[(xA h k s.rows (Nat.le_refl _)).len,h.g.len]
 ·exact h.Ag
theorem Zk {s:Sc}(h:aR s)(b:Int)(ps:List Int):aR (eS s b ps):=by
 have hy:=h.y
 have hb:=h.b
 unfold eS
 dsimp only
 have c0:∀{c:Prop} [Decidable c] {x y:Sc},(c->aR x)->(¬c->aR y)->aR (if c then x else y):=fun {c} _ {x y} h1 h2=>by
  by_cases hc:c
  ·rw[if_pos hc];exact h1 hc
  ·rw[if_neg hc];exact h2 hc
 refine c0 (fun _=>tD h _ _) fun _=>c0 (fun _=>tD h _ _) fun _=>c0 (fun _=>tD h _ _) fun _=>c0 (fun _=>tD h _ _) fun _=>c0 (fun _=>tD h _ _) fun _=>c0 (fun _=>tD h _ _) fun _=>c0 (fun _=>tD h _ _) fun _=>?_
 refine c0 (fun _=>Dz h _ _) fun _=>c0 (fun _=>Dz h _ _) fun _=>?_
 refine c0 (fun _=>c0 (fun hh=>h.cw0 (nk h.g h.b hh.2)) fun _=>h.Ag) fun _=>c0 (fun _=>c0 (fun hh=>h.cw0 (m3 h.g h.b hh.2)) fun _=>h.Ag) fun _=>?_
 refine c0 (fun _=>h.cw (m3 h.g h.b h.tb)) fun _=>c0 (fun _=>h.cw (nk h.g h.b h.tb)) fun _=>?_
 refine c0 (fun _=>h.cw (HC h.g hy)) fun _=>c0 (fun _=>h.cw (HW h.g hy)) fun _=>c0 (fun _=>h.cw (jL h.g hy)) fun _=>?_
 refine c0 (fun _=>c0 (fun hh=>?_) fun _=>h) fun _=>c0 (fun _=>c0 (fun _=>?_) fun _=>c0 (fun _=>?_) fun _=>h) fun _=>c0 (fun _=>?_) fun _=>h
 ·have hr:=h.g.r
  have hc:=h.g.c
  have hbt:(if bF ps 1=0\/(s.rows:Int)<bF ps 1 then (s.rows:Int) else bF ps 1)<=s.rows:=by split <;> omega
  have hn:1<=max (bF ps 0) 1:=by omega
  generalize (if bF ps 1=0\/(s.rows:Int)<bF ps 1 then (s.rows:Int) else bF ps 1)=bt at *
  generalize max (bF ps 0) 1=n at *
  exact ⟨h.g,by show 0<s.rows;omega,by show 0<s.aa;omega,by simp,by show (n-1).toNat<=(bt-1).toNat;omega,by show (bt-1).toNat<s.rows;omega,.inl (by show (n-1).toNat<(bt-1).toNat;omega),h.aP,h.sy,h.sx,h.oy,h.ox,h.at',h.sat,h.alt,h.non⟩
 ·exact ⟨h.g,h.y,h.x,h.wr,h.tb,h.b,h.rg,by simp,h.sy,h.sx,h.oy,h.ox,h.at',h.sat,h.alt,h.non⟩
 ·exact ⟨h.g,h.y,h.x,h.wr,h.tb,h.b,h.rg,by show (s.aP.set s.x false).length=s.aa;rw[List.length_set];exact h.aP,h.sy,h.sx,h.oy,h.ox,h.at',h.sat,h.alt,h.non⟩
 ·refine ⟨h.g,h.y,h.x,h.wr,h.tb,h.b,h.rg,h.aP,h.sy,h.sx,h.oy,h.ox, ?_,h.sat,h.alt,h.non⟩
  show 0<=(if ps=[] then 0 else ps.foldl bR s.attr)/\(if ps=[] then 0 else ps.foldl bR s.attr)<=65535
  split
  ·omega
  ·exact vK h.at'
theorem Hh {on:Bool}{s:Sc}(h:aR s)(k:Int):aR (eD on s k):=by
 have hr:=h.g.r
 have hc:=h.g.c
 unfold eD
 split
 ·exact ⟨h.g,h.y,h.x,h.wr,h.tb,h.b,h.rg,h.aP,h.sy,h.sx,h.oy,h.ox,h.at',h.sat,h.alt,h.non⟩
 split
 ·exact ⟨h.g,h.y,h.x,h.wr,h.tb,h.b,h.rg,h.aP,h.sy,h.sx,h.oy,h.ox,h.at',h.sat,h.alt,h.non⟩
 split
 ·exact ⟨xF hr hc,h.y,h.x,by simp,h.tb,h.b,h.rg,h.aP,h.sy,h.sx,h.y,h.x,h.at',h.sat,fun _=>h.g,by simp⟩
 split
 ·rename_i hh
  have ha:=h.alt hh.2.2
  exact ⟨ha,h.oy,h.ox,by simp,h.tb,h.b,h.rg,h.aP,h.sy,h.sx,by show 0<s.rows;omega,by show 0<s.aa;omega,h.at',h.sat,by simp,by simp⟩
 ·exact h
def osL:Option (List Int)->List Int
 | none=> []
 | some l=>l
def yN (L:List Ce)(i:Nat):Prop:=(hAt L i=1/\(i+1=L.length\/hAt L (i+1)≠2))\/(hAt L i=2/\(i=0\/hAt L (i-1)≠1))
theorem zy {L:List Ce}(h:yN L i):dK L i=aM:=if_pos h
theorem l8 {L:List Ce}(h:¬yN L i):dK L i=L.getD i aM:=if_neg h
theorem oL (L:List Ce):fh (fh L)=fh L:=by
 refine dM (by rw[bQ,bQ]) fun i hi=>?_
 rw[bQ,bQ] at hi
 rw[mB (by rw[bQ];exact hi)]
 have hat:∀j<L.length,hAt (fh L) j=(dK L j).h:=fun j hj=>by unfold hAt;rw[mB hj]
 rcases Classical.em (yN (fh L) i) with hb | hb
 ·exfalso
  unfold yN at hb
  rw[bQ,hat i hi] at hb
  rcases Classical.em (yN L i) with h0 | h0
  ·rw[zy h0] at hb;simp[aM] at hb
  ·rw[l8 h0] at hb
   change (hAt L i=1/\_)\/(hAt L i=2/\_) at hb
   rcases hb with ⟨h1,h2⟩ | ⟨h1,h2⟩
   ·have h3:i+1<L.length/\hAt L (i+1)=2:=by
     unfold yN at h0
     constructor
     ·rcases Nat.lt_or_ge (i+1) L.length with h | h;exact h;exact absurd (.inl ⟨h1,.inl (by omega)⟩) h0
     ·rcases Decidable.em (hAt L (i+1)=2) with h | h;exact h;exact absurd (.inl ⟨h1,.inr h⟩) h0
    rcases h2 with h2 | h2
    ·omega
    ·rw[hat _ h3.1,l8 (by unfold yN;rw[h3.2];rintro (⟨h4,_⟩ | ⟨_,h4 | h4⟩);omega;omega;exact h4 h1)] at h2
     exact h2 h3.2
   ·have h3:0<i/\hAt L (i-1)=1:=by
     unfold yN at h0
     constructor
     ·rcases Nat.eq_zero_or_pos i with h | h;exact absurd (.inr ⟨h1,.inl h⟩) h0;exact h
     ·rcases Decidable.em (hAt L (i-1)=1) with h | h;exact h;exact absurd (.inr ⟨h1,.inr h⟩) h0
    rcases h2 with h2 | h2
    ·omega
    ·rw[hat _ (by omega),l8 (by
      unfold yN;rw[h3.2,show i-1+1=i by omega,h1]
      rintro (⟨_,h4 | h4⟩ | ⟨h4,_⟩)
      ·omega
      ·exact h4 rfl
      ·omega)] at h2
     exact h2 h3.2
 ·exact l8 hb
def WhG (L:List Ce)(rows aa:Nat):Prop:=∀y<rows,fh (cM L aa y)=cM L aa y
theorem mb {L R:List Ce}{y':Nat}(g:bU L rows aa)(hy:y<rows)(hy':y'<rows)(hR:R.length=aa):cM (kP L aa y R) aa y'=if y'=y then R else cM L aa y':=by
 have gp:bU (kP L aa y R) rows aa:=g.ej (fO g hy hR)
 have s1:=bx y aa
 have s2:=bx y' aa
 refine dM ?_ fun i hi=>?_
 ·rw[bG gp hy'];split
  ·exact hR.symm
  ·exact (bG g hy').symm
 ·rw[bG gp hy'] at hi
  rw[cU gp hy' hi,iI g hy hR]
  rcases Nat.lt_trichotomy y' y with h | h | h
  ·have:(y'+1)*aa<=y*aa:=Nat.mul_le_mul_right _ h
   rw[if_pos (by omega),if_neg (by omega),cU g hy' hi]
  ·subst h
   rw[if_neg (by omega),if_pos (by omega),if_pos rfl]
   congr 1;omega
  ·have:(y+1)*aa<=y'*aa:=Nat.mul_le_mul_right _ h
   rw[if_neg (by omega),if_neg (by omega),if_neg (by omega),cU g hy' hi]
theorem WhG.put {L R:List Ce}(w:WhG L rows aa)(g:bU L rows aa)(hy:y<rows)(hR:R.length=aa)(hw:fh R=R):WhG (kP L aa y R) rows aa:=fun y' hy'=>by
 rw[mb g hy hy' hR]
 split
 ·exact hw
 ·exact w y' hy'
theorem WhG.SQ {L:List Ce}(g:bU L rows aa)(hy:y<rows)(w:∀y'<rows,y'≠y->fh (cM L aa y')=cM L aa y'):WhG (cO L aa y) rows aa:=fun y' hy'=>by
 unfold cO
 rw[mb g hy hy' (by rw[bQ,bG g hy])]
 split
 ·exact oL _
 ·exact w y' hy' ‹_›
theorem rB (n:Nat):fh (List.replicate n aM)=List.replicate n aM:=by
 refine dM (by rw[bQ]) fun i hi=>?_
 rw[bQ,List.length_replicate] at hi
 have h0:hAt (List.replicate n aM) i=0:=by unfold hAt;rw[gH];first | rfl | (split <;> rfl)
 rw[mB (by simpa using hi),l8 (by unfold yN;rw[h0];rintro (⟨h,_⟩ | ⟨h,_⟩) <;> omega)]
theorem ij {L R:List Ce}(g:bU L rows aa)(hy:y<rows)(hR:R.length=aa)(h:∀x<aa,L.getD (y*aa+x) aM=R.getD x aM):cM L aa y=R:=
 dM (by rw[bG g hy,hR]) fun i hi=>by
  rw[bG g hy] at hi
  rw[cU g hy hi,h i hi]
theorem WhG.up {L:List Ce}(w:WhG L rows aa)(g:bU L rows aa)(hb:bot<rows)(ht:top<=bot):WhG (upF L aa top bot n) rows aa:=fun y hy=>by
 have gp:bU (upF L aa top bot n) rows aa:=g.ej (m3 g hb ht)
 have s1:=bx y aa
 rcases (show (y<top\/bot<y)\/(top<=y/\y<=bot) by omega) with h | h
 ·rw[ij (R:=cM L aa y) gp hy (bG g hy) fun x hx=>by
   rw[cU g hy hx,LQ g hb ht]
   rcases h with h | h
   ·left;have:(y+1)*aa<=top*aa:=Nat.mul_le_mul_right _ h
    omega
   ·right;have:(bot+1)*aa<=y*aa:=Nat.mul_le_mul_right _ h
    omega]
  exact w y hy
 ·rcases Nat.lt_or_ge bot (y+bz n) with hn | hn
  ·rw[ij (R:=List.replicate aa aM) gp hy (by simp) fun x hx=>by rw[Jn g hb ht hx h,if_neg (by omega),gH]]
   exact rB _
  ·rw[ij (R:=cM L aa (y+bz n)) gp hy (bG g (by omega)) fun x hx=>by rw[Jn g hb ht hx h,if_pos hn,cU g (by omega) hx]]
   exact w _ (by omega)
theorem WhG.dn {L:List Ce}(w:WhG L rows aa)(g:bU L rows aa)(hb:bot<rows)(ht:top<=bot):WhG (dnF L aa top bot n) rows aa:=fun y hy=>by
 have gp:bU (dnF L aa top bot n) rows aa:=g.ej (nk g hb ht)
 have s1:=bx y aa
 rcases (show (y<top\/bot<y)\/(top<=y/\y<=bot) by omega) with h | h
 ·rw[ij (R:=cM L aa y) gp hy (bG g hy) fun x hx=>by
   rw[cU g hy hx,Mq g hb ht]
   rcases h with h | h
   ·left;have:(y+1)*aa<=top*aa:=Nat.mul_le_mul_right _ h
    omega
   ·right;have:(bot+1)*aa<=y*aa:=Nat.mul_le_mul_right _ h
    omega]
  exact w y hy
 ·rcases Nat.lt_or_ge y (top+bz n) with hn | hn
  ·rw[ij (R:=List.replicate aa aM) gp hy (by simp) fun x hx=>by rw[KK g hb ht hx h,if_neg (by omega),gH]]
   exact rB _
  ·rw[ij (R:=cM L aa (y-bz n)) gp hy (bG g (by omega)) fun x hx=>by rw[KK g hb ht hx h,if_pos hn,cU g (by omega) hx]]
   exact w _ (by omega)
theorem WhG.blank (hr:1<=rows/\rows<=1000)(hc:1<=aa/\aa<=1000):WhG (dV rows aa) rows aa:=fun y hy=>by
 have g:bU (dV rows aa) rows aa:=xF hr hc
 rw[ij (R:=List.replicate aa aM) g hy (by simp) fun x hx=>by unfold dV;rw[gH,gH]]
 exact rB _
theorem WhG.set {L:List Ce}{c:Ce}(w:WhG L rows aa)(g:bU L rows aa)(hy:y<rows)(hi:y*aa<=i/\i<(y+1)*aa):∀y'<rows,y'≠y->cM (L.set i c) aa y'=cM L aa y':=fun y' hy' hne=>by
 have gp:bU (L.set i c) rows aa:=g.ej (by simp)
 have hl:=cY (aa:=aa) hy
 refine ij gp hy' (bG g hy') fun x hx=>?_
 rw[cU g hy' hx,mq (by rw[g.len];omega),if_neg]
 have s2:=bx y' aa
 rcases Nat.lt_or_gt_of_ne hne with h | h
 ·have:(y'+1)*aa<=y*aa:=Nat.mul_le_mul_right _ h
  omega
 ·have:(y+1)*aa<=y'*aa:=Nat.mul_le_mul_right _ h
  omega
theorem WhG.era {L:List Ce}{b:Int}(w:WhG L rows aa)(g:bU L rows aa)(hy:y<rows):WhG (kY L aa y a b) rows aa:=by
 have hl:=jL (a:=a) (b:=b) g hy
 unfold kY
 refine w.put g hy ?_ (oL _)
 rw[bQ,bN (Nat.le_max_left _ _) (by rw[bG g hy];unfold cP;omega) (by simp),bG g hy]
theorem WhG.ins {L:List Ce}(w:WhG L rows aa)(g:bU L rows aa)(hy:y<rows):WhG (BZ L aa y x n) rows aa:=w.put g hy (by rw[bQ,CU,bG g hy]) (oL _)
theorem WhG.del {L:List Ce}(w:WhG L rows aa)(g:bU L rows aa)(hy:y<rows):WhG (B5 L aa y x n) rows aa:=w.put g hy (by rw[bQ,CT,bG g hy]) (oL _)
theorem Ua {s:Sc}(h:aR s)(w:WhG s.cells s.rows s.aa)(k:Int):∀n,n<=s.rows->WhG (gU s k n) s.rows s.aa
 | 0,_=>w
 | n+1,hn=>by
  have g:=xA h k n (by omega)
  have ih:=Ua h w k n (by omega)
  unfold gU
  split
  ·exact ih.era g (by omega)
  ·split
   ·exact ih.era g (by omega)
   ·exact ih
structure ScW (s:Sc):Prop where
 c:WhG s.cells s.rows s.aa
 o:s.alt=true->WhG s.other s.rows s.aa
theorem SL (hr:1<=rows/\rows<=1000)(hc:1<=aa/\aa<=1000):ScW (newF rows aa):=⟨WhG.blank hr hc,fun h=>by cases h⟩
theorem vF {s:Sc}(h:aR s)(w:ScW s):ScW (cH s):=by
 unfold cH
 split
 ·exact ⟨w.c.up h.g h.b h.tb,w.o⟩
 ·split
  ·exact ⟨w.c,w.o⟩
  ·exact ⟨w.c,w.o⟩
theorem Wc {s:Sc}(h:aR s)(w:ScW s):ScW (gE s):=by
 unfold gE
 split
 ·have:=vF h w;exact ⟨this.c,this.o⟩
 ·exact w
theorem HP {s:Sc}(h:aR s)(w:ScW s)(row:Bool)(k:Int):ScW (fW s row k):=by
 unfold fW
 split
 ·cases row
  ·exact ⟨Ua h w.c k s.rows (Nat.le_refl _),w.o⟩
  ·exact ⟨w.c.era h.g h.y,w.o⟩
 ·exact ⟨w.c,w.o⟩
theorem Rj {s:Sc}(h:aR s)(w:ScW s){r:Int}{n:Nat}(h2:n=2->s.x+1<s.aa):WhG (cO (fL s r n) s.aa s.y) s.rows s.aa:=by
 have hx:=h.x
 have s1:=bx s.y s.aa
 have hl:=cY (aa:=s.aa) h.y
 unfold fL
 split
 ·have h3:=h2 ‹_›
  have g1:bU (s.cells.set (s.y*s.aa+s.x) ⟨r,s.attr,1⟩) s.rows s.aa:=h.g.ej (by simp)
  have g2:bU ((s.cells.set (s.y*s.aa+s.x) ⟨r,s.attr,1⟩).set (s.y*s.aa+s.x+1) ⟨0,s.attr,2⟩) s.rows s.aa:=h.g.ej (by simp)
  refine WhG.SQ g2 h.y fun y' hy' hne=>?_
  have e1:=w.c.set h.g h.y (i:=s.y*s.aa+s.x) (c:=⟨r,s.attr,1⟩) (by omega) y' hy' hne
  have e2:cM ((s.cells.set (s.y*s.aa+s.x) ⟨r,s.attr,1⟩).set (s.y*s.aa+s.x+1) ⟨0,s.attr,2⟩) s.aa y'=cM (s.cells.set (s.y*s.aa+s.x) ⟨r,s.attr,1⟩) s.aa y':=by
   refine ij g2 hy' (bG g1 hy') fun x hx'=>?_
   rw[cU g1 hy' hx',mq (by rw[g1.len];omega),if_neg]
   have s2:=bx y' s.aa
   rcases Nat.lt_or_gt_of_ne hne with h | h
   ·have:(y'+1)*s.aa<=s.y*s.aa:=Nat.mul_le_mul_right _ h
    omega
   ·have:(s.y+1)*s.aa<=y'*s.aa:=Nat.mul_le_mul_right _ h
    omega
  rw[e2,e1]
  exact w.c y' hy'
 ·have g1:bU (s.cells.set (s.y*s.aa+s.x) ⟨r,s.attr,0⟩) s.rows s.aa:=h.g.ej (by simp)
  refine WhG.SQ g1 h.y fun y' hy' hne=>?_
  rw[w.c.set h.g h.y (i:=s.y*s.aa+s.x) (c:=⟨r,s.attr,0⟩) (by omega) y' hy' hne]
  exact w.c y' hy'
theorem RW {s:Sc}(h:aR s)(w:ScW s){r:Int}{n:Nat}(h2:n=2->s.x+1<s.aa):ScW (jY s r n):=by
 unfold jY
 split
 ·exact ⟨Rj h w h2,w.o⟩
 ·exact ⟨Rj h w h2,w.o⟩
theorem abW {s:Sc}(h:aR s)(w:ScW s)(b:Int):ScW (xD s b):=by
 unfold xD
 split
 ·exact ⟨w.c,w.o⟩
 ·split
  ·exact ⟨w.c,w.o⟩
  ·split
   ·exact vF h w
   ·split
    ·exact ⟨w.c,w.o⟩
    ·exact w
theorem abR {s:Sc}(h:aR s)(w:ScW s)(b:Int):ScW (jS s b):=by
 unfold jS
 split
 ·exact ⟨w.c,w.o⟩
 ·split
  ·exact ⟨w.c,w.o⟩
  ·split
   ·exact vF h w
   ·split
    ·have:=vF h w;exact ⟨this.c,this.o⟩
    ·split
     ·split
      ·exact ⟨w.c.dn h.g h.b h.tb,w.o⟩
      ·exact ⟨w.c,w.o⟩
     ·split
      ·exact ⟨w.c,w.o⟩
      ·split
       ·exact SL h.g.r h.g.c
       ·exact w
theorem RZ {s:Sc}(h:aR s)(w:ScW s)(r:Int):ScW (je s r):=by
 have o:=qh h
 have v:=Wc h w
 have n:=iy o.1
 have m:=vF o.1 v
 have hx:=o.1.x
 unfold je
 split
 ·exact w
 ·split
  ·split
   ·exact v
   ·rename_i h1 h2 h3
    refine RW (n.1.x0 n.2.2.2.2.1) ⟨m.c,m.o⟩ fun _=>?_
    show 0+1<(cH (gE s)).aa
    rw[n.2.2.1,o.2.2.1]
    have:=h.g.c
    have:s.aa≠1:=fun e=>h3 (.inr e)
    omega
  ·rename_i h1 h2
   refine RW o.1 v fun e=>?_
   rw[o.2.2.1] at hx ⊢
   have:(gE s).x+1≠s.aa:=fun e2=>h2 ⟨e,e2⟩
   omega
theorem zD {s:Sc}(w:ScW s)(y x:Int):ScW (toF s y x):=⟨w.c,w.o⟩
theorem abY {s:Sc}(h:aR s)(w:ScW s)(b:Int)(ps:List Int):ScW (eS s b ps):=by
 have hy:=h.y
 have hb:=h.b
 have nw:ScW { s with wrap:=false}:=⟨w.c,w.o⟩
 unfold eS
 dsimp only
 have c0:∀{c:Prop} [Decidable c] {x y:Sc},(c->ScW x)->(¬c->ScW y)->ScW (if c then x else y):=fun {c} _ {x y} h1 h2=>by
  by_cases hc:c
  ·rw[if_pos hc];exact h1 hc
  ·rw[if_neg hc];exact h2 hc
 refine c0 (fun _=>zD w _ _) fun _=>c0 (fun _=>zD w _ _) fun _=>c0 (fun _=>zD w _ _) fun _=>c0 (fun _=>zD w _ _) fun _=>c0 (fun _=>zD w _ _) fun _=>c0 (fun _=>zD w _ _) fun _=>c0 (fun _=>zD w _ _) fun _=>?_
 refine c0 (fun _=>HP h w _ _) fun _=>c0 (fun _=>HP h w _ _) fun _=>?_
 refine c0 (fun _=>c0 (fun hh=>⟨w.c.dn h.g h.b hh.2,w.o⟩) fun _=>nw) fun _=>c0 (fun _=>c0 (fun hh=>⟨w.c.up h.g h.b hh.2,w.o⟩) fun _=>nw) fun _=>?_
 refine c0 (fun _=>⟨w.c.up h.g h.b h.tb,w.o⟩) fun _=>c0 (fun _=>⟨w.c.dn h.g h.b h.tb,w.o⟩) fun _=>?_
 refine c0 (fun _=>⟨w.c.ins h.g hy,w.o⟩) fun _=>c0 (fun _=>⟨w.c.del h.g hy,w.o⟩) fun _=>c0 (fun _=>⟨w.c.era h.g hy,w.o⟩) fun _=>?_
 exact c0 (fun _=>c0 (fun hh=>⟨w.c,w.o⟩) fun _=>w) fun _=>c0 (fun _=>c0 (fun _=>⟨w.c,w.o⟩) fun _=>c0 (fun _=>⟨w.c,w.o⟩) fun _=>w) fun _=>c0 (fun _=>⟨w.c,w.o⟩) fun _=>w
theorem Yo {on:Bool}{s:Sc}(h:aR s)(w:ScW s)(k:Int):ScW (eD on s k):=by
 unfold eD
 split
 ·exact ⟨w.c,w.o⟩
 split
 ·exact ⟨w.c,w.o⟩
 split
 ·exact ⟨WhG.blank h.g.r h.g.c,fun _=>w.c⟩
 split
 ·rename_i hh
  exact ⟨w.o hh.2.2,fun e=>by cases e⟩
 ·exact w
theorem an (d:DV):wkT d d=True:=eq_true (fK d)
def vn:RFn:=⟨1,9,(SR [MB 2 false] [0] (SR [MV 3 0,BI 4 .geq 3 1,MV 5 4,MG 6 0 5 true,OG 7 (.bin .leq (.t 6) (.c (.int .i64 1000))) 5 true,OP 8 (.pick (.t 5) (.t 7) (.c (.bool false))),MV 2 8] [2] .ret)),[.t 2]⟩
theorem GO:aK PG.P (aA PG.P 76 vn) 76=some vn:=by kernel_rfl
def zb:RFn:=⟨1,6,(SR [OP 2 (.mov (.c (.int .i64 0)))] [0] (SR [MV 3 0,OP 4 (.mm true (.t 3) (.c (.int .i64 0))),OP 5 (.mm false (.t 4) (.c (.int .i64 1000))),MV 2 5] [2] .ret)),[.t 2]⟩
theorem J2:aK PG.P (aA PG.P 132 zb) 132=some zb:=by kernel_rfl
def vp:RFn:=⟨2,27,(SR [OP 4 (.mov (.c (.int .i64 0)))] [0,1] (.seq (SR [MV 5 1,OP 6 (.call 76 [.t 5]),OP 7 (.un .not (.t 6)),MV 8 7,MG 9 0 8 false,OG 10 (.len (.t 9)) 8 false,MG 11 1 8 false,OG 12 (.bin .rem (.t 10) (.t 11)) 8 false,OG 13 (.bin .neq (.t 12) (.c (.int .i64 0))) 8 false,OP 14 (.pick (.t 8) (.c (.bool true)) (.t 13)),MV 15 14,MG 16 0 15 false,OG 17 (.len (.t 16)) 15 false,MG 18 1 15 false,OG 19 (.bin .quo (.t 17) (.t 18)) 15 false,OG 20 (.call 76 [.t 19]) 15 false,OG 21 (.un .not (.t 20)) 15 false,OP 22 (.pick (.t 15) (.c (.bool true)) (.t 21))] [0,1,22] (.cond (.t 22) (SR [OP 4 (.mov (.c (.int .i64 0)))] [4] .ret) .skip)) (SR [MV 23 0,OP 24 (.len (.t 23)),MV 25 1,BT 26 .quo 24 25,MV 4 26] [4] .ret))),[.t 4]⟩
theorem GP:aK PG.P (aA PG.P 80 vp) 80=some vp:=by kernel_rfl
def rS:RFn:=⟨4,23,(SR [MB 8 false] [0,1,2,3] (SR [MV 9 2,BI 10 .geq 9 0,MV 11 10,MG 12 2 11 true,MG 13 3 11 true,OG 14 (.bin .leq (.t 12) (.t 13)) 11 true,OP 15 (.pick (.t 11) (.t 14) (.c (.bool false))),MV 16 15,MG 17 3 16 true,MG 18 0 16 true,MG 19 1 16 true,OG 20 (.call 80 [.t 18,.t 19]) 16 true,OG 21 (.bin .lss (.t 17) (.t 20)) 16 true,OP 22 (.pick (.t 16) (.t 21) (.c (.bool false))),MV 8 22] [8] .ret)),[.t 8]⟩
theorem El:aK PG.P (aA PG.P 131 rS) 131=some rS:=by kernel_rfl
def sA:RFn:=⟨0,2,(SR [OP 0 (.alloc [.int .i32 0,.int .u16 0,.int .u8 0])] [0] (SR [OP 1 (.build [.int .i32 0,.int .u16 0,.int .u8 0] [(0,(1,(.c (.int .i32 32))))]),SA 3 0 1] [0] .ret)),[.c 0 true 3]⟩
theorem EH:aK PG.P (aA PG.P 82 sA) 82=some sA:=by kernel_rfl
def x7:RC:=(SR [BT 6 .lss 5 4] [0,4,5,6] (.seq (.cond (.t 6) .skip (.ext 0)) (.seq (.blk 1 (SR [MV 7 5,MV 2 7] [0,2,4,5] (.reg [MV 8 0,MV 9 2,OP 10 (.call 82 []),OP 11 (.aT 3 (.t 8) (.t 9)),SA 3 11 10] 0 [0,4,5]))) (.reg [BI 12 .add 5 1,MV 5 12] 0 [0,4,5]))))
def vq:RFn:=⟨1,13,(SR [MV 3 0,OP 4 (.len (.t 3)),OP 5 (.mov (.c (.int .i64 0)))] [0,4,5] (.blk 0 (.loop x7))),[]⟩
theorem GQ:aK PG.P (aA PG.P 77 vq) 77=some vq:=by kernel_rfl
def jr:RFn:=⟨1,8,(SR [OP 2 (.mov (.c (.sl 0 [] .nil)))] [0] (.seq (SR [MV 3 0,OP 4 (.jM false (.t 3) (.c (.sl 0 [] .nil)))] [0,4] (.cond (.t 4) (SR [OP 2 (.mov (.c (.sl 0 [] .nil)))] [2] .ret) .skip)) (SR [OP 5 (.bK 3 [.int .i32 0,.int .u16 0,.int .u8 0] 0 []),MV 6 0,OP 7 (.append 3 8 (.t 5) (.t 6)),MV 2 7] [2] .ret))),[.t 2]⟩
theorem pG:aK PG.P (aA PG.P 43 jr) 43=some jr:=by kernel_rfl
def su:RFn:=⟨3,25,(SR [OP 6 (.mov (.c (.sl 0 [] .nil)))] [0,1,2] (.seq (SR [MV 7 2,BI 8 .lss 7 0,MV 9 8,MG 10 2 9 false,MG 11 0 9 false,MG 12 1 9 false,OG 13 (.call 80 [.t 11,.t 12]) 9 false,OG 14 (.bin .geq (.t 10) (.t 13)) 9 false,OP 15 (.pick (.t 9) (.c (.bool true)) (.t 14))] [0,1,2,15] (.cond (.t 15) (SR [OP 6 (.mov (.c (.sl 0 [] .nil)))] [6] .ret) .skip)) (SR [MV 16 0,MV 17 2,MV 18 1,BT 19 .mul 17 18,MV 20 2,BI 21 .add 20 1,MV 22 1,BT 23 .mul 21 22,OP 24 (.slice 3 (.t 16) (some (.t 19)) (some (.t 23)) none),MV 6 24] [6] .ret))),[.t 6]⟩
theorem z9:aK PG.P (aA PG.P 44 su) 44=some su:=by kernel_rfl
def TG0:FL:=[]
theorem VC:FOk PG (tab TG0):=FOk.nil
def jV (n:Int):Bool:=decide (1<=n/\n<=1000)
theorem yU (h:jV n=true):1<=n/\n<=1000:=by simpa [jV] using h
theorem yV (h:jV n=false):¬(1<=n/\n<=1000):=by simpa [jV] using h
theorem L2 (h:1<=n/\n<=1000):jV n=true:=by simpa [jV] using h
theorem YZ {m:Int} :
  av PG 76 [.int .i64 m] fun n RR OO=>RR=(((.bool (jV m),[])):DV × ay).1/\OO=(((.bool (jV m),[])):DV × ay).2:=by
 refine av.di (res:=fun n=>((.bool (jV m),[]))) VC GO (by simp[vn]) fun n=>?_
 unfold vn
 dsimp only
 simp -implicitDefEqProofs -dsimp only[vcS,↓vcQ,simprocAttr]
 unfold jV
 simp
 omega
def pU:List DV->Option aS
 | [.int .i64 m]=>some ⟨True,fun n=>((.bool (jV m),[]))⟩
 | _=>none
theorem xL (m:Int):pU [.int .i64 m]=some ⟨True,fun n=>((.bool (jV m),[]))⟩:=ak _
theorem TE (args:List DV)(s:aS)(hs:pU args=some s)(hp:s.pre):av PG 76 args fun n r os=>r=(s.res n).1/\os=(s.res n).2:=by
 unfold pU at hs
 split at hs
 ·rename_i m
  obtain rfl:=sj hs
  have this:=YZ (m:=m)
  exact this
 ·cases hs
theorem abd {m:Int} :
  av PG 132 [.int .i64 m] fun n RR OO=>RR=(((.int .i64 (bz m),[])):DV × ay).1/\OO=(((.int .i64 (bz m),[])):DV × ay).2:=by
 refine av.di (res:=fun n=>((.int .i64 (bz m),[]))) VC J2 (by simp[zb]) fun n=>?_
 unfold zb
 dsimp only
 simp -implicitDefEqProofs -dsimp only[vcS,↓vcQ,simprocAttr]
 unfold bz
 omega
def uo:List DV->Option aS
 | [.int .i64 m]=>some ⟨True,fun n=>((.int .i64 (bz m),[]))⟩
 | _=>none
theorem Bw (m:Int):uo [.int .i64 m]=some ⟨True,fun n=>((.int .i64 (bz m),[]))⟩:=ak _
theorem Yj (args:List DV)(s:aS)(hs:uo args=some s)(hp:s.pre):av PG 132 args fun n r os=>r=(s.res n).1/\os=(s.res n).2:=by
 unfold uo at hs
 split at hs
 ·rename_i m
  obtain rfl:=sj hs
  have this:=abd (m:=m)
  exact this
 ·cases hs
def TG1:FL:=(76,pU)::(132,uo)::[]
theorem Lm:FOk PG (tab TG1):=FOk.cons (FOk.cons (FOk.nil) Yj) TE
theorem Fo (args:List DV):tab TG1 76 args=(pU args).map .o:=ak _
theorem Iu (args:List DV):tab TG1 132 args=(uo args).map .o:=ak _
def yy:=J @Fo<|J @xL<|J @Iu<|@Bw
def jE (n:Nat)(c:Int):Int:=if 1<=c/\c<=1000/\(n:Int).tmod c=0/\1<=(n:Int).tdiv c/\(n:Int).tdiv c<=1000 then (n:Int).tdiv c else 0
theorem nP {L:List Ce}(g:bU L rows aa):jE L.length aa=rows:=by
 have h1:=g.r
 have h2:=g.c
 have h3:(L.length:Int)=(rows:Int)*aa:=by rw[g.len];simp
 have h4:(L.length:Int).tmod aa=0:=by rw[h3];exact Int.mul_tmod_left _ _
 have h5:(L.length:Int).tdiv aa=rows:=by rw[h3];exact Int.mul_tdiv_cancel _ (by omega)
 unfold jE
 rw[h4,h5,if_pos (by omega)]
theorem Y0 {o_l f_l n_l:Nat}{c:Int}(hp:n_l<=1000000) :
  av PG 80 [.own o_l f_l n_l,.int .i64 c] fun n RR OO=>RR=(((.int .i64 (jE n_l c),[])):DV × ay).1/\OO=(((.int .i64 (jE n_l c),[])):DV × ay).2:=by
 refine av.di (res:=fun n=>((.int .i64 (jE n_l c),[]))) Lm GP (by simp[vp]) fun n=>?_
 unfold vp
 dsimp only
 unfold jE
 cases hs:jV c with
 | false=>
  have h1:=yV hs
  simp -implicitDefEqProofs -dsimp only[yy,hs,vcS,↓vcQ,simprocAttr]
  rw[if_neg (by omega)]
 | true=>
  have h1:=yU hs
  have hc:¬c=0:=by omega
  have hc1:¬c= -1:=by omega
  have hd0:0<=(n_l:Int).tdiv c:=Int.tdiv_nonneg (by omega) (by omega)
  have hd1:(n_l:Int).tdiv c<=n_l:=Int.tdiv_le_self _ (by omega)
  have hw:IntKind.i64.wrap ((n_l:Int).tdiv c)=(n_l:Int).tdiv c:=aO (by omega) (by omega)
  by_cases hm:(n_l:Int).tmod c=0
  ·cases hq:jV ((n_l:Int).tdiv c) with
   | false=>
    have h2:=yV hq
    simp -implicitDefEqProofs -dsimp only[yy,hs,hc,hc1,hm,hw,hq,vcS,↓vcQ,simprocAttr]
    rw[if_neg (by omega)]
   | true=>
    have h2:=yU hq
    simp -implicitDefEqProofs -dsimp only[yy,hs,hc,hc1,hm,hw,hq,vcS,↓vcQ,simprocAttr]
    rw[if_pos (by omega)]
  ·simp -implicitDefEqProofs -dsimp only[yy,hs,hc,hc1,hm,vcS,↓vcQ,simprocAttr]
   try rw[if_neg (by omega)]
def sP:List DV->Option aS
 | [.own o_l f_l n_l,.int .i64 c]=>some ⟨n_l<=1000000,fun n=>((.int .i64 (jE n_l c),[]))⟩
 | _=>none
theorem DS (o_l:Nat)(f_l:Nat)(n_l:Nat)(c:Int):sP [.own o_l f_l n_l,.int .i64 c]=some ⟨n_l<=1000000,fun n=>((.int .i64 (jE n_l c),[]))⟩:=ak _
theorem TF (args:List DV)(s:aS)(hs:sP args=some s)(hp:s.pre):av PG 80 args fun n r os=>r=(s.res n).1/\os=(s.res n).2:=by
 unfold sP at hs
 split at hs
 ·rename_i o_l f_l n_l c
  obtain rfl:=sj hs
  have this:=Y0 (o_l:=o_l) (f_l:=f_l) (n_l:=n_l) (c:=c) hp
  exact this
 ·cases hs
def TG2:FL:=(80,sP)::TG1
theorem VB:FOk PG (tab TG2):=FOk.cons (Lm) TF
theorem Fm (args:List DV):tab TG2 80 args=(sP args).map .o:=ak _
theorem Fl (args:List DV):tab TG2 76 args=(pU args).map .o:=ak _
theorem It (args:List DV):tab TG2 132 args=(uo args).map .o:=ak _
def adL:=J @Fm<|J @DS<|J @Fl<|J @xL<|J @It<|@Bw
theorem Qs {o_l f_l n_l:Nat}{c:Int}{b:Int}(hp:n_l<=1000000) :
  av PG 131 [.own o_l f_l n_l,.int .i64 c,.int .i64 a,.int .i64 b] fun n RR OO=>RR=(((.bool (decide (0<=a/\a<=b/\b<jE n_l c)),[])):DV × ay).1/\OO=(((.bool (decide (0<=a/\a<=b/\b<jE n_l c)),[])):DV × ay).2:=by
 refine av.di (res:=fun n=>((.bool (decide (0<=a/\a<=b/\b<jE n_l c)),[]))) VB El (by simp[rS]) fun n=>?_
 unfold rS
 dsimp only
 simp -implicitDefEqProofs -dsimp only[adL,hp,vcS,↓vcQ,simprocAttr]
 refine ⟨fun h1=>⟨fun h2=>by simp[h1,h2],fun h2=>by simp[h2]⟩,fun h1=>by simp[h1]⟩
def qW:List DV->Option aS
 | [.own o_l f_l n_l,.int .i64 c,.int .i64 a,.int .i64 b]=>some ⟨n_l<=1000000,fun n=>((.bool (decide (0<=a/\a<=b/\b<jE n_l c)),[]))⟩
 | _=>none
theorem LC (o_l:Nat)(f_l:Nat)(n_l:Nat)(c:Int)(a:Int)(b:Int):qW [.own o_l f_l n_l,.int .i64 c,.int .i64 a,.int .i64 b]=some ⟨n_l<=1000000,fun n=>((.bool (decide (0<=a/\a<=b/\b<jE n_l c)),[]))⟩:=ak _
theorem MU (args:List DV)(s:aS)(hs:qW args=some s)(hp:s.pre):av PG 131 args fun n r os=>r=(s.res n).1/\os=(s.res n).2:=by
 unfold qW at hs
 split at hs
 ·rename_i o_l f_l n_l c a b
  obtain rfl:=sj hs
  have this:=Qs (o_l:=o_l) (f_l:=f_l) (n_l:=n_l) (c:=c) (a:=a) (b:=b) hp
  exact this
 ·cases hs
def TG3:FL:=(131,qW)::TG2
theorem uj:FOk PG (tab TG3):=FOk.cons (VB) MU
theorem Cb (args:List DV):tab TG3 131 args=(qW args).map .o:=ak _
theorem Fk (args:List DV):tab TG3 80 args=(sP args).map .o:=ak _
theorem Fj (args:List DV):tab TG3 76 args=(pU args).map .o:=ak _
theorem Is (args:List DV):tab TG3 132 args=(uo args).map .o:=ak _
def hD:=J @Cb<|J @LC<|J @Fk<|J @DS<|J @Fj<|J @xL<|J @Is<|@Bw
theorem qJ (h:∀T',ax T T' []->K (.agg aM.row) T'):aj PG 82 [] T K:=by
 refine aj.aE FOk.nil EH (by simp[sA]) ?_
 unfold sA
 dsimp only
 simp -implicitDefEqProofs -dsimp only[ah,vcS,↓vcQ,simprocAttr]
 exact h _ (ax.app _ _ _)
theorem qM {off n:Nat}{L:List Ce}(hq:T[q]?=some (some (.arr 3 (aq L))))(ho:off+n<=L.length)(h0:0<n)(hl:L.length<=1000000)
  (h:∀T' p,T.length<=p->T'[p]?=some (some (.arr 3 (aq ((L.drop off).take n))))->ax T T' []->K (.own p 0 n) T'):aj PG 43 [.own q off n] T K:=by
 refine aj.aE FOk.nil pG (by simp[jr]) ?_
 unfold jr
 dsimp only
 have hlen:(List.take n (List.drop off (aq L))).length=n:=by simp[az];omega
 simp -implicitDefEqProofs -dsimp only[ah,ai hq,h0,hlen,vcS,↓vcQ,simprocAttr]
 rw[az]
 refine ⟨ho,by omega,h _ _ (by omega) ?_ (ax.app _ _ _)⟩
 rw[bl,jx,jw]
 rfl
theorem ax.set (T:ay)(q:Nat)(x:Option Ob):ax T (T.set q x) [q]:=⟨by simp,fun k ob hk h=>by rw[List.getElem?_set_ne (fun e=>hk (by simp[e]))];exact h⟩
theorem Dw {L:List Ce}{off n:Nat}(hi:i<n)(ho:off+n<=L.length):(cy L off (off+i) (List.replicate i aM)).set (off+i) aM=cy L off (off+(i+1)) (List.replicate (i+1) aM):=by
 have l1:(cy L off (off+i) (List.replicate i aM)).length=L.length:=bN (by omega) (by omega) (by simp)
 have l2:(cy L off (off+(i+1)) (List.replicate (i+1) aM)).length=L.length:=bN (by omega) (by omega) (by simp)
 refine dM (by rw[List.length_set,l1,l2]) fun j hj=>?_
 rw[mq (by omega),cx (by omega) (by omega) (by simp),cx (by omega) (by omega) (by simp),gH,gH]
 by_cases h1:j=off+i
 ·rw[if_pos h1,if_neg (by omega),if_pos (by omega)]
 ·rw[if_neg h1]
  by_cases h2:j<off
  ·rw[if_pos h2,if_pos h2]
  ·rw[if_neg h2,if_neg h2]
   by_cases h3:j<off+i
   ·rw[if_pos h3,if_pos (by omega)]
   ·rw[if_neg h3,if_neg (by omega)]
theorem Mb (L:List Ce)(off:Nat):cy L off off []=L:=by simp[cy]
theorem xz {off n:Nat}{L:List Ce}(hq:T[q]?=some (some (.arr 3 (aq L))))(ho:off+n<=L.length)(hl:L.length<=1000000)
  (h:∀T',T'[q]?=some (some (.arr 3 (aq (cy L off (off+n) (List.replicate n aM)))))->ax T T' [q]->K (.tup []) T'):aj PG 77 [.own q off n] T K:=by
 refine aj.aE FOk.nil GQ (by simp[vq]) ?_
 unfold vq
 dsimp only
 simp -implicitDefEqProofs -dsimp only[ah,ai hq,vcS,↓vcQ,simprocAttr]
 refine bk.inv FOk.nil (S:=fun s:Nat × ay=>⟨[(0,.own q off n),(4,.int .i64 n),(5,.int .i64 s.1)],s.2⟩)
  (I:=fun s=>s.1<=n/\s.2[q]?=some (some (.arr 3 (aq (cy L off (off+s.1) (List.replicate s.1 aM)))))/\ax T s.2 [q])
  (μ:=fun s=>n-s.1) (0,T) ⟨by simp,by simpa [Mb] using hq,ax.refl _ _⟩ ?_ ?_
 ·simp -implicitDefEqProofs -dsimp only[an,vcS,↓vcQ,simprocAttr]
 ·intro ⟨i,A⟩ ⟨h1,h2,h3⟩
  dsimp only at h1 h2 h3 ⊢
  unfold x7
  have l1:(cy L off (off+i) (List.replicate i aM)).length=L.length:=bN (by omega) (by omega) (by simp)
  by_cases hi:i<n
  ·have hii:(i:Int)<n:=by omega
   have hi0:(0:Int)<=(i:Int):=by omega
   have hw1:IntKind.i64.wrap ((i:Int)+1)=((i+1:Nat):Int):=by rw[aO (by omega) (by omega)];omega
   simp -implicitDefEqProofs -dsimp only[ai h2,hii,hi0,hw1,an,Nat.zero_add,ah,vcS,↓vcQ,simprocAttr]
   refine qJ fun T' k=>?_
   have h2':=k.at h2 (by simp)
   have hg:=bf (L:=cy L off (off+i) (List.replicate i aM)) (i:=off+i) (by omega)
   have bY:=bM (cy L off (off+i) (List.replicate i aM)) (off+i) aM
   rw[Dw hi ho] at bY
   have hb:aM.row=[.int .i32 32,.int .u16 0,.int .u8 0]:=rfl
   change (aq (cy L off (off+i) (List.replicate i aM))).set (off+i) [.int .i32 32,.int .u16 0,.int .u8 0]=_ at bY
   rw[hb]
   simp -implicitDefEqProofs -dsimp only[ai h2',hii,hi0,hw1,an,Nat.zero_add,ah,hg,bY,vcS,↓vcQ,simprocAttr]
   refine ⟨(i+1,T'.set q (some (.arr 3 (aq (cy L off (off+(i+1)) (List.replicate (i+1) aM)))))),⟨rfl,aH _⟩,⟨hi,bZ h2' _, ?_⟩,by dsimp only;omega⟩
   exact (h3.trans k (k:=[q]) (by simp) (by simp)).trans (ax.set T' q _) (by simp) (by simp)
  ·have hii:¬(i:Int)<n:=by omega
   simp -implicitDefEqProofs -dsimp only[ai h2,hii,an,vcS,↓vcQ,simprocAttr]
   obtain rfl:i=n:=by omega
   exact ⟨h3.1,h _ h2 h3⟩
theorem xp {L:List Ce}(hq:T[q]?=some (some (.arr 3 (aq L))))(g:bU L rows aa)(hy:y<rows)(h:K (.own q (y*aa) aa) T):aj PG 44 [.own q 0 L.length,.int .i64 aa,.int .i64 y] T K:=by
 have h1:=g.r
 have h2:=g.c
 have hm:rows*aa<=1000*1000:=Nat.mul_le_mul h1.2 h2.2
 have hl:L.length<=1000000:=by rw[g.len];omega
 have hrow:=cY (aa:=aa) hy
 have qI:=bx y aa
 have hp:(y:Int)*aa=((y*aa:Nat):Int):=by simp
 have hp1:((y:Int)+1)*aa=(((y+1)*aa:Nat):Int):=by simp
 have hw1:IntKind.i64.wrap ((y:Int)+1)=(y:Int)+1:=aO (by omega) (by omega)
 have hw2:IntKind.i64.wrap ((y:Int)*aa)=((y*aa:Nat):Int):=by rw[hp];exact aO (by omega) (by omega)
 have hw3:IntKind.i64.wrap (((y:Int)+1)*aa)=(((y+1)*aa:Nat):Int):=by rw[hp1];exact aO (by omega) (by omega)
 have hy0:¬(y:Int)<0:=by omega
 have hy1:¬(rows:Int)<=y:=by omega
 refine aj.aE uj z9 (by simp[su]) ?_
 unfold su
 dsimp only
 simp -implicitDefEqProofs -dsimp only[hD,ai hq,nP g,hl,hy0,hy1,hw1,hw2,hw3,vcS,↓vcQ,simprocAttr]
 have hsub:(y+1)*aa-y*aa=aa:=by omega
 rw[hsub]
 refine ⟨by omega,by omega,⟨by omega,by rw[g.len];omega⟩,h⟩
def EF:RFn:=⟨5,50,(SR [OP 10 (.mov (.c (.sl 0 [] .nil)))] [0,1,2,3,4] (SR [MV 14 0,OP 15 (.call 43 [.t 14]),MV 11 15] [0,1,2,3,4,11] (.seq (SR [MV 16 0,MV 17 1,MV 18 2,MV 19 3,OP 20 (.call 131 [.t 16,.t 17,.t 18,.t 19])] [1,2,3,4,11,20] (.cond (.t 20) (SR [MV 21 11,MV 22 2,MV 23 1,BT 24 .mul 22 23,MV 25 3,BI 26 .add 25 1,MV 27 1,BT 28 .mul 26 27,OP 29 (.slice 3 (.t 21) (some (.t 24)) (some (.t 28)) none),MV 12 29] [1,4,11,12] (SR [MV 30 4,OP 31 (.call 132 [.t 30]),MV 32 1,BT 33 .mul 31 32,MV 34 12,OP 35 (.len (.t 34)),OP 36 (.mm false (.t 33) (.t 35)),MV 13 36] [11,12,13] (SR [MV 37 12,MV 38 12,MV 39 13,OP 40 (.slice 3 (.t 38) (some (.t 39)) none none),OP 41 (.copy 3 (.t 37) (.t 40))] [11,12,13] (.reg [MV 42 12,MV 43 12,OP 44 (.len (.t 43)),MV 45 13,BT 46 .sub 44 45,OP 47 (.slice 3 (.t 42) (some (.t 46)) none none),OP 48 (.call 77 [.t 47])] 0 [11])))) .skip)) (SR [MV 49 11,MV 10 49] [10] .ret)))),[.t 10]⟩
theorem NV:aK PG.P (aA PG.P 130 EF) 130=some EF:=by kernel_rfl
def vr:RFn:=⟨5,47,(SR [OP 10 (.mov (.c (.sl 0 [] .nil)))] [0,1,2,3,4] (SR [MV 14 0,OP 15 (.call 43 [.t 14]),MV 11 15] [0,1,2,3,4,11] (.seq (SR [MV 16 0,MV 17 1,MV 18 2,MV 19 3,OP 20 (.call 131 [.t 16,.t 17,.t 18,.t 19])] [1,2,3,4,11,20] (.cond (.t 20) (SR [MV 21 11,MV 22 2,MV 23 1,BT 24 .mul 22 23,MV 25 3,BI 26 .add 25 1,MV 27 1,BT 28 .mul 26 27,OP 29 (.slice 3 (.t 21) (some (.t 24)) (some (.t 28)) none),MV 12 29] [1,4,11,12] (SR [MV 30 4,OP 31 (.call 132 [.t 30]),MV 32 1,BT 33 .mul 31 32,MV 34 12,OP 35 (.len (.t 34)),OP 36 (.mm false (.t 33) (.t 35)),MV 13 36] [11,12,13] (SR [MV 37 12,MV 38 13,OP 39 (.slice 3 (.t 37) (some (.t 38)) none none),MV 40 12,OP 41 (.copy 3 (.t 39) (.t 40))] [11,12,13] (.reg [MV 42 12,MV 43 13,OP 44 (.slice 3 (.t 42) none (some (.t 43)) none),OP 45 (.call 77 [.t 44])] 0 [11])))) .skip)) (SR [MV 46 11,MV 10 46] [10] .ret)))),[.t 10]⟩
theorem GR:aK PG.P (aA PG.P 98 vr) 98=some vr:=by kernel_rfl
def sB:RFn:=⟨2,21,(SR [OP 4 (.mov (.c (.sl 0 [] .nil)))] [0,1] (.seq (SR [MV 6 0,OP 7 (.call 76 [.t 6]),OP 8 (.un .not (.t 7)),MV 9 8,MG 10 1 9 false,OG 11 (.call 76 [.t 10]) 9 false,OG 12 (.un .not (.t 11)) 9 false,OP 13 (.pick (.t 9) (.c (.bool true)) (.t 12))] [0,1,13] (.cond (.t 13) (SR [OP 4 (.mov (.c (.sl 0 [] .nil)))] [4] .ret) .skip)) (SR [MV 14 0,MV 15 1,BT 16 .mul 14 15,OP 17 (.fY 3 8 [.int .i32 0,.int .u16 0,.int .u8 0] (.t 16) (.t 16)),MV 5 17] [5] (SR [MV 18 5,OP 19 (.call 77 [.t 18])] [5] (SR [MV 20 5,MV 4 20] [4] .ret))))),[.t 4]⟩
theorem EI:aK PG.P (aA PG.P 38 sB) 38=some sB:=by kernel_rfl
theorem eH (args:List DV):tab TG3 43 args=none:=ak _
theorem dN (args:List DV):tab TG3 77 args=none:=ak _
theorem bU.lim {L:List Ce}(g:bU L rows aa):L.length<=1000000/\0<L.length:=by
 have h1:=g.r
 have h2:=g.c
 have hm:rows*aa<=1000*1000:=Nat.mul_le_mul h1.2 h2.2
 have hm2:1*1<=rows*aa:=Nat.mul_le_mul h1.1 h2.1
 rw[g.len];omega
theorem Z5 {L:List Ce}{a k0:Nat}(hab:a<=b)(hb:b<=L.length)(hk:k=min k0 (b-a)) :
  cy (cy L a (a+(b-a-k)) ((L.drop (a+k)).take (b-a-k))) (a+(b-a-k)) (a+(b-a-k)+k) (List.replicate k aM)=cy L a b (oN k0 ((L.drop a).take (b-a))):=by
 have m1:((L.drop (a+k)).take (b-a-k)).length=a+(b-a-k)-a:=by simp;omega
 have m2:((L.drop a).take (b-a)).length=b-a:=by simp;omega
 have l1:(cy L a (a+(b-a-k)) ((L.drop (a+k)).take (b-a-k))).length=L.length:=bN (by omega) (by omega) m1
 have l2:(cy L a b (oN k0 ((L.drop a).take (b-a)))).length=L.length:=bN hab hb (by rw[kE,m2])
 have l3:(cy (cy L a (a+(b-a-k)) ((L.drop (a+k)).take (b-a-k))) (a+(b-a-k)) (a+(b-a-k)+k) (List.replicate k aM)).length=L.length:=by rw[bN (by omega) (by omega) (by simp),l1]
 refine dM (by rw[l3,l2]) fun i hi=>?_
 rw[l3] at hi
 rw[cx (by omega) (by omega) (by simp),cx (by omega) (by omega) m1,cx hab hb (by rw[kE,m2]),gH,eB,dQ]
 by_cases h1:i<a
 ·rw[if_pos (by omega),if_pos h1,if_pos h1]
 ·rw[if_neg h1,if_neg h1]
  by_cases h2:i<a+(b-a-k)
  ·rw[if_pos h2,if_pos h2,if_pos (by omega),if_pos (by omega),rH (by omega),m2,if_pos (by omega),eB,if_pos (by omega),dQ]
   congr 1;omega
  ·rw[if_neg h2,if_neg h2]
   by_cases h3:i<b
   ·rw[if_pos (by omega),if_pos h3,rH (by omega),m2,if_neg (by omega)]
   ·rw[if_neg (by omega),if_neg h3]
theorem aak {L:List Ce}{a k0:Nat}(hab:a<=b)(hb:b<=L.length)(hk:k=min k0 (b-a)) :
  cy (cy L (a+k) (a+k+(b-a-k)) ((L.drop a).take (b-a-k))) a (a+k) (List.replicate k aM)=cy L a b (oO k0 ((L.drop a).take (b-a))):=by
 have m1:((L.drop a).take (b-a-k)).length=a+k+(b-a-k)-(a+k):=by simp;omega
 have m2:((L.drop a).take (b-a)).length=b-a:=by simp;omega
 have l1:(cy L (a+k) (a+k+(b-a-k)) ((L.drop a).take (b-a-k))).length=L.length:=bN (by omega) (by omega) m1
 have l2:(cy L a b (oO k0 ((L.drop a).take (b-a)))).length=L.length:=bN hab hb (by rw[kG,m2])
 have l3:(cy (cy L (a+k) (a+k+(b-a-k)) ((L.drop a).take (b-a-k))) a (a+k) (List.replicate k aM)).length=L.length:=by rw[bN (by omega) (by omega) (by simp),l1]
 refine dM (by rw[l3,l2]) fun i hi=>?_
 rw[l3] at hi
 rw[cx (by omega) (by omega) (by simp),cx (by omega) (by omega) m1,cx hab hb (by rw[kG,m2]),gH,eB,dQ]
 by_cases h1:i<a
 ·rw[if_pos h1,if_pos (by omega),if_pos h1]
 ·rw[if_neg h1,if_neg h1]
  by_cases h2:i<a+k
  ·rw[if_pos h2,if_pos (by omega),rI (by omega),if_neg (by omega)]
  ·rw[if_neg h2,if_neg h2]
   by_cases h3:i<b
   ·rw[if_pos (by omega),if_pos h3,if_pos (by omega),rI (by omega),if_pos (by omega),eB,if_pos (by omega),dQ]
    congr 1;omega
   ·rw[if_neg (by omega),if_neg h3]
theorem TD {L:List Ce}(hq:T[q]?=some (some (.arr 3 (aq L))))(g:bU L rows aa)(ht:top<=bot)(hb:bot<rows)
  (h:∀T' p,T.length<=p->T'[p]?=some (some (.arr 3 (aq (upF L aa top bot n))))->ax T T' []->K (.own p 0 L.length) T'):aj PG 130 [.own q 0 L.length,.int .i64 aa,.int .i64 top,.int .i64 bot,.int .i64 n] T K:=by
 have h1:=g.r
 have h2:=g.c
 have hl:=g.lim
 have hrow:=cY (aa:=aa) hb
 have qI:=bx bot aa
 have htb:top*aa<=(bot+1)*aa:=Nat.mul_le_mul_right _ (by omega)
 have hgl:=g.len
 have hp:(top:Int)*aa=((top*aa:Nat):Int):=by simp
 have hp1:((bot:Int)+1)*aa=(((bot+1)*aa:Nat):Int):=by simp
 have hw1:IntKind.i64.wrap ((bot:Int)+1)=(bot:Int)+1:=aO (by omega) (by omega)
 have hw2:IntKind.i64.wrap ((top:Int)*aa)=((top*aa:Nat):Int):=by rw[hp];exact aO (by omega) (by omega)
 have hw3:IntKind.i64.wrap (((bot:Int)+1)*aa)=(((bot+1)*aa:Nat):Int):=by rw[hp1];exact aO (by omega) (by omega)
 have hn:bz n<=1000:=by unfold bz;omega
 have hnm:bz n*aa<=1000*1000:=Nat.mul_le_mul hn h2.2
 have hp4:((bz n:Nat):Int)*aa=((bz n*aa:Nat):Int):=by simp
 have hw4:IntKind.i64.wrap ((bz n:Int)*aa)=((bz n*aa:Nat):Int):=by rw[hp4];exact aO (by omega) (by omega)
 have ha:decide ((0:Int)<=top/\(top:Int)<=bot/\(bot:Int)<rows)=true:=decide_eq_true (by omega)
 refine aj.aE uj NV (by simp[EF]) ?_
 unfold EF
 dsimp only
 simp -implicitDefEqProofs -dsimp only[hD,eH,dN,ai hq,nP g,hl.1,ha,vcS,↓vcQ,simprocAttr]
 refine qM hq (by omega) hl.2 hl.1 fun T' p hp hA kp=>?_
 simp only[List.drop_zero,List.take_length] at hA
 obtain ⟨a,ea⟩:∃a,a=top*aa:=⟨_,rfl⟩
 obtain ⟨b,eb⟩:∃b,b=(bot+1)*aa:=⟨_,rfl⟩
 obtain ⟨e,ee⟩:∃e,e=bz n*aa:=⟨_,rfl⟩
 unfold upF at h
 rw[<-ea,<-eb,<-ee] at h
 rw[<-ea] at hw2
 rw[<-eb] at hw3
 rw[<-ee] at hw4
 rw[<-ea,<-eb] at htb
 rw[<-eb] at hrow
 obtain ⟨k,ek⟩:∃k,k=min e (b-a):=⟨_,rfl⟩
 have hmin:min (e:Int) ((b-a:Nat):Int)=(k:Int):=by omega
 have hab:a<=b/\b<=L.length:=by omega
 have hkk:k<=b-a:=by omega
 have z0:(0:Int)<=(a:Int):=by omega
 have z1:(0:Int)<=(b:Int):=by omega
 have z2:(0:Int)<=(k:Int):=by omega
 have z3:a+(k+(b-a-k))<=L.length:=by omega
 have hM:((L.drop (a+k)).take (b-a-k)).length=b-a-k:=by simp;omega
 have hmm:min (b-a-k) (b-a)=b-a-k:=by omega
 have htk:(List.take (b-a-k) (List.take (b-a-k) (L.drop (a+k))))=List.take (b-a-k) (L.drop (a+k)):=by rw[List.take_take,Nat.min_self]
 have hcp:aq (List.take a L)++(aq (List.take (b-a-k) (List.drop (a+k) L))++aq (List.drop (a+(b-a-k)) L))=aq (cy L a (a+(b-a-k)) ((L.drop (a+k)).take (b-a-k))):=by rw[iC,iC];simp[cy]
 have z4:a+(b-a)<=L.length:=by omega
 have z5:(0:Int)<=((b-a-k:Nat):Int):=by omega
 have z6:b-a-k<=b-a:=by omega
 have z7:b-a-(b-a-k)=k:=by omega
 have hw5:IntKind.i64.wrap (((b-a:Nat):Int)-(k:Int))=((b-a-k:Nat):Int):=by rw[aO (by omega) (by omega)];omega
 simp -implicitDefEqProofs -dsimp only[hD,eH,dN,ai hA,nP g,hl.1,ha,hw1,hw2,hw3,hw4,hmin,hab,hkk,z0,z1,z2,z3,az,jx,jw,hM,hmm,htk,hcp,hw5,z4,z5,z6,z7,vcS,↓vcQ,simprocAttr]
 have m1:((L.drop (a+k)).take (b-a-k)).length=a+(b-a-k)-a:=by simp;omega
 have l1:(cy L a (a+(b-a-k)) ((L.drop (a+k)).take (b-a-k))).length=L.length:=bN (by omega) (by omega) m1
 refine xz (bZ hA _) (by omega) (by omega) fun T2 h2 k2=>?_
 simp -implicitDefEqProofs -dsimp only[hD,eH,dN,vcS,↓vcQ,simprocAttr]
 rw[Z5 hab.1 hab.2 ek] at h2
 exact ⟨by have:=kp.1;have:=k2.1;simp at this;omega,h T2 p hp h2 (kp.new ((ax.set T' p _).trans k2 (k:=[p]) (by simp) (by simp)) (by simpa using hp))⟩
theorem E3 {L:List Ce}(hq:T[q]?=some (some (.arr 3 (aq L))))(g:bU L rows aa)(ht:top<=bot)(hb:bot<rows)
  (h:∀T' p,T.length<=p->T'[p]?=some (some (.arr 3 (aq (dnF L aa top bot n))))->ax T T' []->K (.own p 0 L.length) T'):aj PG 98 [.own q 0 L.length,.int .i64 aa,.int .i64 top,.int .i64 bot,.int .i64 n] T K:=by
 have h1:=g.r
 have h2:=g.c
 have hl:=g.lim
 have hrow:=cY (aa:=aa) hb
 have qI:=bx bot aa
 have htb:top*aa<=(bot+1)*aa:=Nat.mul_le_mul_right _ (by omega)
 have hgl:=g.len
 have hp:(top:Int)*aa=((top*aa:Nat):Int):=by simp
 have hp1:((bot:Int)+1)*aa=(((bot+1)*aa:Nat):Int):=by simp
 have hw1:IntKind.i64.wrap ((bot:Int)+1)=(bot:Int)+1:=aO (by omega) (by omega)
 have hw2:IntKind.i64.wrap ((top:Int)*aa)=((top*aa:Nat):Int):=by rw[hp];exact aO (by omega) (by omega)
 have hw3:IntKind.i64.wrap (((bot:Int)+1)*aa)=(((bot+1)*aa:Nat):Int):=by rw[hp1];exact aO (by omega) (by omega)
 have hn:bz n<=1000:=by unfold bz;omega
 have hnm:bz n*aa<=1000*1000:=Nat.mul_le_mul hn h2.2
 have hp4:((bz n:Nat):Int)*aa=((bz n*aa:Nat):Int):=by simp
 have hw4:IntKind.i64.wrap ((bz n:Int)*aa)=((bz n*aa:Nat):Int):=by rw[hp4];exact aO (by omega) (by omega)
 have ha:decide ((0:Int)<=top/\(top:Int)<=bot/\(bot:Int)<rows)=true:=decide_eq_true (by omega)
 refine aj.aE uj GR (by simp[vr]) ?_
 unfold vr
 dsimp only
 simp -implicitDefEqProofs -dsimp only[hD,eH,dN,ai hq,nP g,hl.1,ha,vcS,↓vcQ,simprocAttr]
 refine qM hq (by omega) hl.2 hl.1 fun T' p hp hA kp=>?_
 simp only[List.drop_zero,List.take_length] at hA
 obtain ⟨a,ea⟩:∃a,a=top*aa:=⟨_,rfl⟩
 obtain ⟨b,eb⟩:∃b,b=(bot+1)*aa:=⟨_,rfl⟩
 obtain ⟨e,ee⟩:∃e,e=bz n*aa:=⟨_,rfl⟩
 unfold dnF at h
 rw[<-ea,<-eb,<-ee] at h
 rw[<-ea] at hw2
 rw[<-eb] at hw3
 rw[<-ee] at hw4
 rw[<-ea,<-eb] at htb
 rw[<-eb] at hrow
 obtain ⟨k,ek⟩:∃k,k=min e (b-a):=⟨_,rfl⟩
 have hmin:min (e:Int) ((b-a:Nat):Int)=(k:Int):=by omega
 have hab:a<=b/\b<=L.length:=by omega
 have hkk:k<=b-a:=by omega
 have z0:(0:Int)<=(a:Int):=by omega
 have z1:(0:Int)<=(b:Int):=by omega
 have z2:(0:Int)<=(k:Int):=by omega
 have z3:a+(k+(b-a-k))<=L.length:=by omega
 have hM:((L.drop a).take (b-a)).length=b-a:=by simp;omega
 have hmm:min (b-a) (b-a-k)=b-a-k:=by omega
 have htk:(List.take (b-a-k) (List.take (b-a) (L.drop a)))=List.take (b-a-k) (L.drop a):=by rw[List.take_take,Nat.min_eq_left (by omega)]
 have hcp:aq (List.take (a+k) L)++(aq (List.take (b-a-k) (List.drop a L))++aq (List.drop (a+(k+(b-a-k))) L))=aq (cy L (a+k) (a+k+(b-a-k)) ((L.drop a).take (b-a-k))):=by rw[iC,iC];simp[cy,Nat.add_assoc]
 have hw5:k-0=k:=rfl
 have z4:a+(b-a)<=L.length:=by omega
 have z5:(0:Int)<=((b-a-k:Nat):Int):=by omega
 have z6:b-a-k<=b-a:=by omega
 have z7:b-a-(b-a-k)=k:=by omega
 have hw5:IntKind.i64.wrap (((b-a:Nat):Int)-(k:Int))=((b-a-k:Nat):Int):=by rw[aO (by omega) (by omega)];omega
 simp -implicitDefEqProofs -dsimp only[hD,eH,dN,ai hA,nP g,hl.1,ha,hw1,hw2,hw3,hw4,hmin,hab,hkk,z0,z1,z2,z3,az,jx,jw,hM,hmm,htk,hcp,hw5,z4,z5,z6,z7,vcS,↓vcQ,simprocAttr]
 have m1:((L.drop a).take (b-a-k)).length=a+k+(b-a-k)-(a+k):=by simp;omega
 have l1:(cy L (a+k) (a+k+(b-a-k)) ((L.drop a).take (b-a-k))).length=L.length:=bN (by omega) (by omega) m1
 have hz:a+(k+(b-a-k))=a+k+(b-a-k):=(Nat.add_assoc _ _ _).symm
 refine ⟨Nat.zero_le _, ?_⟩
 refine xz (L:=cy L (a+k) (a+(k+(b-a-k))) ((L.drop a).take (b-a-k))) (n:=k) (bZ hA _) (by rw[hz,l1];omega) (by rw[hz,l1];omega) fun T2 h2 k2=>?_
 simp -implicitDefEqProofs -dsimp only[hD,eH,dN,vcS,↓vcQ,simprocAttr]
 rw[hz,aak hab.1 hab.2 ek] at h2
 exact ⟨by have:=kp.1;have:=k2.1;simp at this;omega,h T2 p hp h2 (kp.new ((ax.set T' p _).trans k2 (k:=[p]) (by simp) (by simp)) (by simpa using hp))⟩
end
end Go.Proofs.YtjmnbpilnneonaaGreatDoor
