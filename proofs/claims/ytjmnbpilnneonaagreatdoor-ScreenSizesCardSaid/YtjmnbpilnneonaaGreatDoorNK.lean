/- Texts R22, R27, R24 in one. -/
import Derived.Test.YtjmnbpilnneonaaGreatDoorNJ
set_option linter.unusedVariables false
set_option linter.unusedSimpArgs false
set_option maxRecDepth 10000
namespace Go.Proofs.YtjmnbpilnneonaaGreatDoor
open Go.RowKit
theorem afe {L:List Ce}{rows aa:Nat}(g:bU L rows aa):∀n,n<=rows->∀y<rows,cM (tP L aa n) aa y=if y<n then fh (cM L aa y) else cM L aa y
 | 0,_,y,_=>by rw[if_neg (by omega)];rfl
 | n+1,hn,y,hy=>by
  have ih:=afe g n (by omega)
  have gn:=Hr g n (by omega)
  unfold tP
  rw[tF gn (by omega) hy,ih n (by omega),if_neg (Nat.lt_irrefl n)]
  rcases Decidable.em (y=n) with e | e
  ·rw[if_pos e,if_pos (by omega),e]
  ·rw[if_neg e,ih y hy]
   rcases Nat.lt_or_ge y n with h | h
   ·rw[if_pos h,if_pos (by omega)]
   ·rw[if_neg (by omega),if_neg (by omega)]

theorem wL {T:ay}{x:Sc × Pa}{v:DV}{K:DV->ay->Prop}(hF:ScF x)(hv:aJ x.1 x.2 v)(h:∀T',ax T T' []->K (.bool true) T'):aj PG 10 [v] T K:=
 Rg hF.ok hF.pk hv { ci:=fun c hc=>(hF.c.c c hc).1,oi:=fun c hc=>(hF.c.o c hc).1,cb:=Ms hF.ok.g hF.w.c hF.c.c,ob:=fun ha=>Ms (hF.ok.alt ha) (hF.w.o ha) hF.c.o,ab:=hF.c.ab,sb:=hF.c.sb,pb:=(RB _).2 hF.rt} h
end Go.Proofs.YtjmnbpilnneonaaGreatDoor
