/- Texts R22, R27, R24 in one. -/
import Derived.Test.YtjmnbpilnneonaaGreatDoorNJ
set_option linter.unusedVariables false
set_option linter.unusedSimpArgs false
set_option maxRecDepth 10000
namespace Go.Proofs.YtjmnbpilnneonaaGreatDoor
open Go.RowKit


theorem wL {T:ay}{x:Sc × Pa}{v:DV}{K:DV->ay->Prop}(hF:ScF x)(hv:aJ x.1 x.2 v)(h:∀T',ax T T' []->K (.bool true) T'):aj PG 10 [v] T K:=
 Rg hF.ok hF.pk hv { ci:=fun c hc=>(hF.c.c c hc).1,oi:=fun c hc=>(hF.c.o c hc).1,cb:=Ms hF.ok.g hF.w.c hF.c.c,ob:=fun ha=>Ms (hF.ok.alt ha) (hF.w.o ha) hF.c.o,ab:=hF.c.ab,sb:=hF.c.sb,pb:=(RB _).2 hF.rt} h
theorem Qg (args:List DV)(s:aS)(hs:l5 args=some s)(hp:s.pre):av PG 14 args fun n r os=>r=(s.res n).1/\os=(s.res n).2:=by
 unfold l5 at hs
 split at hs
 ·rename_i v a
  obtain rfl:=sj hs
  obtain ⟨⟨x,hF,h1⟩,h2,h3⟩:=hp
  obtain ⟨sz,k,e,h4,h5⟩:=aC h2
  dsimp only
  rw[yX hF h1]
  refine av.aae (Gj _) fun T=>?_
  have:=LN (T:=T) (sk:=k) (K:=fun r T'=>wkT r (zL ((aG a).foldl eJ x))) hF h1 h4 h5 h3 fun T' v' _ hv=>L4 hv
  rw[<-e] at this
  exact this
 ·cases hs
theorem yW (x : Sc × Pa) : zL x = .agg [.int .i64 x.1.rows, .int .i64 x.1.aa, .sl 3 (aq x.1.cells) .any, .int .i64 x.1.y, .int .i64 x.1.x, .bool x.1.wrap, .int .u16 x.1.attr, .int .i64 x.1.top, .int .i64 x.1.bot, .sl 1 (bg x.1.aP) .any,
   .int .i64 x.1.sy, .int .i64 x.1.sx, .int .u16 x.1.eg, .bool x.1.auto, .bool x.1.shown, .bool x.1.alt, .sl 3 (aq x.1.other) .any, .int .i64 x.1.oy, .int .i64 x.1.ox, .int .i64 x.2.m, .int .u8 x.2.pr, .sl 1 (af .i64 x.2.P) .any, .sl 1 (af .u8 x.2.I) .any, .sl 1 (af .u8 x.2.U) .any] := ak _
noncomputable def TFd:FL:=(13,.o l5)::(14,.o l5)::TSb
theorem Be:FOk PG (tab TFd):=FOk.cons (FOk.cons Vv Qg) Ri
end Go.Proofs.YtjmnbpilnneonaaGreatDoor
