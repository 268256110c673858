/- Texts C16, R30, R31, R32, R33 in one. -/
import Derived.Test.YtjmnbpilnneonaaGreatDoorNK
import Derived.Test.YtjmnbpilnneonaaGreatDoorND
import Derived.Test.YtjmnbpilnneonaaGreatDoorNB
import Derived.Test.YtjmnbpilnneonaaGreatDoorNE
set_option linter.unusedVariables false
set_option linter.unusedSimpArgs false
set_option maxRecDepth 10000
namespace Go.Proofs.YtjmnbpilnneonaaGreatDoor
open Go.RowKit
noncomputable section
variable {L:List Ce}{T:ay}{K:DV->ay->Prop}{aa r2 c2 rows y r q c n i:Nat}{s:Sc}{p:Pa}{v od d1 d2 d3:DV}{m pr:Int}
def afk (R:List Ce)(n:Nat):List Ce:=R.take n++List.replicate (n-R.length) aM
theorem afa (R:List Ce)(n:Nat):(afk R n).length=n:=by simp[afk];omega
theorem afp {R:List Ce}(hi:i<n):(afk R n).getD i aM=R.getD i aM:=by
 unfold afk
 rw[oh]
 split
 ·rw[eB,if_pos hi]
 ·rename_i h
  rw[gH,OL (by simp at h;omega)]
def ae8 (L:List Ce)(aa r2 c2:Nat):Nat->List Ce
 | 0=>dV r2 c2
 | y+1=>kP (ae8 L aa r2 c2 y) c2 y (fh (afk (cM L aa y) c2))
def szG (L:List Ce)(rows aa r2 c2:Nat):List Ce:=ae8 L aa r2 c2 (min rows r2)
theorem afG (L:List Ce)(aa c2 y:Nat):(fh (afk (cM L aa y) c2)).length=c2:=by rw[bQ,afa]
theorem afi {L:List Ce}{aa r2 c2:Nat}(hr:1<=r2/\r2<=1000)(hc:1<=c2/\c2<=1000):∀n,n<=r2->bU (ae8 L aa r2 c2 n) r2 c2
 | 0,_=>xF hr hc
 | n+1,h=>by
  have g:=afi (L:=L) (aa:=aa) hr hc n (by omega)
  exact g.ej (fO g (by omega) (afG L aa c2 n))
theorem afD (hr:1<=r2/\r2<=1000)(hc:1<=c2/\c2<=1000)(hy:y<r2):cM (dV r2 c2) c2 y=List.replicate c2 aM:=
 ij (xF hr hc) hy (by simp) fun x hx=>by unfold dV;rw[gH,gH]
theorem ae9 {L:List Ce}{aa r2 c2:Nat}(hr:1<=r2/\r2<=1000)(hc:1<=c2/\c2<=1000):∀n,n<=r2->∀y<r2,cM (ae8 L aa r2 c2 n) c2 y=if y<n then fh (afk (cM L aa y) c2) else List.replicate c2 aM
 | 0,_,y,hy=>by rw[if_neg (by omega)];exact afD hr hc hy
 | n+1,h,y,hy=>by
  have ih:=ae9 (L:=L) (aa:=aa) hr hc n (by omega) y hy
  have g:=afi (L:=L) (aa:=aa) hr hc n (by omega)
  unfold ae8
  rw[mb g (by omega) hy (afG L aa c2 n)]
  split
  ·rename_i e;rw[if_pos (by omega),e]
  ·rw[ih]
   rcases Nat.lt_or_ge y n with h1 | h1
   ·rw[if_pos h1,if_pos (by omega)]
   ·rw[if_neg (by omega),if_neg (by omega)]
theorem afn (hr:1<=r2/\r2<=1000)(hc:1<=c2/\c2<=1000):bU (szG L rows aa r2 c2) r2 c2:=afi hr hc _ (Nat.min_le_right _ _)
theorem af8 (hr:1<=r2/\r2<=1000)(hc:1<=c2/\c2<=1000):WhG (szG L rows aa r2 c2) r2 c2:=fun y hy=>by
 unfold szG
 rw[ae9 hr hc _ (Nat.min_le_right _ _) y hy]
 split
 ·exact oL _
 ·exact rB c2
theorem AlC.rsz {R:List Ce}(a:AlC R)(n:Nat):AlC (afk R n):=(a.take n).app (.rep _)
theorem AlC.ae8 {L:List Ce}(a:AlC L)(aa r2 c2:Nat):∀n,AlC (ae8 L aa r2 c2 n)
 | 0=> .rep _
 | n+1=>(AlC.ae8 a aa r2 c2 n).put ((a.row aa n).rsz c2).Wp c2 n
def cpG (L:List Ce)(rows aa r2 c2:Nat):List Ce:=(List.range (r2*c2)).map fun i=>if i / c2<min rows r2 then (cM L aa (i / c2)).getD (i % c2) aM else aM
theorem af6 (L:List Ce)(rows aa r2 c2:Nat):(cpG L rows aa r2 c2).length=r2*c2:=by simp[cpG]
theorem afE {x:Nat}(hy:y<r2)(hx:x<c2):(cpG L rows aa r2 c2).getD (y*c2+x) aM=if y<min rows r2 then (cM L aa y).getD x aM else aM:=by
 have h1:=cY (aa:=c2) hy
 have h2:=bx y c2
 have e1:(y*c2+x) / c2=y:=by
  rw[Nat.mul_comm,Nat.mul_add_div (by omega),Nat.div_eq_of_lt hx,Nat.add_zero]
 have e2:(y*c2+x) % c2=x:=by
  rw[Nat.mul_comm,Nat.mul_add_mod,Nat.mod_eq_of_lt hx]
 unfold cpG
 rw[List.getD_eq_getElem?_getD,List.getElem?_map,List.getElem?_range (by omega),Option.map_some,Option.getD_some,e1,e2]
theorem afY (hr:1<=r2/\r2<=1000)(hc:1<=c2/\c2<=1000):bU (cpG L rows aa r2 c2) r2 c2:=⟨hr,hc,af6 L rows aa r2 c2⟩
theorem af5 (hr:1<=r2/\r2<=1000)(hc:1<=c2/\c2<=1000)(hy:y<r2):cM (cpG L rows aa r2 c2) c2 y=if y<min rows r2 then afk (cM L aa y) c2 else List.replicate c2 aM:=by
 refine ij (afY hr hc) hy (by split;exact afa _ _;simp) fun x hx=>?_
 rw[afE hy hx]
 split
 ·rw[afp hx]
 ·rw[gH]
theorem afX (hr:1<=r2/\r2<=1000)(hc:1<=c2/\c2<=1000):tP (cpG L rows aa r2 c2) c2 r2=szG L rows aa r2 c2:=by
 have g:=afY (L:=L) (rows:=rows) (aa:=aa) hr hc
 refine Ay (Hr g r2 (Nat.le_refl _)) (afn hr hc) fun y hy=>?_
 unfold szG
 rw[afe g r2 (Nat.le_refl _) y hy,if_pos hy,af5 hr hc hy,ae9 hr hc _ (Nat.min_le_right _ _) y hy]
 split
 ·rfl
 ·exact rB c2
def ae3 (s:Sc)(r c:Nat):Sc:={ s with rows:=r,aa:=c,cells:=szG s.cells s.rows s.aa r c,other:=if s.alt=true then szG s.other s.rows s.aa r c else s.other,wrap:=false,top:=0,bot:=r-1,aP:=fj s.aP c c,y:=min s.y (r-1),x:=min s.x (c-1),sy:=min s.sy (r-1),sx:=min s.sx (c-1),oy:=min s.oy (r-1),ox:=min s.ox (c-1)}
theorem afj (h:aR s){r c:Nat}(hr:1<=r/\r<=1000)(hc:1<=c/\c<=1000):aR (ae3 s r c) where
 g:=afn hr hc
 y:=by show min s.y (r-1)<r;omega
 x:=by show min s.x (c-1)<c;omega
 wr:=fun e=>by cases e
 tb:=Nat.zero_le _
 b:=by show r-1<r;omega
 rg:=by show 0<r-1\/r=1;omega
 aP:=Ju _ _ _
 sy:=by show min s.sy (r-1)<r;omega
 sx:=by show min s.sx (c-1)<c;omega
 oy:=by show min s.oy (r-1)<r;omega
 ox:=by show min s.ox (c-1)<c;omega
 at':=h.at'
 sat:=h.sat
 alt:=fun e=>by
  have e':s.alt=true:=e
  show bU (if s.alt=true then szG s.other s.rows s.aa r c else s.other) r c
  rw[if_pos e'];exact afn hr hc
 non:=fun e=>by
  have e':s.alt=false:=e
  obtain ⟨h1,h2,h3⟩:=h.non e'
  refine ⟨?_, ?_, ?_⟩
  ·show (if s.alt=true then szG s.other s.rows s.aa r c else s.other)=[]
   rw[if_neg (by simp[e']),h1]
  ·show min s.oy (r-1)=0;rw[h2];exact Nat.zero_min _
  ·show min s.ox (c-1)=0;rw[h3];exact Nat.zero_min _
theorem af3 (h:ScF (s,p)){r c:Nat}(hr:1<=r/\r<=1000)(hc:1<=c/\c<=1000):ScF (ae3 s r c,p) where
 ok:=afj h.ok hr hc
 pk:=h.pk
 w:=⟨af8 hr hc,fun e=>by
  have e':s.alt=true:=e
  show WhG (if s.alt=true then szG s.other s.rows s.aa r c else s.other) r c
  rw[if_pos e'];exact af8 hr hc⟩
 c:=⟨h.c.c.ae8 _ _ _ _,by
  show AlC (if s.alt=true then szG s.other s.rows s.aa r c else s.other)
  split
  ·exact h.c.o.ae8 _ _ _ _
  ·exact h.c.o,h.c.ab,h.c.sb⟩
 rt:=h.rt
theorem afK (g:bU L rows aa)(hr:1<=r2/\r2<=1000)(hc:1<=c2/\c2<=1000)(h1:y<rows)(h2:y<r2){S:List Ce}(hS:S=ae8 L aa r2 c2 y) :
  cy (cy S (y*c2) (y*c2+min aa c2) ((cM L aa y).take (min aa c2))) (y*c2) (y*c2+c2) (fh (((cy S (y*c2) (y*c2+min aa c2) ((cM L aa y).take (min aa c2))).drop (y*c2)).take c2))=ae8 L aa r2 c2 (y+1):=by
 have gS:bU S r2 c2:=by rw[hS];exact afi hr hc y (by omega)
 have aeQ:=bG g h1
 have hin:=cY (aa:=c2) h2
 have hs:=bx y c2
 have hl:=gS.len
 have hm:((cM L aa y).take (min aa c2)).length=y*c2+min aa c2-y*c2:=by simp[aeQ]
 have e0:((cy S (y*c2) (y*c2+min aa c2) ((cM L aa y).take (min aa c2))).drop (y*c2)).take c2=afk (cM L aa y) c2:=by
  have gM:bU (cy S (y*c2) (y*c2+min aa c2) ((cM L aa y).take (min aa c2))) r2 c2:=gS.ej (bN (by omega) (by omega) hm)
  refine ij gM h2 (afa _ _) fun x hx=>?_
  have hrow:=cU gS h2 hx
  rw[hS,ae9 hr hc y (by omega) y h2,if_neg (by omega),gH,<-hS] at hrow
  rw[cx (by omega) (by omega) hm,afp hx,if_neg (by omega)]
  split
  ·rw[show y*c2+x-y*c2=x by omega,eB,if_pos (by omega)]
  ·rw[<-hrow,OL (by omega)]
 rw[e0,Al (by omega) (by omega) (by omega) (by omega) hm (by rw[bQ,afa];omega)]
 show _=kP (ae8 L aa r2 c2 y) c2 y (fh (afk (cM L aa y) c2))
 unfold kP
 rw[<-hS,hs]
def afx:RC:=(SR [BT 48 .lss 47 46] [0,2,4,11,46,47,48] (.seq (.cond (.t 48) .skip (.ext 0)) (.seq (.blk 1 (SR [MV 49 47,MV 12 49] [0,2,4,11,12,46,47] (SR [MV 50 11,MV 51 4,MV 52 12,OP 53 (.call 44 [.t 50,.t 51,.t 52]),MV 54 0,MV 55 2,MV 56 12,OP 57 (.call 44 [.t 54,.t 55,.t 56]),OP 58 (.copy 3 (.t 53) (.t 57))] [0,2,4,11,12,46,47] (.reg [MV 59 11,MV 60 4,MV 61 12,OP 62 (.call 44 [.t 59,.t 60,.t 61]),OP 63 (.call 48 [.t 62])] 0 [0,2,4,11,46,47])))) (.reg [BI 64 .add 47 1,MV 47 64] 0 [0,2,4,11,46,47]))))
def afz:RFn:=⟨5,66,(SR [OP 10 (.mov (.c (.sl 0 [] .nil)))] [0,1,2,3,4] (.seq (SR [MV 13 1,OP 14 (.call 76 [.t 13]),OP 15 (.un .not (.t 14)),MV 16 15,MG 17 2 16 false,OG 18 (.call 76 [.t 17]) 16 false,OG 19 (.un .not (.t 18)) 16 false,OP 20 (.pick (.t 16) (.c (.bool true)) (.t 19)),MV 21 20,MG 22 3 21 false,OG 23 (.call 76 [.t 22]) 21 false,OG 24 (.un .not (.t 23)) 21 false,OP 25 (.pick (.t 21) (.c (.bool true)) (.t 24)),MV 26 25,MG 27 4 26 false,OG 28 (.call 76 [.t 27]) 26 false,OG 29 (.un .not (.t 28)) 26 false,OP 30 (.pick (.t 26) (.c (.bool true)) (.t 29)),MV 31 30,MG 32 0 31 false,OG 33 (.len (.t 32)) 31 false,MG 34 1 31 false,MG 35 2 31 false,OG 36 (.bin .mul (.t 34) (.t 35)) 31 false,OG 37 (.bin .neq (.t 33) (.t 36)) 31 false,OP 38 (.pick (.t 31) (.c (.bool true)) (.t 37))] [0,1,2,3,4,38] (.cond (.t 38) (SR [MV 39 0,OP 40 (.call 43 [.t 39]),MV 10 40] [10] .ret) .skip)) (SR [MV 41 3,MV 42 4,OP 43 (.call 38 [.t 41,.t 42]),MV 11 43] [0,1,2,3,4,11] (.seq (SR [MV 44 1,MV 45 3,OP 46 (.mm false (.t 44) (.t 45)),OP 47 (.mov (.c (.int .i64 0)))] [0,2,4,11,46,47] (.blk 0 (.loop afx))) (SR [MV 65 11,MV 10 65] [10] .ret))))),[.t 10]⟩
theorem afM:aK PG.P (aA PG.P 41 afz) 41=some afz:=by kernel_rfl
def afs:RC:=(.seq (SR [MV 46 15,MV 47 2,MV 48 4,OP 49 (.mm false (.t 47) (.t 48)),BT 50 .lss 46 49] [0,1,2,3,4,11,14,15,50] (.cond (.t 50) .skip (.ext 2))) (.seq (.blk 3 (.reg [MV 53 11,MV 54 14,MV 55 4,BT 56 .mul 54 55,MV 57 15,BT 58 .add 56 57,MV 59 0,MV 60 14,MV 61 2,BT 62 .mul 60 61,MV 63 15,BT 64 .add 62 63,OP 65 (.aT 3 (.t 59) (.t 64)),LT 66 3 65,OP 67 (.aT 3 (.t 53) (.t 58)),SA 3 67 66] 0 [0,1,2,3,4,11,14,15])) (.reg [MV 51 15,BI 52 .add 51 1,MV 15 52] 0 [0,1,2,3,4,11,14,15])))
def afr:RC:=(.seq (SR [MV 39 14,MV 40 1,MV 41 3,OP 42 (.mm false (.t 40) (.t 41)),BT 43 .lss 39 42] [0,1,2,3,4,11,14,43] (.cond (.t 43) .skip (.ext 0))) (.seq (.blk 1 (SR [OP 15 (.mov (.c (.int .i64 0)))] [0,1,2,3,4,11,14,15] (.blk 2 (.loop afs)))) (.reg [MV 44 14,BI 45 .add 44 1,MV 14 45] 0 [0,1,2,3,4,11,14])))
def afq:RC:=(.seq (SR [MV 68 16,MV 69 3,BT 70 .lss 68 69] [3,4,11,16,70] (.cond (.t 70) .skip (.ext 4))) (.seq (.blk 5 (.reg [MV 73 11,MV 74 4,MV 75 16,OP 76 (.call 53 [.t 73,.t 74,.t 75]),MV 11 76] 0 [3,4,11,16])) (.reg [MV 71 16,BI 72 .add 71 1,MV 16 72] 0 [3,4,11,16])))
def afy:RFn:=⟨5,78,(SR [OP 10 (.mov (.c (.sl 0 [] .nil)))] [0,1,2,3,4] (SR [MV 17 3,MV 18 4,OP 19 (.call 19 [.t 17,.t 18]),MV 11 19] [0,1,2,3,4,11] (SR [MV 21 0,MV 22 2,OP 23 (.call 78 [.t 21,.t 22]),MV 20 23,OP 24 (.ext (.t 20) 0),OP 25 (.ext (.t 20) 1),MV 12 24,MV 13 25] [0,1,2,3,4,11,12,13] (.seq (SR [MV 26 13,OP 27 (.un .not (.t 26)),MV 28 27,MG 29 12 28 false,MG 30 1 28 false,OG 31 (.bin .neq (.t 29) (.t 30)) 28 false,OP 32 (.pick (.t 28) (.c (.bool true)) (.t 31)),MV 33 32,MG 34 11 33 false,OG 35 (.jM false (.t 34) (.c (.sl 0 [] .nil))) 33 false,OP 36 (.pick (.t 33) (.c (.bool true)) (.t 35))] [0,1,2,3,4,11,36] (.cond (.t 36) (SR [MV 37 0,OP 38 (.call 79 [.t 37]),MV 10 38] [10] .ret) .skip)) (.seq (SR [OP 14 (.mov (.c (.int .i64 0)))] [0,1,2,3,4,11,14] (.blk 0 (.loop afr))) (.seq (SR [OP 16 (.mov (.c (.int .i64 0)))] [3,4,11,16] (.blk 4 (.loop afq))) (SR [MV 77 11,MV 10 77] [10] .ret))))))),[.t 10]⟩
theorem afL:aK PG.P (aA PG.P 42 afy) 42=some afy:=by kernel_rfl
theorem afA (hq:T[q]?=some (some (.arr 3 (aq L))))(hn:n=L.length)(g:bU L rows aa)(hy:y<rows)(h:K (.own q (y*aa) aa) T):aj PG 44 [.own q 0 n,.int .i64 aa,.int .i64 y] T K:=by
 subst hn;exact xp hq g hy h
theorem af9 (hq:T[q]?=some (some (.arr 3 (aq L))))(g:bU L rows aa)(hr:1<=r2/\r2<=1000)(hc:1<=c2/\c2<=1000)
  (h:∀T' p,T.length<=p->T'[p]?=some (some (.arr 3 (aq (szG L rows aa r2 c2))))->ax T T' []->K (.own p 0 (r2*c2)) T'):aj PG 41 [.own q 0 L.length,.int .i64 rows,.int .i64 aa,.int .i64 r2,.int .i64 c2] T K:=by
 have h1:=g.r
 have h2:=g.c
 have hl:=g.lim
 have hgl:=g.len
 have hm:rows*aa<=1000*1000:=Nat.mul_le_mul h1.2 h2.2
 have b1:jV rows=true:=L2 (by omega)
 have b2:jV aa=true:=L2 (by omega)
 have b3:jV r2=true:=L2 (by omega)
 have b4:jV c2=true:=L2 (by omega)
 have hp:(rows:Int)*aa=((rows*aa:Nat):Int):=by simp
 have hw:IntKind.i64.wrap ((rows:Int)*aa)=(L.length:Int):=by rw[hp,aO (by omega) (by omega),hgl]
 obtain ⟨m,em⟩:∃m,m=min rows r2:=⟨_,rfl⟩
 have hmn:min (rows:Int) (r2:Int)=(m:Int):=by omega
 unfold szG at h
 rw[<-em] at h
 refine aj.aE uj afM (by simp[afz]) ?_
 unfold afz
 dsimp only
 simp -implicitDefEqProofs -dsimp only[hD,ae6,gD,gC,b1,b2,b3,b4,hw,hmn,ah,vcS,↓vcQ,simprocAttr]
 refine AE hr hc fun T1 p hp hA k1=>?_
 simp -implicitDefEqProofs -dsimp only[hD,ae6,gD,gC,hmn,ah,vcS,↓vcQ,simprocAttr]
 refine bk.inv uj (S:=fun s:Nat × ay=>⟨[(0,.own q 0 L.length),(2,.int .i64 aa),(4,.int .i64 c2),(11,.own p 0 (r2*c2)),(46,.int .i64 m),(47,.int .i64 s.1)],s.2⟩)
  (I:=fun s=>s.1<=m/\s.2[p]?=some (some (.arr 3 (aq (ae8 L aa r2 c2 s.1))))/\ax T s.2 []) (μ:=fun s=>m-s.1) (0,T1) ⟨Nat.zero_le _,hA,k1⟩ ?_ ?_
 ·simp -implicitDefEqProofs -dsimp only[an,vcS,↓vcQ,simprocAttr]
 ·intro ⟨y,A⟩ ⟨i1,i2,i3⟩
  dsimp only at i1 i2 i3 ⊢
  unfold afx
  rcases Nat.lt_or_ge y m with hy | hy
  ·have hyy:(y:Int)<m:=by omega
   have y1:y<rows:=by omega
   have y2:y<r2:=by omega
   have wy:IntKind.i64.wrap ((y:Int)+1)=((y+1:Nat):Int):=by rw[aO (by omega) (by omega)];omega
   have gS:bU (ae8 L aa r2 c2 y) r2 c2:=afi hr hc y (by omega)
   have lS:r2*c2=(ae8 L aa r2 c2 y).length:=gS.len.symm
   have hs:=afK g hr hc y1 y2 (S:=ae8 L aa r2 c2 y) rfl
   have hL:=i3.at hq (by simp)
   have hin:=cY (aa:=c2) y2
   have agj:=cY (aa:=aa) y1
   have hs1:=bx y c2
   have hs2:=bx y aa
   have hne:q≠p:=fun e=>by have:=eI hq;omega
   have aeQ:=bG g y1
   generalize ae8 L aa r2 c2 y=S at *
   generalize hS':ae8 L aa r2 c2 (y+1)=S' at *
   simp -implicitDefEqProofs -dsimp only[hD,ae6,gD,gC,hyy,ah,vcS,↓vcQ,simprocAttr]
   refine afA i2 lS gS y2 ?_
   simp -implicitDefEqProofs -dsimp only[hD,ae6,gD,gC,ah,vcS,↓vcQ,simprocAttr]
   refine afA hL rfl g y1 ?_
   obtain ⟨o,eo⟩:∃o,o=y*c2:=⟨_,rfl⟩
   obtain ⟨o2,eo2⟩:∃o,o=y*aa:=⟨_,rfl⟩
   have z1:o+c2<=S.length:=by omega
   have z2:o2+aa<=L.length:=by omega
   have hX:((L.drop o2).take aa)=cM L aa y:=by rw[eo2];rfl
   rw[<-eo] at hs ⊢
   rw[<-eo2]
   have hcp:aq (List.take o S)++(aq (List.take (min aa c2) (cM L aa y))++aq (List.drop (o+min aa c2) S))=aq (cy S o (o+min aa c2) ((cM L aa y).take (min aa c2))):=by rw[iC,iC];simp[cy]
   simp -implicitDefEqProofs -dsimp only[hD,ae6,gD,gC,ai i2,ai hL,z1,z2,az,jx,jw,hX,aeQ,hcp,ah,vcS,↓vcQ,simprocAttr]
   have lM:(cy S o (o+min aa c2) ((cM L aa y).take (min aa c2))).length=S.length:=bN (by omega) (by omega) (by simp[aeQ])
   refine afA (bZ i2 _) (by rw[lM];exact lS) (gS.ej lM) y2 ?_
   rw[<-eo]
   simp -implicitDefEqProofs -dsimp only[hD,ae6,gD,gC,ah,vcS,↓vcQ,simprocAttr]
   refine rz (bZ i2 _) (by rw[lM];exact z1) (by rw[lM];exact gS.lim.1) fun T3 h3 k3=>?_
   rw[hs] at h3
   simp -implicitDefEqProofs -dsimp only[hD,ae6,gD,gC,wy,an,ah,vcS,↓vcQ,simprocAttr]
   exact ⟨(y+1,T3),⟨rfl,aH _⟩,⟨hy,by dsimp only;rw[hS'];exact h3,(i3.put (Dd.ge hp) _).BU k3 (Dd.ge hp)⟩,by dsimp only;omega⟩
  ·have hyy:¬(y:Int)<m:=by omega
   obtain rfl:y=m:=by omega
   simp -implicitDefEqProofs -dsimp only[hD,ae6,gD,gC,hyy,ah,vcS,↓vcQ,simprocAttr]
   exact ⟨i3.1,h A p hp i2 i3⟩
theorem afS (hq:T[q]?=some (some (.arr 3 (aq L))))(hn:n=L.length)(g:bU L rows aa)(hy:y<rows)
  (h:∀T' p,T.length<=p->T'[p]?=some (some (.arr 3 (aq (cO L aa y))))->ax T T' []->K (.own p 0 n) T'):aj PG 53 [.own q 0 n,.int .i64 aa,.int .i64 y] T K:=by
 subst hn
 exact ux hq g hy h
theorem afJ {M:List Ce}{a b b':Nat}(hab:a<=b)(hb:b<=b')(hb':b'<=L.length)(hm:M.length=L.length)(h:∀i,b<=i->i<b'->M.getD i aM=L.getD i aM):e9 L M a b'=e9 L M a b:=by
 refine dM (by rw[gk (by omega) hb' hm,gk hab (by omega) hm]) fun i _=>?_
 rw[nZ (by omega) hb' hm,nZ hab (by omega) hm]
 rcases Decidable.em (a<=i/\i<b) with h1 | h1
 ·rw[if_pos h1,if_pos (by omega)]
 ·rw[if_neg h1]
  split
  ·exact h i (by omega) (by omega)
  ·rfl
theorem afO (g:bU L rows aa)(hc:1<=c2)(hi:i<r2*c2)(h:min rows r2<=i / c2\/aa<=i % c2):(cpG L rows aa r2 c2).getD i aM=(dV r2 c2).getD i aM:=by
 have hy:i / c2<r2:=(Nat.div_lt_iff_lt_mul (by omega)).2 hi
 have hx:i % c2<c2:=Nat.mod_lt _ (by omega)
 have e:i / c2*c2+i % c2=i:=by rw[Nat.mul_comm];exact Nat.div_add_mod i c2
 have h2:=afE (L:=L) (rows:=rows) (aa:=aa) hy hx
 rw[e] at h2
 rw[h2]
 unfold dV
 rw[gH]
 split
 ·rename_i h3
  rw[OL]
  rw[bG g (by omega)]
  omega
 ·rfl
set_option maxHeartbeats 1000000 in
theorem af7 {sz:Nat}{k:SK}(hs:sz=3)(g:bU L rows aa)(hr:1<=r2/\r2<=1000)(hc:1<=c2/\c2<=1000)
  (h:∀T' p,T.length<=p->T'[p]?=some (some (.arr 3 (aq (szG L rows aa r2 c2))))->ax T T' []->K (.own p 0 (r2*c2)) T'):aj PG 42 [.sl sz (aq L) k,.int .i64 rows,.int .i64 aa,.int .i64 r2,.int .i64 c2] T K:=by
 subst hs
 have h1:=g.r
 have h2:=g.c
 have hl:=g.lim
 have hgl:=g.len
 have hm:r2*c2<=1000*1000:=Nat.mul_le_mul hr.2 hc.2
 have hm0:1*1<=r2*c2:=Nat.mul_le_mul hr.1 hc.1
 obtain ⟨m,em⟩:∃m,m=min rows r2:=⟨_,rfl⟩
 have hmn:min (rows:Int) (r2:Int)=(m:Int):=by omega
 obtain ⟨aeU,emc⟩:∃m,m=min aa c2:=⟨_,rfl⟩
 have hmc:min (aa:Int) (c2:Int)=(aeU:Int):=by omega
 have gM:=afY (L:=L) (rows:=rows) (aa:=aa) hr hc
 have hat:=fun {y x:Nat} hy hx=>afE (L:=L) (rows:=rows) (aa:=aa) (r2:=r2) (c2:=c2) (y:=y) (x:=x) hy hx
 have hbl:=fun {i:Nat} hi hh=>afO (r2:=r2) (c2:=c2) (i:=i) g hc.1 hi hh
 rw[<-afX hr hc] at h
 have hB:(dV r2 c2).length=r2*c2:=by simp[dV]
 rw[<-em] at hat hbl
 generalize cpG L rows aa r2 c2=M at *
 have hM:M.length=(dV r2 c2).length:=by rw[hB,gM.len]
 refine aj.aE FOk.nil afL (by simp[afy]) ?_
 unfold afy
 dsimp only
 simp -implicitDefEqProofs -dsimp only[ah,vcS,↓vcQ,simprocAttr]
 refine FU hr hc fun T1 p hp hA k1=>?_
 generalize dV r2 c2=B at *
 simp -implicitDefEqProofs -dsimp only[ah,vcS,↓vcQ,simprocAttr]
 refine DY g ?_
 have n0:0<r2*c2:=by omega
 simp -implicitDefEqProofs -dsimp only[ah,n0,vcS,↓vcQ,simprocAttr]
 refine bk.inv FOk.nil (S:=fun s:Nat × ay=>⟨[(0,.sl 3 (aq L) k),(1,.int .i64 rows),(2,.int .i64 aa),(3,.int .i64 r2),(4,.int .i64 c2),(11,.own p 0 (r2*c2)),(14,.int .i64 s.1)],s.2⟩)
  (I:=fun s=>s.1<=m/\s.2[p]?=some (some (.arr 3 (aq (e9 B M 0 (s.1*c2)))))/\ax T s.2 []) (μ:=fun s=>m-s.1) (0,T1) ⟨Nat.zero_le _,by rw[Nat.zero_mul,kS];exact hA,k1⟩ ?_ ?_
 ·simp -implicitDefEqProofs -dsimp only[an,vcS,↓vcQ,simprocAttr]
 ·intro ⟨y,A⟩ ⟨i1,i2,i3⟩
  dsimp only at i1 i2 i3 ⊢
  unfold afr
  rcases Nat.lt_or_ge y m with hy | hy
  ·have hyy:(y:Int)<m:=by omega
   have y1:y<rows:=by omega
   have y2:y<r2:=by omega
   have wy:IntKind.i64.wrap ((y:Int)+1)=((y+1:Nat):Int):=by rw[aO (by omega) (by omega)];omega
   have hin:=cY (aa:=c2) y2
   have agj:=cY (aa:=aa) y1
   have hs1:=bx y c2
   have hs2:=bx y aa
   obtain ⟨R,eR⟩:∃R,R=y*c2:=⟨_,rfl⟩
   have wR:IntKind.i64.wrap ((y:Int)*c2)=(R:Int):=by
    have:(y:Int)*c2=(R:Int):=by rw[eR];simp
    rw[this];exact aO (by omega) (by omega)
   obtain ⟨P,eP⟩:∃P,P=y*aa:=⟨_,rfl⟩
   have wP:IntKind.i64.wrap ((y:Int)*aa)=(P:Int):=by
    have:(y:Int)*aa=(P:Int):=by rw[eP];simp
    rw[this];exact aO (by omega) (by omega)
   simp -implicitDefEqProofs -dsimp only[ah,hmn,hyy,vcS,↓vcQ,simprocAttr]
   refine bk.inv FOk.nil (S:=fun s:Nat × ay=>⟨[(0,.sl 3 (aq L) k),(1,.int .i64 rows),(2,.int .i64 aa),(3,.int .i64 r2),(4,.int .i64 c2),(11,.own p 0 (r2*c2)),(14,.int .i64 y),(15,.int .i64 s.1)],s.2⟩)
    (I:=fun s=>s.1<=aeU/\s.2[p]?=some (some (.arr 3 (aq (e9 B M 0 (R+s.1)))))/\ax T s.2 []) (μ:=fun s=>aeU-s.1) (0,A) ⟨Nat.zero_le _,by rw[Nat.add_zero,eR];exact i2,i3⟩ ?_ ?_
   ·simp -implicitDefEqProofs -dsimp only[an,vcS,↓vcQ,simprocAttr]
   ·intro ⟨x,D⟩ ⟨j1,j2,j3⟩
    dsimp only at j1 j2 j3 ⊢
    unfold afs
    rcases Nat.lt_or_ge x aeU with hx | hx
    ·have hxx:(x:Int)<aeU:=by omega
     have wx:IntKind.i64.wrap ((x:Int)+1)=((x+1:Nat):Int):=by rw[aO (by omega) (by omega)];omega
     have wS:IntKind.i64.wrap ((R:Int)+x)=((R+x:Nat):Int):=by rw[aO (by omega) (by omega)];omega
     have wQ:IntKind.i64.wrap ((P:Int)+x)=((P+x:Nat):Int):=by rw[aO (by omega) (by omega)];omega
     have lm:=gk (L:=B) (M:=M) (a:=0) (b:=R+x) (by omega) (by omega) hM
     have jf:=hat y2 (show x<c2 by omega)
     rw[if_pos hy,cU g y1 (by omega),<-eR,<-eP] at jf
     have b0:(0:Int)<=((R+x:Nat):Int):=by omega
     have b1:((R+x:Nat):Int)<((r2*c2:Nat):Int):=by omega
     have hg:=bf (L:=e9 B M 0 (R+x)) (i:=R+x) (by omega)
     have d0:(0:Int)<=((P+x:Nat):Int):=by omega
     have d1:((P+x:Nat):Int)<L.length:=by omega
     have hg2:=bf (L:=L) (i:=P+x) (by omega)
     have bY:=bM (e9 B M 0 (R+x)) (R+x) (L.getD (P+x) aM)
     rw[fG (by omega) (by omega) hM jf.symm] at bY
     generalize L.getD (P+x) aM=c at *
     simp -implicitDefEqProofs -dsimp only[ah,ai j2,hmc,hxx,wP,wQ,d0,d1,hg2,az,wR,wS,wx,b0,b1,hg,bY,Nat.zero_add,an,vcS,↓vcQ,simprocAttr]
     exact ⟨(x+1,_),⟨rfl,aH _⟩,⟨hx,bZ j2 _,j3.put (Dd.ge hp) _⟩,by dsimp only;omega⟩
    ·have hxx:¬(x:Int)<aeU:=by omega
     simp -implicitDefEqProofs -dsimp only[ah,hmc,hxx,wy,an,vcS,↓vcQ,simprocAttr]
     obtain rfl:x=aeU:=by omega
     refine ⟨(y+1,D),⟨rfl,aH _⟩,⟨hy, ?_,j3⟩,by dsimp only;omega⟩
     dsimp only
     rw[afJ (b:=R+x) (by omega) (by omega) (by omega) hM fun i a b=>hbl (by omega) (.inr ?_)]
     ·exact j2
     ·have e:i % c2=i-R:=by
       rw[show i=c2*y+(i-R) by rw[Nat.mul_comm];omega,Nat.mul_add_mod,Nat.mod_eq_of_lt (by omega)]
       rw[Nat.mul_comm,<-eR];omega
      omega
  ·have hyy:¬(y:Int)<m:=by omega
   obtain rfl:y=m:=by omega
   simp -implicitDefEqProofs -dsimp only[ah,hmn,hyy,vcS,↓vcQ,simprocAttr]
   have i2':A[p]?=some (some (.arr 3 (aq M))):=by
    have hin:y*c2<=r2*c2:=Nat.mul_le_mul_right _ (by omega)
    rw[<-afJ (b':=r2*c2) (Nat.zero_le _) hin (by omega) hM fun i a b=>hbl b (.inl ((Nat.le_div_iff_mul_le (by omega)).2 a)),<-hB,<-hM] at i2
    unfold e9 cy at i2
    simpa [List.take_of_length_le (Nat.le_of_eq hM),hM] using i2
   refine bk.inv FOk.nil (S:=fun s:Nat × Nat × ay=>⟨[(3,.int .i64 r2),(4,.int .i64 c2),(11,.own s.1 0 (r2*c2)),(16,.int .i64 s.2.1)],s.2.2⟩)
    (I:=fun s=>s.2.1<=r2/\ax T s.2.2 []/\T.length<=s.1/\s.2.2[s.1]?=some (some (.arr 3 (aq (tP M c2 s.2.1))))) (μ:=fun s=>r2-s.2.1) (p,0,A) ⟨Nat.zero_le _,i3,hp,i2'⟩ ?_ ?_
   ·simp -implicitDefEqProofs -dsimp only[an,vcS,↓vcQ,simprocAttr]
   ·intro ⟨q,z,D⟩ ⟨j1,j2,j4,j3⟩
    dsimp only at j1 j2 j3 j4 ⊢
    unfold afq
    rcases Nat.lt_or_ge z r2 with hz | hz
    ·have hzz:(z:Int)<r2:=by omega
     have wz:IntKind.i64.wrap ((z:Int)+1)=((z+1:Nat):Int):=by rw[aO (by omega) (by omega)];omega
     have aeK:=Hr gM z (by omega)
     have lz:r2*c2=(tP M c2 z).length:=aeK.len.symm
     simp -implicitDefEqProofs -dsimp only[ah,hzz,vcS,↓vcQ,simprocAttr]
     refine afS j3 lz aeK hz fun T3 pp hpp hA3 k3=>?_
     simp -implicitDefEqProofs -dsimp only[ah,wz,an,vcS,↓vcQ,simprocAttr]
     have:=j2.1
     exact ⟨(pp,z+1,T3),⟨⟨rfl,rfl⟩,aH _⟩,⟨hz,j2.new k3 (by simp),by dsimp only;omega,hA3⟩,by dsimp only;omega⟩
    ·have hzz:¬(z:Int)<r2:=by omega
     obtain rfl:z=r2:=by omega
     simp -implicitDefEqProofs -dsimp only[ah,hzz,vcS,↓vcQ,simprocAttr]
     exact ⟨j2.1,h D q j4 j3 j2⟩
def afw:RC:=(SR [BT 75 .lss 74 73] [1,2,3,6,72,73,74,75] (.seq (.cond (.t 75) .skip (.ext 0)) (.seq (.blk 1 (SR [OP 76 (.aT 2 (.t 72) (.t 74)),LT 77 2 76,OP 9 (.alloc [.lit (.pointer none),.lit (.pointer none)]),SA 2 9 77] [1,2,3,6,9,72,73,74] (.cJ (.take (OP 78 (.iz 2 1 (.t 9) (.c (.int .i64 0)))) [] (.take (LD 79 78) [] (.take (OP 80 (.iz 2 1 (.t 9) (.c (.int .i64 1)))) [] (.take (OP 82 (.iz 2 1 (.t 9) (.c (.int .i64 0)))) [] (.take (LD 83 82) [] (.take (OP 84 (.aF (.t 83))) [] (.take (LD 85 84) [] (.take (OP 86 (.mm true (.t 85) (.c (.int .i64 0)))) [] (.take (MV 87 1) [] (.take (BI 88 .sub 87 1) [] (.take (OP 89 (.mm false (.t 86) (.t 88))) [] (.take (OP 90 (.iz 2 1 (.t 9) (.c (.int .i64 1)))) [] (.take (LD 91 90) [] (.take (OP 92 (.aF (.t 91))) [] (.take (LD 93 92) [] (.take (OP 94 (.mm true (.t 93) (.c (.int .i64 0)))) [] (.take (MV 95 2) [] (.take (BI 96 .sub 95 1) [] (.take (OP 97 (.mm false (.t 94) (.t 96))) [] (.take (OP 98 (.aF (.t 79))) [] (.take (LD 81 80) [.t 98] (.op (SA 1 98 89) (.take (OP 99 (.aF (.t 81))) [] (.op (SA 1 99 97) .done)))))))))))))))))))))))) 0 [1,2,3,6,72,73,74]))) (.reg [BI 100 .add 74 1,MV 74 100] 0 [1,2,3,6,72,73,74]))))
def ae5:RC:=(SR [MV 49 1,MV 50 2,MV 51 1,BI 52 .sub 51 1,FA 53 9 3,LD 54 53,MV 55 2,OP 56 (.call 39 [.t 54,.t 55]),FA 57 0 3,SA 1 57 49,FA 58 1 3,SA 1 58 50,FA 59 5 3,NP (.store 1 (.t 59) (.c (.bool false))),FA 60 7 3,NP (.store 1 (.t 60) (.c (.int .i64 0))),FA 61 8 3,SA 1 61 52,FA 62 9 3,SA 1 62 56] [1,2,3,6] (.seq (SR [FA 63 3 3,FA 64 4 3,OP 65 (.build [.lit (.pointer none),.lit (.pointer none)] [(0,(1,(.t 63))),(1,(1,(.t 64)))]),FA 66 10 3,FA 67 11 3,OP 68 (.build [.lit (.pointer none),.lit (.pointer none)] [(0,(1,(.t 66))),(1,(1,(.t 67)))]),FA 69 17 3,FA 70 18 3,OP 71 (.build [.lit (.pointer none),.lit (.pointer none)] [(0,(1,(.t 69))),(1,(1,(.t 70)))]),OP 72 (.bK 2 [.lit (.pointer none),.lit (.pointer none)] 3 [(0,(.t 65)),(1,(.t 68)),(2,(.t 71))]),OP 73 (.len (.t 72)),OP 74 (.mov (.c (.int .i64 0)))] [1,2,3,6,72,73,74] (.blk 0 (.loop afw))) (SR [LT 101 24 3,SA 24 6 101,OP 7 (.mov (.c (.int .i64 0)))] [6,7] .ret)))
theorem ae1 (E:Prg)(F:dW)(n:Nat)(Q:Exit->St->Prop)(st:St):RC.wp E F n ae5 Q st=WpH E F n ae5 Q st:=ak _
def afd:RFn:=⟨3,102,(SR [OP 3 (.box 24 (.t 0)),OP 6 (.alloc ZS),OP 7 (.mov (.c (.int .i64 0)))] [1,2,3,6] (.seq (SR [MV 10 1,BI 11 .lss 10 1,MV 12 11,MG 13 1 12 false,OG 14 (.bin .gtr (.t 13) (.c (.int .i64 1000))) 12 false,OP 15 (.pick (.t 12) (.c (.bool true)) (.t 14)),MV 16 15,MG 17 2 16 false,OG 18 (.bin .lss (.t 17) (.c (.int .i64 1))) 16 false,OP 19 (.pick (.t 16) (.c (.bool true)) (.t 18)),MV 20 19,MG 21 2 20 false,OG 22 (.bin .gtr (.t 21) (.c (.int .i64 1000))) 20 false,OP 23 (.pick (.t 20) (.c (.bool true)) (.t 22))] [1,2,3,6,23] (.cond (.t 23) (SR [OP 24 (.build [.int .i64 0,.int .i64 0,.sl 0 [] .nil,.int .i64 0,.int .i64 0,.bool false,.int .u16 0,.int .i64 0,.int .i64 0,.sl 0 [] .nil,.int .i64 0,.int .i64 0,.int .u16 0,.bool false,.bool false,.bool false,.sl 0 [] .nil,.int .i64 0,.int .i64 0,.int .i64 0,.int .u8 0,.sl 0 [] .nil,.sl 0 [] .nil,.sl 0 [] .nil] []),SA 24 6 24,OP 7 (.mov (.c (.int .i64 26)))] [6,7] .ret) .skip)) (SR [LT 25 24 3,OP 26 (.call 32 [.t 25]),SA 24 3 26] [1,2,3,6] (SR [FA 27 2 3,LD 28 27,FA 29 0 3,LD 30 29,FA 31 1 3,LD 32 31,MV 33 1,MV 34 2,OP 35 (.call 41 [.t 28,.t 30,.t 32,.t 33,.t 34]),FA 36 2 3,SA 1 36 35] [1,2,3,6] (.seq (SR [FA 37 15 3,LD 38 37] [1,2,3,6,38] (.cond (.t 38) (.reg [FA 39 16 3,LD 40 39,FA 41 0 3,LD 42 41,FA 43 1 3,LD 44 43,MV 45 1,MV 46 2,OP 47 (.call 41 [.t 40,.t 42,.t 44,.t 45,.t 46]),FA 48 16 3,SA 1 48 47] 0 [1,2,3,6]) .skip)) ae5))))),[.c 6 true 24,.t 7]⟩
theorem afv:aK PG.P (aA PG.P 20 afd) 20=some afd:=by kernel_rfl
theorem afT {was:List Bool}(hq:T[q]?=some (some (.arr 1 (bg was))))(hw:was.length<=1000)(hn:1<=n/\n<=1000)(h:∀T' p,T.length<=p->T'[p]?=some (some (.arr 1 (bg (fj was n n))))->ax T T' []->K (.own p 0 n) T') :
  aj PG 39 [.own q 0 was.length,.int .i64 n] T K:=by
 refine aj.aE FOk.nil GI (by simp[vb]) ?_
 unfold vb
 dsimp only
 have n0:(0:Int)<=n:=by omega
 simp -implicitDefEqProofs -dsimp only[ah,pR,aY,vcS,↓vcQ,simprocAttr]
 have hb1:(n:Int)*1<=140737488355328/\(n:Int)<=4611686018427387904:=by omega
 refine ⟨⟨n0,Int.le_refl _,hb1.1,hb1.2⟩, ?_⟩
 have lq:=eI hq
 refine bk.inv FOk.nil (S:=fun s:Nat × ay=>⟨[(0,.own q 0 was.length),(5,.own T.length 0 n),(10,.int .i64 n),(11,.int .i64 s.1)],s.2⟩)
  (I:=fun s=>s.1<=n/\s.2[T.length]?=some (some (.arr 1 (bg (fj was n s.1))))/\ax T s.2 []) (μ:=fun s=>n-s.1) (0,T++ [some (.arr 1 (bg (fj was n 0)))]) ⟨Nat.zero_le _,aZ _ _ _,ax.app _ _ _⟩ ?_ ?_
 ·simp -implicitDefEqProofs -dsimp only[an,Q5,vcS,↓vcQ,simprocAttr]
 ·intro ⟨i,A⟩ ⟨hi,hA,kA⟩
  dsimp only at hi hA kA ⊢
  unfold xZ
  have hlen:=Ju was n i
  have hqA:=kA.at hq (by simp)
  have hne:q≠T.length:=by omega
  by_cases hlt:i<n
  ·have hii:(i:Int)<n:=by omega
   have hi0:(0:Int)<=i:=by omega
   have hw1:IntKind.i64.wrap ((i:Int)+1)=((i+1:Nat):Int):=by rw[aO (by omega) (by omega)];omega
   have hm:decide ((i:Int).tmod 8=0)=decide (i % 8=0):=by
    rw[decide_eq_decide,Int.tmod_eq_emod_of_nonneg hi0];omega
   have hg:=fl (L:=fj was n i) (i:=i) (by omega)
   have hs0:=jg (fj was n i) i (decide (i % 8=0))
   have hg2:=fl (L:=(fj was n i).set i (decide (i % 8=0))) (i:=i) (by simp;omega)
   by_cases YP:i<was.length
   ·have Tp:(i:Int)<was.length:=by omega
    have hgw:=fl YP
    have hs1:=jg ((fj was n i).set i (decide (i % 8=0))) i (was.getD i false)
    have bY:((fj was n i).set i (decide (i % 8=0))).set i (was.getD i false)=fj was n (i+1):=by
     rw[List.set_set]
     exact xN hlt _ (by rw[if_pos YP])
    rw[bY] at hs1
    simp -implicitDefEqProofs -dsimp only[ah,ai hA,ai hqA,fun y=>ai (bn hqA y hne),aY,hlen,hii,hi0,hw1,hm,hg,hg2,hs0,hs1,hgw,Tp,an,Nat.zero_add,List.length_set,vcS,↓vcQ,simprocAttr]
    exact ⟨(i+1,_),⟨rfl,aH _⟩,⟨hlt,bZ (bZ hA _) _,(kA.put (Dd.ge (Nat.le_refl _)) _).put (Dd.ge (Nat.le_refl _)) _⟩,by dsimp only;omega⟩
   ·have Tp:¬(i:Int)<was.length:=by omega
    have bY:(fj was n i).set i (decide (i % 8=0))=fj was n (i+1):=xN hlt _ (by rw[if_neg YP])
    rw[bY] at hs0
    simp -implicitDefEqProofs -dsimp only[ah,ai hA,aY,hlen,hii,hi0,hw1,hm,hg,hs0,Tp,an,Nat.zero_add,vcS,↓vcQ,simprocAttr]
    exact ⟨(i+1,_),⟨rfl,aH _⟩,⟨hlt,bZ hA _,kA.put (Dd.ge (Nat.le_refl _)) _⟩,by dsimp only;omega⟩
  ·have hii:¬(i:Int)<n:=by omega
   obtain rfl:i=n:=by omega
   simp -implicitDefEqProofs -dsimp only[ah,hii,an,vcS,↓vcQ,simprocAttr]
   exact ⟨kA.1,h _ _ (Nat.le_refl _) hA kA⟩
theorem eK.scU {T0:ay}{o tq:Nat}{n:IntKind}{x:Int}(k0:ax T0 T [])(pa:xH p m pr d1 d2 d3)(t:jT T0 T o q tq s od m pr d1 d2 d3)(ok:aR s) :
  ∃v T',eK ⟨[(0,.tup [.agg (aN s q tq od m pr d1 d2 d3),.int n x])],T⟩ ⟨[(0,.tup [v,.int n x])],T'⟩/\aJ s p v/\ax T0 T' []/\T'.length=T.length:=by
 have h1:=eK.acP (cs:=aN s q tq od m pr d1 d2 d3) (k:=n) (x:=x) t.cells
 have h2:=eK.acP (cs:=(aN s q tq od m pr d1 d2 d3).map (DV.iA q 3 (aq s.cells))) (k:=n) (x:=x) (bn t.aP none t.qt.symm)
 have k2:ax T0 ((T.set q none).set tq none) []:=(k0.put t.nq none).put t.nt none
 rcases t.oth with ⟨oq,rfl,ho,n1,n2,n3,n4⟩ | ⟨ha,z3,k3,rfl⟩
 ·have h3:=eK.acP (cs:=((aN s q tq (.own oq 0 s.other.length) m pr d1 d2 d3).map (DV.iA q 3 (aq s.cells))).map (DV.iA tq 1 (bg s.aP))) (k:=n) (x:=x) (bn (bn ho none n2) none n3)
  refine ⟨_,_,h1.trans (h2.trans h3),⟨3,1,3,.any,.any,.any,m,pr,d1,d2,d3,⟨rfl,rfl,.inl rfl,pa⟩, ?_⟩,k2.put n4 none,by simp⟩
  simp only[aN,scD,List.map_cons,List.map_nil,vV q 3 _ _ (az s.cells).symm,TK _ t.qt.symm,TK _ n2,TJ,vV tq 1 _ _ (aY s.aP).symm,TK _ n3,vV oq 3 _ _ (az s.other).symm,gT pa.i1,gT pa.i2,gT pa.i3,HL,AF]
 ·refine ⟨_,_,h1.trans h2,⟨3,1,z3,.any,.any,k3,m,pr,d1,d2,d3,⟨rfl,rfl,.inr (ok.non ha).1,pa⟩, ?_⟩,k2,by simp⟩
  simp only[aN,scD,List.map_cons,List.map_nil,vV q 3 _ _ (az s.cells).symm,TK _ t.qt.symm,TJ,vV tq 1 _ _ (aY s.aP).symm,gT pa.i1,gT pa.i2,gT pa.i3,(ok.non ha).1,AV,HL,AF]
def afC (i k y r:Nat):Nat:=if k<i then min y (r-1) else y
theorem afP {k:Nat}(h:k<i):afC i k y r=min y (r-1):=if_pos h
theorem afg {k:Nat}(h:¬k<i):afC i k y r=y:=if_neg h
def szB (s : Sc) (r c p tq i : Nat) (od : DV) (m pr : Int) (d1 d2 d3 : DV) : List DV :=
  [.int .i64 r, .int .i64 c, .own p 0 (r * c), .int .i64 (afC i 0 s.y r : Nat), .int .i64 (afC i 0 s.x c : Nat), .bool false, .int .u16 s.attr, .int .i64 0, .int .i64 ((r - 1 : Nat) : Int), .own tq 0 c,
   .int .i64 (afC i 1 s.sy r : Nat), .int .i64 (afC i 1 s.sx c : Nat), .int .u16 s.eg, .bool s.auto, .bool s.shown, .bool s.alt, od, .int .i64 (afC i 2 s.oy r : Nat), .int .i64 (afC i 2 s.ox c : Nat), .int .i64 m, .int .u8 pr, d1, d2, d3]
theorem agf {p tq:Nat}(hr:1<=r/\r<=1000)(hc:1<=c/\c<=1000):szB s r c p tq 3 od m pr d1 d2 d3=aN (ae3 s r c) p tq od m pr d1 d2 d3:=by
 have h1:(ae3 s r c).cells.length=r*c:=(afn hr hc).len
 have h2:(ae3 s r c).aP.length=c:=Ju _ _ _
 unfold aN
 rw[h1,h2]
 rfl
set_option maxHeartbeats 1000000 in
theorem afH {A:ay}{o z p:Nat}{Q:Exit->St->Prop}(hr:1<=r/\r<=1000)(hc:1<=c/\c<=1000)(htl:s.aP.length<=1000)(hy:s.y<1000/\s.x<1000/\s.sy<1000/\s.sx<1000/\s.oy<1000/\s.ox<1000)
  (o1:DV.one d1=true) (o2:DV.one d2=true) (o3:DV.one d3=true) (aeW:DV.one od=true)
  (hb:A[o]?=some (some (.box [.int .i64 s.rows,.int .i64 s.aa,.own p 0 (r*c),.int .i64 s.y,.int .i64 s.x,.bool s.wrap,.int .u16 s.attr,.int .i64 s.top,.int .i64 s.bot,.own q 0 s.aP.length,.int .i64 s.sy,.int .i64 s.sx,.int .u16 s.eg,.bool s.auto,.bool s.shown,.bool s.alt,od,.int .i64 s.oy,.int .i64 s.ox,.int .i64 m,.int .u8 pr,d1,d2,d3])))
  (hq:A[q]?=some (some (.arr 1 (bg s.aP)))) (hz:A[z]?=some (some (.box lp))) (hoz:o≠z)
  (h:∀B tq,A.length<=tq->B[o]?=some (some (.box (szB s r c p tq 3 od m pr d1 d2 d3)))->B[tq]?=some (some (.arr 1 (bg (fj s.aP c c))))->ax A B [o,z]->B[z]?=some (some (.box (szB s r c p tq 3 od m pr d1 d2 d3)))->Q .ret ⟨[(6,.ptr z 0 0),(7,.int .i64 0)],B⟩) {X:List (Nat × DV)} (hX:X=[]\/∃d,X=[(38,d)]) :
  WpH PG (tab []) 102 ae5 Q ⟨(1,.int .i64 r)::(2,.int .i64 c)::(3,.ptr o 0 0)::(6,.ptr z 0 0)::X,A⟩:=by
 have wr:IntKind.i64.wrap ((r:Int)-1)=((r-1:Nat):Int):=by rw[aO (by omega) (by omega)];omega
 have wc:IntKind.i64.wrap ((c:Int)-1)=((c-1:Nat):Int):=by rw[aO (by omega) (by omega)];omega
 rcases hX with rfl | ⟨d38,rfl⟩
 all_goals
  unfold WpH ae5
  simp -implicitDefEqProofs -dsimp only[ah,ai hb,o1,o2,o3,aeW,vcS,↓vcQ,simprocAttr]
  refine afT hq htl hc fun hY tq htq hA k1=>?_
  have hb1:=k1.at hb (by simp)
  simp -implicitDefEqProofs -dsimp only[ah,ai hb1,wr,wc,o1,o2,o3,aeW,List.set_set,vcS,↓vcQ,simprocAttr]
  obtain ⟨X,hX0⟩:∃X:ay,X=hY.set o (some (.box (szB s r c p tq 0 od m pr d1 d2 d3)))++ [some (.arr 2 [[.ptr o 0 3,.ptr o 0 4],[.ptr o 0 10,.ptr o 0 11],[.ptr o 0 17,.ptr o 0 18]])]:=⟨_,rfl⟩
  have lA1:=k1.1
  have lo:=eI hb
  have lz:=eI hz
  have hXo:X[o]?=some (some (.box (szB s r c p tq 0 od m pr d1 d2 d3))):=by rw[hX0];exact hO (bZ hb1 _) _
  have hXa:X[hY.length]?=some (some (.arr 2 [[.ptr o 0 3,.ptr o 0 4],[.ptr o 0 10,.ptr o 0 11],[.ptr o 0 17,.ptr o 0 18]])):=by rw[hX0,List.getElem?_append_right (by simp),List.length_set,Nat.sub_self];rfl
  have hXt:X[tq]?=some (some (.arr 1 (bg (fj s.aP c c)))):=by rw[hX0];exact hO (bn hA _ (by omega)) _
  have hXz:X[z]?=some (some (.box lp)):=by rw[hX0];exact hO (bn (k1.at hz (by simp)) _ (Ne.symm hoz)) _
  have kX:ax A X [o,z]:=by
   rw[hX0]
   refine ⟨by simp;omega,fun j ob hj hh=>?_⟩
   have hjo:j≠o:=fun e=>hj (by simp[e])
   exact hO (bn (k1.2 j ob (by simp) hh) _ hjo) _
  refine bk.inv FOk.nil (S:=fun σ:Nat × ay=>⟨[(1,.int .i64 r),(2,.int .i64 c),(3,.ptr o 0 0),(6,.ptr z 0 0),(72,.own hY.length 0 3),(73,.int .i64 3),(74,.int .i64 σ.1)],σ.2⟩)
   (I:=fun σ=>σ.1<=3/\σ.2[o]?=some (some (.box (szB s r c p tq σ.1 od m pr d1 d2 d3)))/\ax X σ.2 [o]) (μ:=fun σ=>3-σ.1) (0,X) ⟨Nat.zero_le _,hXo,.refl _ _⟩ ?_ ?_
  ·simp -implicitDefEqProofs -dsimp only[an,vcS,↓vcQ,simprocAttr]
   exact ⟨by simp,by rw[hX0];exact aH _⟩
  ·intro ⟨i,D⟩ ⟨i1,i2,i3⟩
   dsimp only at i1 i2 i3 ⊢
   unfold afw
   have hDa:=i3.at hXa (by simp;omega)
   have hDt:=i3.at hXt (by simp;omega)
   have hDz:=i3.at hXz (by simp;exact hoz.symm)
   have w1:IntKind.i64.wrap 1=1:=by decide
   have w2:IntKind.i64.wrap (1+1)=2:=by decide
   have w3:IntKind.i64.wrap (2+1)=3:=by decide
   have aeP:=eI i2
   have aeN:∀b x,ax X (D.set o b++x) [o]:=fun b x=>⟨by have:=i3.1;simp;omega,fun j ob hj hh=>hO (bn (i3.2 j ob hj hh) _ (fun e=>hj (by simp[e]))) _⟩
   have m1:∀x:Nat,max (x:Int) 0=x:=fun x=>by omega
   have m2:∀x:Nat,min (x:Int) ((r-1:Nat):Int)=((min x (r-1):Nat):Int):=fun x=>by omega
   have aeS:∀x:Nat,min (x:Int) ((c-1:Nat):Int)=((min x (c-1):Nat):Int):=fun x=>by omega
   have i2':=i2
   unfold szB at i2
   rcases (show i=0\/i=1\/i=2\/i=3 by omega) with rfl | rfl | rfl | rfl
   ·rw[afg (by decide),afg (by decide),afg (by decide),afg (by decide),afg (by decide),afg (by decide)] at i2
    simp -implicitDefEqProofs -dsimp only[ah,ai i2,ai hDa,wr,wc,w1,w2,w3,m1,m2,aeS,o1,o2,o3,aeW,an,vcS,↓vcQ,simprocAttr]
    exact ⟨by omega,(1,_),⟨rfl,aH _⟩,⟨by dsimp only;omega,hO (bZ i2' _) _,aeN _ _⟩,by dsimp only;omega⟩
   ·rw[afP (by decide),afP (by decide),afg (by decide),afg (by decide),afg (by decide),afg (by decide)] at i2
    simp -implicitDefEqProofs -dsimp only[ah,ai i2,ai hDa,wr,wc,w1,w2,w3,m1,m2,aeS,o1,o2,o3,aeW,an,vcS,↓vcQ,simprocAttr]
    exact ⟨by omega,(2,_),⟨rfl,aH _⟩,⟨by dsimp only;omega,hO (bZ i2' _) _,aeN _ _⟩,by dsimp only;omega⟩
   ·rw[afP (by decide),afP (by decide),afP (by decide),afP (by decide),afg (by decide),afg (by decide)] at i2
    simp -implicitDefEqProofs -dsimp only[ah,ai i2,ai hDa,wr,wc,w1,w2,w3,m1,m2,aeS,o1,o2,o3,aeW,an,vcS,↓vcQ,simprocAttr]
    exact ⟨by omega,(3,_),⟨rfl,aH _⟩,⟨by dsimp only;omega,hO (bZ i2' _) _,aeN _ _⟩,by dsimp only;omega⟩
   ·simp -implicitDefEqProofs -dsimp only[ah,ai i2,ai hDz,o1,o2,o3,aeW,an,vcS,↓vcQ,simprocAttr]
    refine ⟨by decide,h _ tq htq (bn i2' _ hoz) (bn hDt _ (by omega)) ?_ (bZ hDz _)⟩
    refine ⟨by have:=i3.1;have:=kX.1;simp;omega,fun j ob hj hh=>?_⟩
    simp only[List.mem_cons,List.not_mem_nil,or_false,not_or] at hj
    exact bn (i3.2 j ob (by simpa using hj.1) (kX.2 j ob (by simp[hj.1,hj.2]) hh)) _ hj.2
theorem afh {A B:ay}{p2 tq2:Nat}{e1 e2 e3:DV}(ok:aR s)(hr:1<=r/\r<=1000)(hc:1<=c/\c<=1000)(pa:xH p m pr e1 e2 e3)(kA:ax T A [])(hp:T.length+2<=p2)(hA2:A[p2]?=some (some (.arr 3 (aq (szG s.cells s.rows s.aa r c)))))
  (ho:(∃oq,od=.own oq 0 (ae3 s r c).other.length/\A[oq]?=some (some (.arr 3 (aq (ae3 s r c).other)))/\T.length+2<=oq/\oq≠p2)\/(s.alt=false/\∃sz k,od=.sl sz [] k)) (htq:A.length<=tq2)
  (hB1:B[T.length]?=some (some (.box (szB s r c p2 tq2 3 od m pr e1 e2 e3)))) (hB2:B[tq2]?=some (some (.arr 1 (bg (fj s.aP c c))))) (kB:ax A B [T.length,T.length+1]) (h:∀T' v',ax T T' []->aJ (ae3 s r c) p v'->K (.tup [v',.int .i64 0]) T') :
  T.length<=B.length/\∃d' T'',eK ⟨[(0,.tup [.agg (szB s r c p2 tq2 3 od m pr e1 e2 e3),.int .i64 0])],B⟩ ⟨[(0,d')],T''⟩/\K d' T'':=by
 have l2:=eI hA2
 have kf:ax T B []:=⟨Nat.le_trans kA.1 kB.1,fun j ob _ hh=>by
  have:=eI hh
  exact kB.2 j ob (by simp;omega) (kA.2 j ob (by simp) hh)⟩
 rw[agf hr hc] at hB1 ⊢
 have tz:jT T B T.length p2 tq2 (ae3 s r c) od m pr e1 e2 e3:=by
  refine ⟨hB1,kB.at hA2 (by simp;omega),hB2, ?_,by omega,by have:=eI hB1;have:=kA.1;omega,by omega,Dd.ge (Nat.le_refl _),Dd.ge (by omega),Dd.ge (by have:=kA.1;omega)⟩
  rcases ho with ⟨oq,h1,h2,h3,h4⟩ | h
  ·exact .inl ⟨oq,h1,kB.at h2 (by simp;omega),by omega,h4,by have:=eI h2;omega,Dd.ge (by omega)⟩
  ·exact .inr h
 obtain ⟨v',T',hF,hv,kT,hl⟩:=eK.scU (n:=.i64) (x:=0) kf pa tz (afj ok hr hc)
 exact ⟨kf.1,_,T',hF,h T' v' kT hv⟩
set_option maxHeartbeats 1000000 in
theorem agh (ok:aR s)(pk:cS p)(hv:aJ s p v)(hr:1<=r/\r<=1000)(hc:1<=c/\c<=1000)
  (h:∀T' v',ax T T' []->aJ (ae3 s r c) p v'->K (.tup [v',.int .i64 0]) T'):aj PG 20 [v,.int .i64 r,.int .i64 c] T K:=by
 obtain ⟨z1,z2,z3,k1,k2,k3,m,pr,d1,d2,d3,sv,rfl⟩:=hv
 obtain ⟨o1,o2,o3⟩:=sv.pa.one
 have r1:¬(r:Int)<1:=by omega
 have r2:¬(1000:Int)<r:=by omega
 have c1:¬(c:Int)<1:=by omega
 have c2:¬(1000:Int)<c:=by omega
 have aeJ:=ok.g.r
 have gc:=ok.g.c
 have htl:=ok.aP
 have hy:=ok.y
 have hx:=ok.x
 have hsy:=ok.sy
 have hsx:=ok.sx
 have hoy:=ok.oy
 have hox:=ok.ox
 have sz:=afj ok hr hc
 unfold scD
 refine aj.fq FOk.nil afv (by simp[afd]) ?_
 unfold afd
 dsimp only
 simp -implicitDefEqProofs -dsimp only[ah,r1,r2,c1,c2,o1,o2,o3,vcS,↓vcQ,simprocAttr]
 have esc:([.int .i64 s.rows,.int .i64 s.aa,.sl z1 (aq s.cells) k1,.int .i64 s.y,.int .i64 s.x,.bool s.wrap,.int .u16 s.attr,.int .i64 s.top,.int .i64 s.bot,.sl z2 (bg s.aP) k2,.int .i64 s.sy,.int .i64 s.sx,.int .u16 s.eg,.bool s.auto,.bool s.shown,.bool s.alt,.sl z3 (aq s.other) k3,.int .i64 s.oy,.int .i64 s.ox,.int .i64 m,.int .u8 pr,d1,d2,d3]:List DV)=scD s z1 z2 z3 k1 k2 k3 m pr d1 d2 d3:=rfl
 rw[esc]
 refine No ok sv pk fun T1 q tq oq e1 e2 e3 g1 g2 g3 g4 g5 g6 a1 a2 a3 pa k=>?_
 obtain ⟨y1,y2,y3⟩:=pa.one
 unfold aN
 have hb0:=k.at (aZ T [_] (some (Ob.box _))) (by simp)
 have hz0:=k.at (bl T [_,some (Ob.box _)] 1) (by simp)
 unfold scD at hb0
 simp only[List.length_append,List.length_cons,List.length_nil] at g1 g2 g3
 have lk:=k.1
 simp only[List.length_append,List.length_cons,List.length_nil] at lk
 have n1:T.length+1≠T.length:=by omega
 simp -implicitDefEqProofs -dsimp only[ah,ai hb0,o1,o2,o3,y1,y2,y3,↓ae1,vcS,↓vcQ,simprocAttr]
 have kk:ax T T1 []:=(ax.app T _ []).new k (by simp)
 refine af9 (bn a1 _ (by omega)) ok.g hr hc fun T2 p2 hp2 hA2 k2=>?_
 have hb2:=k2.at (bZ hb0 _) (by simp)
 have hz2:=k2.at (bn hz0 _ n1) (by simp)
 have hq2:=k2.at (bn a2 _ (by omega)) (by simp)
 have ho2:=k2.at (bn a3 _ (by omega)) (by simp)
 have kk2:ax T T2 []:=(kk.put (Dd.ge (Nat.le_refl _)) _).new k2 (by simp)
 have lk2:=k2.1
 simp only[List.length_set] at lk2 hp2
 have l3:=eI a3
 cases ha:s.alt with
 | false=>
  simp -implicitDefEqProofs -dsimp only[ah,ai hb2,ha,o1,o2,o3,y1,y2,y3,↓ae1,vcS,↓vcQ,simprocAttr]
  rw[ha] at hb2
  have afB:(ae3 s r c).other=s.other:=if_neg (by simp[ha])
  obtain ⟨A,hA0⟩:∃A,A=T2.set T.length (some (.box [.int .i64 s.rows,.int .i64 s.aa,.own p2 0 (r*c),.int .i64 s.y,.int .i64 s.x,.bool s.wrap,.int .u16 s.attr,.int .i64 s.top,.int .i64 s.bot,.own tq 0 s.aP.length,.int .i64 s.sy,.int .i64 s.sx,.int .u16 s.eg,.bool s.auto,.bool s.shown,.bool false,.own oq 0 s.other.length,.int .i64 s.oy,.int .i64 s.ox,.int .i64 m,.int .u8 pr,e1,e2,e3])):=⟨_,rfl⟩
  have kA:ax T A []:=by rw[hA0];exact kk2.put (Dd.ge (Nat.le_refl _)) _
  with_reducible refine afH (s:=s) (od:=.own oq 0 s.other.length) hr hc (by omega) (by omega) y1 y2 y3 rfl (by rw[ha];exact bZ hb2 _) (bn hq2 _ (by omega)) (bn hz2 _ n1) n1.symm (fun B tq2 htq hB1 hB2 kB hBz=>?_) (.inr ⟨_,rfl⟩)
  have afl:=hBz
  unfold szB at afl
  have o1':DV.one (.own oq 0 s.other.length)=true:=rfl
  simp -implicitDefEqProofs -dsimp only[ah,ai afl,vcS,↓vcQ,simprocAttr]
  rw[<-hA0] at kB htq
  exact afh ok hr hc pa kA (by omega) (by rw[hA0];exact bn hA2 _ (by omega)) (.inl ⟨oq,by rw[afB],by rw[hA0,afB];exact bn ho2 _ (by omega),by omega,by omega⟩) htq hB1 hB2 kB h
 | true=>
  simp -implicitDefEqProofs -dsimp only[ah,ai hb2,ha,o1,o2,o3,y1,y2,y3,↓ae1,vcS,↓vcQ,simprocAttr]
  rw[ha] at hb2
  refine af9 (bn ho2 _ (by omega)) (ok.alt ha) hr hc fun T3 p3 hp3 hA3 k3=>?_
  have hb3:=k3.at (bZ hb2 _) (by simp)
  have hz3:=k3.at (bn hz2 _ n1) (by simp)
  have hq3:=k3.at (bn hq2 _ (by omega)) (by simp)
  have agd:=k3.at (bn hA2 _ (by omega)) (by simp)
  have kk3:ax T T3 []:=(kk2.put (Dd.ge (Nat.le_refl _)) _).new k3 (by simp)
  have lk3:=k3.1
  simp only[List.length_set] at lk3 hp3
  have l4:=eI hA2
  have afB:(ae3 s r c).other=szG s.other s.rows s.aa r c:=if_pos ha
  have go3:(szG s.other s.rows s.aa r c).length=r*c:=(afn hr hc).len
  simp -implicitDefEqProofs -dsimp only[ah,ai hb3,o1,o2,o3,y1,y2,y3,↓ae1,vcS,↓vcQ,simprocAttr]
  obtain ⟨A,hA0⟩:∃A,A=T3.set T.length (some (.box [.int .i64 s.rows,.int .i64 s.aa,.own p2 0 (r*c),.int .i64 s.y,.int .i64 s.x,.bool s.wrap,.int .u16 s.attr,.int .i64 s.top,.int .i64 s.bot,.own tq 0 s.aP.length,.int .i64 s.sy,.int .i64 s.sx,.int .u16 s.eg,.bool s.auto,.bool s.shown,.bool true,.own p3 0 (r*c),.int .i64 s.oy,.int .i64 s.ox,.int .i64 m,.int .u8 pr,e1,e2,e3])):=⟨_,rfl⟩
  have kA:ax T A []:=by rw[hA0];exact kk3.put (Dd.ge (Nat.le_refl _)) _
  with_reducible refine afH (s:=s) (od:=.own p3 0 (r*c)) hr hc (by omega) (by omega) y1 y2 y3 rfl (by rw[ha];exact bZ hb3 _) (bn hq3 _ (by omega)) (bn hz3 _ n1) n1.symm (fun B tq2 htq hB1 hB2 kB hBz=>?_) (.inl rfl)
  have afl:=hBz
  unfold szB at afl
  have o1':DV.one (.own p3 0 (r*c))=true:=rfl
  simp -implicitDefEqProofs -dsimp only[ah,ai afl,vcS,↓vcQ,simprocAttr]
  rw[<-hA0] at kB htq
  exact afh ok hr hc pa kA (by omega) (by rw[hA0];exact bn agd _ (by omega)) (.inl ⟨p3,by rw[afB,go3],by rw[hA0,afB];exact bn hA3 _ (by omega),by omega,by omega⟩) htq hB1 hB2 kB h
def afu:RC:=(.seq (SR [MV 75 9,MV 76 2,BT 77 .lss 75 76] [1,2,3,6,8,9,77] (.cond (.t 77) .skip (.ext 0))) (.seq (.blk 1 (SR [MV 80 8,MV 81 9,MV 82 9,BI 83 .rem 82 8,BI 84 .eql 83 0,OP 85 (.aT 1 (.t 80) (.t 81)),SA 1 85 84] [1,2,3,6,8,9] (SR [MV 86 9,FA 87 9 3,LD 88 87,OP 89 (.len (.t 88)),BT 90 .lss 86 89] [1,2,3,6,8,9,90] (.cond (.t 90) (.reg [MV 91 8,MV 92 9,FA 93 9 3,LD 94 93,MV 95 9,OP 96 (.aT 1 (.t 94) (.t 95)),LD 97 96,OP 98 (.aT 1 (.t 91) (.t 92)),SA 1 98 97] 0 [1,2,3,6,8,9]) .skip)))) (.reg [MV 78 9,BI 79 .add 78 1,MV 9 79] 0 [1,2,3,6,8,9])))
def ae4:RC:=(SR [FA 37 3 3,LD 38 37,MV 39 1,BI 40 .sub 39 1,OP 41 (.mm false (.t 38) (.t 40)),FA 42 4 3,LD 43 42,MV 44 2,BI 45 .sub 44 1,OP 46 (.mm false (.t 43) (.t 45)),FA 47 10 3,LD 48 47,MV 49 1,BI 50 .sub 49 1,OP 51 (.mm false (.t 48) (.t 50)),FA 52 11 3,LD 53 52,MV 54 2,BI 55 .sub 54 1,OP 56 (.mm false (.t 53) (.t 55)),FA 57 17 3,LD 58 57,MV 59 1,BI 60 .sub 59 1,OP 61 (.mm false (.t 58) (.t 60)),FA 62 18 3,LD 63 62,MV 64 2,BI 65 .sub 64 1,OP 66 (.mm false (.t 63) (.t 65)),FA 67 3 3,SA 1 67 41,FA 68 4 3,SA 1 68 46,FA 69 10 3,SA 1 69 51,FA 70 11 3,SA 1 70 56,FA 71 17 3,SA 1 71 61,FA 72 18 3,SA 1 72 66] [1,2,3,6] (SR [MV 73 2,OP 74 (.fY 1 1 [.bool false] (.t 73) (.t 73)),MV 8 74] [1,2,3,6,8] (.seq (SR [OP 9 (.mov (.c (.int .i64 0)))] [1,2,3,6,8,9] (.blk 0 (.loop afu))) (SR [MV 99 1,MV 100 2,MV 101 1,BI 102 .sub 101 1,MV 103 8,FA 104 0 3,SA 1 104 99,FA 105 1 3,SA 1 105 100,FA 106 5 3,NP (.store 1 (.t 106) (.c (.bool false))),FA 107 7 3,NP (.store 1 (.t 107) (.c (.int .i64 0))),FA 108 8 3,SA 1 108 102,FA 109 9 3,SA 1 109 103] [3,6] (SR [LT 110 24 3,SA 24 6 110,OP 7 (.mov (.c (.int .i64 0)))] [6,7] .ret)))))
theorem ae0 (E:Prg)(F:dW)(n:Nat)(Q:Exit->St->Prop)(st:St):RC.wp E F n ae4 Q st=WpH E F n ae4 Q st:=ak _
def afc:RFn:=⟨3,111,(SR [OP 3 (.box 24 (.t 0)),OP 6 (.alloc ZS),OP 7 (.mov (.c (.int .i64 0)))] [1,2,3,6] (.seq (SR [MV 10 1,MV 11 2,OP 12 (.call 19 [.t 10,.t 11]),OP 13 (.jM false (.t 12) (.c (.sl 0 [] .nil)))] [1,2,3,6,13] (.cond (.t 13) (SR [OP 14 (.build [.int .i64 0,.int .i64 0,.sl 0 [] .nil,.int .i64 0,.int .i64 0,.bool false,.int .u16 0,.int .i64 0,.int .i64 0,.sl 0 [] .nil,.int .i64 0,.int .i64 0,.int .u16 0,.bool false,.bool false,.bool false,.sl 0 [] .nil,.int .i64 0,.int .i64 0,.int .i64 0,.int .u8 0,.sl 0 [] .nil,.sl 0 [] .nil,.sl 0 [] .nil] []),SA 24 6 14,OP 7 (.mov (.c (.int .i64 26)))] [6,7] .ret) .skip)) (SR [FA 15 2 3,LD 16 15,FA 17 0 3,LD 18 17,FA 19 1 3,LD 20 19,MV 21 1,MV 22 2,OP 23 (.call 42 [.t 16,.t 18,.t 20,.t 21,.t 22]),FA 24 2 3,SA 1 24 23] [1,2,3,6] (.seq (SR [FA 25 15 3,LD 26 25] [1,2,3,6,26] (.cond (.t 26) (.reg [FA 27 16 3,LD 28 27,FA 29 0 3,LD 30 29,FA 31 1 3,LD 32 31,MV 33 1,MV 34 2,OP 35 (.call 42 [.t 28,.t 30,.t 32,.t 33,.t 34]),FA 36 16 3,SA 1 36 35] 0 [1,2,3,6]) .skip)) ae4)))),[.c 6 true 24,.t 7]⟩
theorem aft:aK PG.P (aA PG.P 21 afc) 21=some afc:=by kernel_rfl
set_option maxHeartbeats 1000000 in
theorem afF {A:ay}{o z p z2:Nat}{k2:SK}{Q:Exit->St->Prop}(hr:1<=r/\r<=1000)(hc:1<=c/\c<=1000)(htl:s.aP.length<=1000)(hz2:z2=1)(hy:s.y<1000/\s.x<1000/\s.sy<1000/\s.sx<1000/\s.oy<1000/\s.ox<1000)
  (o1:DV.one d1=true) (o2:DV.one d2=true) (o3:DV.one d3=true) (aeW:DV.one od=true)
  (hb:A[o]?=some (some (.box [.int .i64 s.rows,.int .i64 s.aa,.own p 0 (r*c),.int .i64 s.y,.int .i64 s.x,.bool s.wrap,.int .u16 s.attr,.int .i64 s.top,.int .i64 s.bot,.sl z2 (bg s.aP) k2,.int .i64 s.sy,.int .i64 s.sx,.int .u16 s.eg,.bool s.auto,.bool s.shown,.bool s.alt,od,.int .i64 s.oy,.int .i64 s.ox,.int .i64 m,.int .u8 pr,d1,d2,d3])))
  (hz:A[z]?=some (some (.box lp))) (hoz:o≠z)
  (h:∀B tq,A.length<=tq->B[o]?=some (some (.box (szB s r c p tq 3 od m pr d1 d2 d3)))->B[tq]?=some (some (.arr 1 (bg (fj s.aP c c))))->ax A B [o,z]->B[z]?=some (some (.box (szB s r c p tq 3 od m pr d1 d2 d3)))->Q .ret ⟨[(6,.ptr z 0 0),(7,.int .i64 0)],B⟩) {X:List (Nat × DV)} (hX:X=[]\/∃d,X=[(26,d)]) :
  WpH PG (tab []) 111 ae4 Q ⟨(1,.int .i64 r)::(2,.int .i64 c)::(3,.ptr o 0 0)::(6,.ptr z 0 0)::X,A⟩:=by
 subst hz2
 have wr:IntKind.i64.wrap ((r:Int)-1)=((r-1:Nat):Int):=by rw[aO (by omega) (by omega)];omega
 have wc:IntKind.i64.wrap ((c:Int)-1)=((c-1:Nat):Int):=by rw[aO (by omega) (by omega)];omega
 have m2:∀x:Nat,min (x:Int) ((r-1:Nat):Int)=((min x (r-1):Nat):Int):=fun x=>by omega
 have aeS:∀x:Nat,min (x:Int) ((c-1:Nat):Int)=((min x (c-1):Nat):Int):=fun x=>by omega
 have n0:(0:Int)<=c:=by omega
 have hb1:(c:Int)*1<=140737488355328/\(c:Int)<=4611686018427387904:=by omega
 have lo:=eI hb
 have lz:=eI hz
 rcases hX with rfl | ⟨d26,rfl⟩
 all_goals
  unfold WpH ae4
  simp -implicitDefEqProofs -dsimp only[ah,ai hb,wr,wc,m2,aeS,n0,hb1,Int.le_refl,pR,o1,o2,o3,aeW,List.set_set,vcS,↓vcQ,simprocAttr]
  obtain ⟨Y,F0⟩:∃Y:ay,Y=A.set o (some (.box [.int .i64 s.rows,.int .i64 s.aa,.own p 0 (r*c),.int .i64 (min s.y (r-1):Nat),.int .i64 (min s.x (c-1):Nat),.bool s.wrap,.int .u16 s.attr,.int .i64 s.top,.int .i64 s.bot,.sl 1 (bg s.aP) k2,.int .i64 (min s.sy (r-1):Nat),.int .i64 (min s.sx (c-1):Nat),.int .u16 s.eg,.bool s.auto,.bool s.shown,.bool s.alt,od,.int .i64 (min s.oy (r-1):Nat),.int .i64 (min s.ox (c-1):Nat),.int .i64 m,.int .u8 pr,d1,d2,d3])):=⟨_,rfl⟩
  have hYo:Y[o]?=some (some (.box [.int .i64 s.rows,.int .i64 s.aa,.own p 0 (r*c),.int .i64 (min s.y (r-1):Nat),.int .i64 (min s.x (c-1):Nat),.bool s.wrap,.int .u16 s.attr,.int .i64 s.top,.int .i64 s.bot,.sl 1 (bg s.aP) k2,.int .i64 (min s.sy (r-1):Nat),.int .i64 (min s.sx (c-1):Nat),.int .u16 s.eg,.bool s.auto,.bool s.shown,.bool s.alt,od,.int .i64 (min s.oy (r-1):Nat),.int .i64 (min s.ox (c-1):Nat),.int .i64 m,.int .u8 pr,d1,d2,d3])):=by rw[F0];exact bZ hb _
  have hYz:Y[z]?=some (some (.box lp)):=by rw[F0];exact bn hz _ hoz.symm
  have aeR:Y.length=A.length:=by rw[F0];simp
  have aeO:ax A Y [o]:=by rw[F0];exact .set A o _
  rw[<-F0]
  refine bk.inv FOk.nil (S:=fun i:Nat=>⟨[(1,.int .i64 r),(2,.int .i64 c),(3,.ptr o 0 0),(6,.ptr z 0 0),(8,.own Y.length 0 c),(9,.int .i64 i)],Y++ [some (.arr 1 (bg (fj s.aP c i)))]⟩)
   (I:=fun i=>i<=c) (μ:=fun i=>c-i) 0 (Nat.zero_le _) ?_ ?_
  ·simp -implicitDefEqProofs -dsimp only[an,Q5,vcS,↓vcQ,simprocAttr]
  ·intro i hi
   unfold afu
   have hlen:=Ju s.aP c i
   have hno:o≠Y.length:=by omega
   rcases Nat.lt_or_ge i c with hlt | hge
   ·have hii:(i:Int)<c:=by omega
    have hi0:(0:Int)<=i:=by omega
    have hw1:IntKind.i64.wrap ((i:Int)+1)=((i+1:Nat):Int):=by rw[aO (by omega) (by omega)];omega
    have hm:decide ((i:Int).tmod 8=0)=decide (i % 8=0):=by
     rw[decide_eq_decide,Int.tmod_eq_emod_of_nonneg hi0];omega
    have hg:=fl (L:=fj s.aP c i) (i:=i) (by omega)
    have hs0:=jg (fj s.aP c i) i (decide (i % 8=0))
    have hg2:=fl (L:=(fj s.aP c i).set i (decide (i % 8=0))) (i:=i) (by simp;omega)
    by_cases YP:i<s.aP.length
    ·have Tp:(i:Int)<s.aP.length:=by omega
     have hgw:=fl YP
     have hs1:=jg ((fj s.aP c i).set i (decide (i % 8=0))) i (s.aP.getD i false)
     have bY:((fj s.aP c i).set i (decide (i % 8=0))).set i (s.aP.getD i false)=fj s.aP c (i+1):=by
      rw[List.set_set]
      exact xN hlt _ (by rw[if_pos YP])
     rw[bY] at hs1
     simp -implicitDefEqProofs -dsimp only[ah,fun l=>ai (hO hYo l),aY,hlen,hii,hi0,hw1,hm,hg,hg2,hs0,hs1,hgw,Tp,an,Nat.zero_add,List.length_set,vcS,↓vcQ,simprocAttr]
     exact ⟨i+1,⟨rfl,aH _⟩,hlt,by omega⟩
    ·have Tp:¬(i:Int)<s.aP.length:=by omega
     have bY:(fj s.aP c i).set i (decide (i % 8=0))=fj s.aP c (i+1):=xN hlt _ (by rw[if_neg YP])
     rw[bY] at hs0
     simp -implicitDefEqProofs -dsimp only[ah,fun l=>ai (hO hYo l),aY,hlen,hii,hi0,hw1,hm,hg,hs0,Tp,an,Nat.zero_add,vcS,↓vcQ,simprocAttr]
     exact ⟨i+1,⟨rfl,aH _⟩,hlt,by omega⟩
   ·have hii:¬(i:Int)<c:=by omega
    obtain rfl:i=c:=by omega
    have hZo:=hO hYo [some (.arr 1 (bg (fj s.aP i i)))]
    have hZz:=hO hYz [some (.arr 1 (bg (fj s.aP i i)))]
    simp -implicitDefEqProofs -dsimp only[ah,ai hZo,ai hZz,fun x=>ai (bn hZz x hoz.symm),fun x=>ai (bZ hZo x),hii,wr,o1,o2,o3,aeW,List.set_set,vcS,↓vcQ,simprocAttr]
    refine ⟨by decide,h _ Y.length (by omega) (bn (bZ hZo _) _ hoz) (bn (bn (aZ Y [] _) _ (by omega)) _ (by omega)) ?_ (bZ (bn hZz _ hoz.symm) _)⟩
    refine ⟨by simp;omega,fun j ob hj hh=>?_⟩
    simp only[List.mem_cons,List.not_mem_nil,or_false,not_or] at hj
    exact bn (bn (hO (aeO.2 j ob (by simp[hj.1]) hh) _) _ hj.1) _ hj.2
set_option maxHeartbeats 1000000 in
theorem age (ok:aR s)(hv:aJ s p v)(hr:1<=r/\r<=1000)(hc:1<=c/\c<=1000)
  (h:∀T' v',ax T T' []->aJ (ae3 s r c) p v'->K (.tup [v',.int .i64 0]) T'):aj PG 21 [v,.int .i64 r,.int .i64 c] T K:=by
 obtain ⟨z1,z2,z3,k1,kt,k3,m,pr,d1,d2,d3,sv,rfl⟩:=hv
 obtain ⟨o1,o2,o3⟩:=sv.pa.one
 have aeJ:=ok.g.r
 have gc:=ok.g.c
 have htl:=ok.aP
 have hy:=ok.y
 have hx:=ok.x
 have hsy:=ok.sy
 have hsx:=ok.sx
 have hoy:=ok.oy
 have hox:=ok.ox
 have hrc:0<r*c:=Nat.mul_pos (by omega) (by omega)
 unfold scD
 refine aj.fq FOk.nil aft (by simp[afc]) ?_
 unfold afc
 dsimp only
 simp -implicitDefEqProofs -dsimp only[ah,o1,o2,o3,vcS,↓vcQ,simprocAttr]
 refine FU hr hc fun T1 q0 hq0 hA0 k=>?_
 have hb0:=k.at (aZ T [_] (some (Ob.box _))) (by simp)
 have hz0:=k.at (bl T [_,some (Ob.box _)] 1) (by simp)
 have lk:=k.1
 simp only[List.length_append,List.length_cons,List.length_nil] at lk
 have n1:T.length+1≠T.length:=by omega
 simp -implicitDefEqProofs -dsimp only[ah,ai hb0,hrc,o1,o2,o3,↓ae0,vcS,↓vcQ,simprocAttr]
 have kk:ax T T1 []:=(ax.app T _ []).new k (by simp)
 refine af7 sv.z1 ok.g hr hc fun T2 p2 hp2 hA2 k2=>?_
 have hb2:=k2.at hb0 (by simp)
 have hz2:=k2.at hz0 (by simp)
 have kk2:ax T T2 []:=kk.new k2 (by simp)
 have lk2:=k2.1
 cases ha:s.alt with
 | false=>
  simp -implicitDefEqProofs -dsimp only[ah,ai hb2,ha,o1,o2,o3,↓ae0,vcS,↓vcQ,simprocAttr]
  rw[ha] at hb2
  obtain ⟨A,hA0⟩:∃A,A=T2.set T.length (some (.box [.int .i64 s.rows,.int .i64 s.aa,.own p2 0 (r*c),.int .i64 s.y,.int .i64 s.x,.bool s.wrap,.int .u16 s.attr,.int .i64 s.top,.int .i64 s.bot,.sl z2 (bg s.aP) kt,.int .i64 s.sy,.int .i64 s.sx,.int .u16 s.eg,.bool s.auto,.bool s.shown,.bool false,.sl z3 (aq s.other) k3,.int .i64 s.oy,.int .i64 s.ox,.int .i64 m,.int .u8 pr,d1,d2,d3])):=⟨_,rfl⟩
  have kA:ax T A []:=by rw[hA0];exact kk2.put (Dd.ge (Nat.le_refl _)) _
  with_reducible refine afF (s:=s) (od:=.sl z3 (aq s.other) k3) hr hc (by omega) sv.z2 (by omega) o1 o2 o3 rfl (by rw[ha];exact bZ hb2 _) (bn hz2 _ n1) n1.symm (fun B tq2 htq hB1 hB2 kB hBz=>?_) (.inr ⟨_,rfl⟩)
  have afl:=hBz
  unfold szB at afl
  simp -implicitDefEqProofs -dsimp only[ah,ai afl,vcS,↓vcQ,simprocAttr]
  rw[<-hA0] at kB htq
  refine afh ok hr hc sv.pa kA (by omega) (by rw[hA0];exact bn hA2 _ (by omega)) (.inr ⟨ha,z3,k3, ?_⟩) htq hB1 hB2 kB h
  rw[(ok.non ha).1,AV]
 | true=>
  have hz3:z3=3:=by
   rcases sv.z3 with e | e
   ·exact e
   ·have:=(ok.alt ha).lim.2;rw[e] at this;simp at this
  simp -implicitDefEqProofs -dsimp only[ah,ai hb2,ha,o1,o2,o3,↓ae0,vcS,↓vcQ,simprocAttr]
  rw[ha] at hb2
  refine af7 hz3 (ok.alt ha) hr hc fun T3 p3 hp3 hA3 k3=>?_
  have hb3:=k3.at (bZ hb2 _) (by simp)
  have hz3:=k3.at (bn hz2 _ n1) (by simp)
  have agd:=k3.at (bn hA2 _ (by omega)) (by simp)
  have kk3:ax T T3 []:=(kk2.put (Dd.ge (Nat.le_refl _)) _).new k3 (by simp)
  have lk3:=k3.1
  simp only[List.length_set] at lk3 hp3
  have l4:=eI hA2
  have afB:(ae3 s r c).other=szG s.other s.rows s.aa r c:=if_pos ha
  have go3:(szG s.other s.rows s.aa r c).length=r*c:=(afn hr hc).len
  simp -implicitDefEqProofs -dsimp only[ah,ai hb3,o1,o2,o3,↓ae0,vcS,↓vcQ,simprocAttr]
  obtain ⟨A,hA0⟩:∃A,A=T3.set T.length (some (.box [.int .i64 s.rows,.int .i64 s.aa,.own p2 0 (r*c),.int .i64 s.y,.int .i64 s.x,.bool s.wrap,.int .u16 s.attr,.int .i64 s.top,.int .i64 s.bot,.sl z2 (bg s.aP) kt,.int .i64 s.sy,.int .i64 s.sx,.int .u16 s.eg,.bool s.auto,.bool s.shown,.bool true,.own p3 0 (r*c),.int .i64 s.oy,.int .i64 s.ox,.int .i64 m,.int .u8 pr,d1,d2,d3])):=⟨_,rfl⟩
  have kA:ax T A []:=by rw[hA0];exact kk3.put (Dd.ge (Nat.le_refl _)) _
  with_reducible refine afF (s:=s) (od:=.own p3 0 (r*c)) hr hc (by omega) sv.z2 (by omega) o1 o2 o3 rfl (by rw[ha];exact bZ hb3 _) (bn hz3 _ n1) n1.symm (fun B tq2 htq hB1 hB2 kB hBz=>?_) (.inl rfl)
  have afl:=hBz
  unfold szB at afl
  simp -implicitDefEqProofs -dsimp only[ah,ai afl,vcS,↓vcQ,simprocAttr]
  rw[<-hA0] at kB htq
  exact afh ok hr hc sv.pa kA (by omega) (by rw[hA0];exact bn agd _ (by omega)) (.inl ⟨p3,by rw[afB,go3],by rw[hA0,afB];exact bn hA3 _ (by omega),by omega,by omega⟩) htq hB1 hB2 kB h
theorem afQ (h:∀T',ax T T' []->K (.bool true) T'):aj PG 15 [.agg lp,.agg lp] T K:=by
 have c1:As 0 ([]:List (List DV)):=⟨.inr rfl,⟨[],rfl⟩,by simp⟩
 have a1:aD .i64 (.sl 0 [] .nil):=fP _ _ _
 have a2:aD .u8 (.sl 0 [] .nil):=fP _ _ _
 have f1:aG (.sl 0 [] .nil)=[]:=rfl
 unfold lp
 refine aj.aE Vs Gw (by simp[uG]) ?_
 unfold uG
 dsimp only
 simp -implicitDefEqProofs (maxSteps:=1000000) only[ah,adJ,adI,IY,PS,c1,a1,a2,f1,vcS,↓vcQ,simprocAttr]
 obtain ⟨X,FY⟩:∃X:ay,X=T++ [some (.box lp),some (.box lp)]:=⟨_,rfl⟩
 have a:X[T.length]?=some (some (.box lp)):=by rw[FY];exact aZ _ _ _
 have b:X[T.length+1]?=some (some (.box lp)):=by rw[FY];exact bl _ _ 1
 have kX:ax T X []:=by rw[FY];exact ax.app _ _ _
 unfold lp at FY a b
 rw[<-FY]
 refine bk.inv Vs (S:=fun i:Nat=>⟨[(2,.ptr T.length 0 0),(3,.ptr (T.length+1) 0 0),(5,.int .i64 0)],X⟩) (I:=fun i=>True) (μ:=fun i=>i) 0 trivial ?_ ?_
 ·simp -implicitDefEqProofs -dsimp only[an,vcS,↓vcQ,simprocAttr]
 ·intro i _
  unfold xP
  simp -implicitDefEqProofs -dsimp only[ah,ai a,ai b,vcS,↓vcQ,simprocAttr]
  exact ⟨kX.1,h _ kX⟩
theorem agb {r c:Int}(hv:aJ s p v)(hn:¬(1<=r/\r<=1000/\1<=c/\c<=1000))(h:∀T',ax T T' []->K (.tup [.agg lp,.int .i64 26]) T'):aj PG 20 [v,.int .i64 r,.int .i64 c] T K:=by
 obtain ⟨z1,z2,z3,k1,k2,k3,m,pr,d1,d2,d3,sv,rfl⟩:=hv
 obtain ⟨o1,o2,o3⟩:=sv.pa.one
 unfold scD
 refine aj.aE FOk.nil afv (by simp[afd]) ?_
 unfold afd
 dsimp only
 simp -implicitDefEqProofs -dsimp only[ah,o1,o2,o3,↓ae1,vcS,↓vcQ,simprocAttr]
 exact ⟨fun _=>h _ (ax.app _ _ _),fun h1=>⟨fun _=>h _ (ax.app _ _ _),fun h2=>⟨fun _=>h _ (ax.app _ _ _),fun h3=>⟨fun _=>h _ (ax.app _ _ _),fun h4=>absurd ⟨by omega,by omega,by omega,by omega⟩ hn⟩⟩⟩⟩
theorem afm {r c:Int}(hn:¬(1<=r/\r<=1000/\1<=c/\c<=1000))(h:∀T',ax T T' []->K (.sl 0 [] .nil) T'):aj PG 19 [.int .i64 r,.int .i64 c] T K:=by
 refine aj.aE FOk.nil Ei (by simp[rQ]) ?_
 unfold rQ
 dsimp only
 simp -implicitDefEqProofs -dsimp only[ah,vcS,↓vcQ,simprocAttr]
 exact ⟨fun _=>h _ (.refl _ _),fun h1=>⟨fun _=>h _ (.refl _ _),fun h2=>⟨fun _=>h _ (.refl _ _),fun h3=>⟨fun _=>h _ (.refl _ _),fun h4=>absurd ⟨by omega,by omega,by omega,by omega⟩ hn⟩⟩⟩⟩
theorem aga {r c:Int}(hv:aJ s p v)(hn:¬(1<=r/\r<=1000/\1<=c/\c<=1000))(h:∀T',ax T T' []->K (.tup [.agg lp,.int .i64 26]) T'):aj PG 21 [v,.int .i64 r,.int .i64 c] T K:=by
 obtain ⟨z1,z2,z3,k1,k2,k3,m,pr,d1,d2,d3,sv,rfl⟩:=hv
 obtain ⟨o1,o2,o3⟩:=sv.pa.one
 unfold scD
 refine aj.aE FOk.nil aft (by simp[afc]) ?_
 unfold afc
 dsimp only
 simp -implicitDefEqProofs -dsimp only[ah,o1,o2,o3,↓ae0,vcS,↓vcQ,simprocAttr]
 refine afm hn fun T1 k1=>?_
 have hz0:=k1.at (bl T [_,some (Ob.box _)] 1) (by simp)
 simp -implicitDefEqProofs -dsimp only[ah,ai hz0,o1,o2,o3,↓ae0,vcS,↓vcQ,simprocAttr]
 have l1:=k1.1
 simp only[List.length_append,List.length_cons,List.length_nil] at l1
 exact ⟨by simp;omega,h _ (((ax.app T _ []).new k1 (by simp)).put (Dd.ge (by omega)) _)⟩
theorem afZ {r c:Int}(hn:¬(1<=r/\r<=1000/\1<=c/\c<=1000))(h:∀T',ax T T' []->K (.tup [.agg lp,.int .i64 26]) T'):aj PG 22 [.int .i64 r,.int .i64 c] T K:=by
 refine aj.aE FOk.nil JT (by simp[yY]) ?_
 unfold yY
 dsimp only
 simp -implicitDefEqProofs -dsimp only[ah,vcS,↓vcQ,simprocAttr]
 refine afm hn fun T1 k1=>?_
 have hz0:=k1.at (aZ T [] (some (Ob.box _))) (by simp)
 simp -implicitDefEqProofs -dsimp only[ah,ai hz0,vcS,↓vcQ,simprocAttr]
 have l1:=k1.1
 simp only[List.length_append,List.length_cons,List.length_nil] at l1
 exact ⟨by simp;omega,h _ (((ax.app T _ []).new k1 (by simp)).put (Dd.ge (by omega)) _)⟩
theorem afW {sz:Nat}{y:Int}{k:SK}(g:bU L rows aa)(hy:y<0\/(rows:Int)<=y)(h:K (.sl 0 [] .nil) T):aj PG 44 [.sl sz (aq L) k,.int .i64 aa,.int .i64 y] T K:=by
 have hl:=g.lim
 refine aj.aE Mz z9 (by simp[su]) ?_
 unfold su
 dsimp only
 rcases hy with hy | hy
 ·simp -implicitDefEqProofs -dsimp only[ZU,LI,az,nP g,hl.1,hy,ah,vcS,↓vcQ,simprocAttr]
  exact h
 ·have hy0:¬y<0:=by omega
  simp -implicitDefEqProofs -dsimp only[ZU,LI,az,nP g,hl.1,hy,hy0,ah,vcS,↓vcQ,simprocAttr]
  exact h
theorem af0 {y:Int}(ok:aR s)(hv:aJ s p v)(hy:y<0\/(s.rows:Int)<=y)(h:∀T' q,ax T T' []->K (.own q 0 0) T'):aj PG 23 [v,.int .i64 y] T K:=by
 obtain ⟨z1,z2,z3,k1,k2,k3,m,pr,d1,d2,d3,sv,rfl⟩:=hv
 obtain ⟨o1,o2,o3⟩:=sv.pa.one
 unfold scD
 refine aj.aE Mz JZ (by simp[y8]) ?_
 unfold y8
 dsimp only
 simp -implicitDefEqProofs -dsimp only[ah,Vz,o1,o2,o3,vcS,↓vcQ,simprocAttr]
 refine afW ok.g hy ?_
 have c0:As 0 ([]:List (List DV)):=⟨.inr rfl,⟨[],rfl⟩,by simp⟩
 simp -implicitDefEqProofs -dsimp only[ah,acg,mV,c0,o1,o2,o3,List.length_nil,vcS,↓vcQ,simprocAttr]
 exact h _ _ (ax.app _ _ _)
theorem af1 (ok:aR s)(hv:aJ s p v)(hy:y<s.rows)(h:∀T',ax T T' []->K (.sl 3 (aq (cM s.cells s.aa y)) .any) T'):aj PG 23 [v,.int .i64 y] T K:=by
 obtain ⟨z1,z2,z3,k1,k2,k3,m,pr,d1,d2,d3,sv,rfl⟩:=hv
 obtain ⟨o1,o2,o3⟩:=sv.pa.one
 have hl:=ok.g.lim
 have rl:=bG ok.g hy
 have hc:=ok.g.c
 have cC:As z1 (aq (cM s.cells s.aa y)):=sI (.inl sv.z1) (by omega)
 unfold scD
 refine aj.fq Mz JZ (by simp[y8]) ?_
 unfold y8
 dsimp only
 simp -implicitDefEqProofs -dsimp only[ah,Vz,o1,o2,o3,vcS,↓vcQ,simprocAttr]
 refine Y1 sv.z1 ok.g hy fun k'=>?_
 simp -implicitDefEqProofs -dsimp only[ah,acg,mV,cC,az,rl,o1,o2,o3,vcS,↓vcQ,simprocAttr]
 exact (OR (q:=T.length+1) (bl T [some (Ob.box _),some (Ob.arr 3 (aq (cM s.cells s.aa y)))] 1) rl.symm (ax.app _ _ _) (by omega) h).2
end
end Go.Proofs.YtjmnbpilnneonaaGreatDoor
