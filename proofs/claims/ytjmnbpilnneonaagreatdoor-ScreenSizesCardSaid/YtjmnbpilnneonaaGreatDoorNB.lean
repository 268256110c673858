/- Texts H20, H21, R1, R2, R3 in one. -/
import Derived.Test.YtjmnbpilnneonaaGreatDoorNA
import Derived.Test.YtjmnbpilnneonaaGreatDoorN1
import Derived.Test.YtjmnbpilnneonaaGreatDoorN9
set_option linter.unusedVariables false
set_option linter.unusedSimpArgs false
set_option maxRecDepth 10000
namespace Go.Proofs.YtjmnbpilnneonaaGreatDoor
open Go.RowKit
noncomputable section
variable {T T0:ay}{K:DV->ay->Prop}{L M:List Ce}{sz rows aa q a b:Nat}{k:SK}
def sr:RFn:=⟨2,27,(SR [OP 4 (.mov (.c (.int .i64 0)))] [0,1] (.seq (SR [MV 5 1,OP 6 (.call 76 [.t 5]),OP 7 (.un .not (.t 6)),MV 8 7,MG 9 0 8 false,OG 10 (.len (.t 9)) 8 false,MG 11 1 8 false,OG 12 (.bin .rem (.t 10) (.t 11)) 8 false,OG 13 (.bin .neq (.t 12) (.c (.int .i64 0))) 8 false,OP 14 (.pick (.t 8) (.c (.bool true)) (.t 13)),MV 15 14,MG 16 0 15 false,OG 17 (.len (.t 16)) 15 false,MG 18 1 15 false,OG 19 (.bin .quo (.t 17) (.t 18)) 15 false,OG 20 (.call 76 [.t 19]) 15 false,OG 21 (.un .not (.t 20)) 15 false,OP 22 (.pick (.t 15) (.c (.bool true)) (.t 21))] [0,1,22] (.cond (.t 22) (SR [OP 4 (.mov (.c (.int .i64 0)))] [4] .ret) .skip)) (SR [MV 23 0,OP 24 (.len (.t 23)),MV 25 1,BT 26 .quo 24 25,MV 4 26] [4] .ret))),[.t 4]⟩
theorem EG:aK PG.P (aA PG.P 80 sr) 80=some sr:=by kernel_rfl
theorem TG {jQ:Nat}{k_l:SK}{l:List (List DV)}{c:Int}(hp:l.length<=1000000) :
  av PG 80 [.sl jQ l k_l,.int .i64 c] fun n RR OO=>RR=(((.int .i64 (jE l.length c),[])):DV × ay).1/\OO=(((.int .i64 (jE l.length c),[])):DV × ay).2:=by
 refine av.di (res:=fun n=>((.int .i64 (jE l.length c),[]))) Lm EG (by simp[sr]) fun n=>?_
 unfold sr
 dsimp only
 unfold jE
 cases hs:jV c with
 | false=>
  have h1:=yV hs
  simp -implicitDefEqProofs -dsimp only[yy,hs,vcS,↓vcQ,simprocAttr]
  rw[if_neg (by omega)]
 | true=>
  have h1:=yU hs
  have hc:¬c=0:=by omega
  have hc1:¬c= -1:=by omega
  have hd0:0<=(l.length:Int).tdiv c:=Int.tdiv_nonneg (by omega) (by omega)
  have hd1:(l.length:Int).tdiv c<=l.length:=Int.tdiv_le_self _ (by omega)
  have hw:IntKind.i64.wrap ((l.length:Int).tdiv c)=(l.length:Int).tdiv c:=aO (by omega) (by omega)
  by_cases hm:(l.length:Int).tmod c=0
  ·cases hq:jV ((l.length:Int).tdiv c) with
   | false=>
    have h2:=yV hq
    simp -implicitDefEqProofs -dsimp only[yy,hs,hc,hc1,hm,hw,hq,vcS,↓vcQ,simprocAttr]
    rw[if_neg (by omega)]
   | true=>
    have h2:=yU hq
    simp -implicitDefEqProofs -dsimp only[yy,hs,hc,hc1,hm,hw,hq,vcS,↓vcQ,simprocAttr]
    rw[if_pos (by omega)]
  ·simp -implicitDefEqProofs -dsimp only[yy,hs,hc,hc1,hm,vcS,↓vcQ,simprocAttr]
   try rw[if_neg (by omega)]
def q8:List DV->Option aS
 | [.sl jQ l k_l,.int .i64 c]=>some ⟨l.length<=1000000,fun n=>((.int .i64 (jE l.length c),[]))⟩
 | _=>none
theorem LI (jQ:Nat)(l:List (List DV))(k_l:SK)(c:Int):q8 [.sl jQ l k_l,.int .i64 c]=some ⟨l.length<=1000000,fun n=>((.int .i64 (jE l.length c),[]))⟩:=ak _
theorem OJ (args:List DV)(s:aS)(hs:q8 args=some s)(hp:s.pre):av PG 80 args fun n r os=>r=(s.res n).1/\os=(s.res n).2:=by
 unfold q8 at hs
 split at hs
 ·rename_i jQ l k_l c
  obtain rfl:=sj hs
  have this:=TG (jQ:=jQ) (k_l:=k_l) (c:=c) hp
  exact this
 ·cases hs
def ZV:FL:=(80,.o q8)::Ca
theorem Mz:FOk PG (tab ZV):=FOk.cons zp OJ
theorem ZU (args:List DV):tab ZV 80 args=(q8 args).map .o:=ak _
theorem acg (args:List DV):tab ZV 43 args=(oJ args).map .o:=ak _
theorem Vz (args:List DV):tab ZV 44 args=none:=ak _
theorem Y1 {y:Nat}(hz:sz=3)(g:bU L rows aa)(hy:y<rows)(h:∀k',K (.sl sz (aq (cM L aa y)) k') T):aj PG 44 [.sl sz (aq L) k,.int .i64 aa,.int .i64 y] T K:=by
 have h1:=g.r
 have h2:=g.c
 have hm:rows*aa<=1000*1000:=Nat.mul_le_mul h1.2 h2.2
 have hl:=g.lim
 have hgl:=g.len
 have hrow:=cY (aa:=aa) hy
 have qI:=bx y aa
 have hp:(y:Int)*aa=((y*aa:Nat):Int):=by simp
 have hp1:((y:Int)+1)*aa=(((y+1)*aa:Nat):Int):=by simp
 have hw1:IntKind.i64.wrap ((y:Int)+1)=(y:Int)+1:=aO (by omega) (by omega)
 have hw2:IntKind.i64.wrap ((y:Int)*aa)=((y*aa:Nat):Int):=by rw[hp];exact aO (by omega) (by omega)
 have hw3:IntKind.i64.wrap (((y:Int)+1)*aa)=(((y+1)*aa:Nat):Int):=by rw[hp1];exact aO (by omega) (by omega)
 have hy0:¬(y:Int)<0:=by omega
 have hy1:¬(rows:Int)<=y:=by omega
 refine aj.aE Mz z9 (by simp[su]) ?_
 unfold su
 dsimp only
 simp -implicitDefEqProofs -dsimp only[ZU,LI,az,nP g,hl.1,hy0,hy1,hw1,hw2,hw3,vcS,↓vcQ,simprocAttr]
 have e:(y+1)*aa-y*aa=aa:=by omega
 rw[e,jx,jw]
 exact ⟨by omega,by omega,⟨by omega,by omega,.inl hz⟩,h k⟩
theorem aaJ {s:Sc}{p:Pa}{v:DV}{y:Nat}(ok:aR s)(hv:aJ s p v)(hy:y<s.rows)(h:∀T' q,T.length<=q->T'[q]?=some (some (.arr 3 (aq (cM s.cells s.aa y))))->ax T T' []->K (.own q 0 s.aa) T'):aj PG 23 [v,.int .i64 y] T K:=by
 obtain ⟨z1,z2,z3,k1,k2,k3,m,pr,d1,d2,d3,sv,rfl⟩:=hv
 have o1:DV.one d1=true:=by obtain ⟨a,b,e,_⟩:=aC sv.pa.i1;rw[e];rfl
 have o2:DV.one d2=true:=by obtain ⟨a,b,e,_⟩:=aC sv.pa.i2;rw[e];rfl
 have o3:DV.one d3=true:=by obtain ⟨a,b,e,_⟩:=aC sv.pa.i3;rw[e];rfl
 have hl:=ok.g.lim
 have rl:=bG ok.g hy
 have hc:=ok.g.c
 have cC:As z1 (aq (cM s.cells s.aa y)):=sI (.inl sv.z1) (by omega)
 unfold scD
 refine aj.aE Mz JZ (by simp[y8]) ?_
 unfold y8
 dsimp only
 simp -implicitDefEqProofs -dsimp only[ah,Vz,o1,o2,o3,vcS,↓vcQ,simprocAttr]
 refine Y1 sv.z1 ok.g hy fun k'=>?_
 simp -implicitDefEqProofs -dsimp only[ah,acg,mV,cC,az,rl,o1,o2,o3,vcS,↓vcQ,simprocAttr]
 exact h _ (T.length+1) (by omega) (bl _ _ 1) (ax.app _ _ _)
theorem eK.acP {rows:List (List DV)}{cs:List DV}{k:IntKind}{x:Int}(h:T[q]?=some (some (.arr sz rows))):eK ⟨[(0,.tup [.agg cs,.int k x])],T⟩ ⟨[(0,.tup [.agg (cs.map (DV.iA q sz rows)),.int k x])],T.set q none⟩:=by
 refine .frz q sz rows ⟨h,fun t=>?_,by simp,fun k ob' hk=>?_⟩ (.refl _)
 ·rw[jt,jt]
  split
  ·exact .inr rfl
  ·exact .inl rfl
 ·rw[getElem?_set] at hk
  by_cases e:q=k
  ·rw[if_pos e] at hk;split at hk <;> simp at hk
  ·rw[if_neg e] at hk;exact ⟨fun e'=>e e'.symm,ob',hk,B3.refl (fr0.refl _ _ _) _⟩
theorem eK.scT {o tq:Nat}{s:Sc}{p:Pa}{m pr:Int}{d1 d2 d3:DV}{n:IntKind}{x:Int}(k0:ax T0 T [])(pa:xH p m pr d1 d2 d3)(t:jT T0 T o q tq s (.sl 0 [] .nil) m pr d1 d2 d3)(ok:aR s) :
  ∃v T',eK ⟨[(0,.tup [.agg (aN s q tq (.sl 0 [] .nil) m pr d1 d2 d3),.int n x])],T⟩ ⟨[(0,.tup [v,.int n x])],T'⟩/\aJ s p v/\ax T0 T' []/\T'.length=T.length:=by
 have h1:=eK.acP (cs:=aN s q tq (.sl 0 [] .nil) m pr d1 d2 d3) (k:=n) (x:=x) t.cells
 have h2:=eK.acP (cs:=(aN s q tq (.sl 0 [] .nil) m pr d1 d2 d3).map (DV.iA q 3 (aq s.cells))) (k:=n) (x:=x) (bn t.aP none t.qt.symm)
 have k2:ax T0 ((T.set q none).set tq none) []:=(k0.put t.nq none).put t.nt none
 have ha:s.alt=false:=by
  rcases t.oth with ⟨oq,e,_⟩ | ⟨h,_⟩
  ·cases e
  ·exact h
 refine ⟨_,_,h1.trans h2,⟨3,1,0,.any,.any,.nil,m,pr,d1,d2,d3,⟨rfl,rfl,.inr (ok.non ha).1,pa⟩, ?_⟩,k2,by simp⟩
 simp only[aN,scD,List.map_cons,List.map_nil,vV q 3 _ _ (az s.cells).symm,TK _ t.qt.symm,TJ,vV tq 1 _ _ (aY s.aP).symm,gT pa.i1,gT pa.i2,gT pa.i3,(ok.non ha).1,AV,HL,AF]
theorem L1 {r c:Nat}(hr:1<=r/\r<=1000)(hc:1<=c/\c<=1000)(h:∀T' v,ax T T' []->aJ (newF r c) (pa0 0) v->K (.tup [v,.int .i64 0]) T'):aj PG 16 [.int .i64 r,.int .i64 c] T K:=by
 refine aj.fq FOk.nil qz (by simp[kO]) ?_
 unfold kO
 dsimp only
 have r1:¬(r:Int)<1:=by omega
 have r2:¬(1000:Int)<r:=by omega
 have c1:¬(c:Int)<1:=by omega
 have c2:¬(1000:Int)<c:=by omega
 simp -implicitDefEqProofs -dsimp only[ah,r1,r2,c1,c2,vcS,↓vcQ,simprocAttr]
 refine AE hr hc fun T1 q hq hA k1=>?_
 have w1:IntKind.i64.wrap ((r:Int)-1)=((r-1:Nat):Int):=by rw[aO (by omega) (by omega)];omega
 have hb:=k1.at (aZ T [] (some (Ob.box _))) (by simp)
 simp -implicitDefEqProofs -dsimp only[ah,r1,r2,c1,c2,w1,vcS,↓vcQ,simprocAttr]
 refine L0 (was:=[]) (.inr rfl) hc fun T2 tq htq hB k2=>?_
 simp -implicitDefEqProofs -dsimp only[ah,r1,r2,c1,c2,w1,ai (k2.at hb (by simp)),vcS,↓vcQ,simprocAttr]
 have l1:=k1.1
 have l2:=k2.1
 simp only[List.length_append,List.length_cons,List.length_nil] at l1 hq
 have kk:ax T T2 []:=((ax.app T _ []).new k1 (by simp)).new k2 (by simp)
 have e:BU r c q tq=.agg [.int .i64 r,.int .i64 c,.own q 0 (r*c),.int .i64 0,.int .i64 0,.bool false,.int .u16 0,.int .i64 0,.int .i64 ((r-1:Nat):Int),.own tq 0 c,.int .i64 0,.int .i64 0,.int .u16 0,.bool true,.bool true,.bool false,.sl 0 [] .nil,.int .i64 0,.int .i64 0,.int .i64 0,.int .u8 0,.sl 0 [] .nil,.sl 0 [] .nil,.sl 0 [] .nil]:=by
  simp[BU,aN,newF,dV,rE]
 have lq:=eI hA
 have tz:jT T (T2.set T.length (some (.box (aN (newF r c) q tq (.sl 0 [] .nil) 0 0 (.sl 0 [] .nil) (.sl 0 [] .nil) (.sl 0 [] .nil))))) T.length q tq (newF r c) (.sl 0 [] .nil) 0 0 (.sl 0 [] .nil) (.sl 0 [] .nil) (.sl 0 [] .nil):=
  ⟨bZ (k2.at hb (by simp)) _,bn (k2.at hA (by simp)) _ (by omega),by rw[zF] at hB;exact bn hB _ (by omega),.inr ⟨rfl,0,.nil,rfl⟩,by omega,by omega,by omega,Dd.ge (Nat.le_refl _),Dd.ge (by omega),Dd.ge (by omega)⟩
 have pz:xH (pa0 0) 0 0 (.sl 0 [] .nil) (.sl 0 [] .nil) (.sl 0 [] .nil):={ m:=rfl,pr:=rfl,i1:=fP _ _ _,i2:=fP _ _ _,i3:=fP _ _ _,e1:=rfl,e2:=rfl,e3:=rfl}
 have e2:aN (newF r c) q tq (.sl 0 [] .nil) 0 0 (.sl 0 [] .nil) (.sl 0 [] .nil) (.sl 0 [] .nil)=_:=DV.agg.inj e
 obtain ⟨v',T',hF,hv,kT,hl⟩:=eK.scT (n:=.i64) (x:=0) (kk.put (Dd.ge (Nat.le_refl _)) _) pz tz (vH hr hc)
 refine ⟨by simp;omega,.tup [v',.int .i64 0],T', ?_,h T' v' kT hv⟩
 rw[e2] at hF
 exact hF
def so:RFn:=⟨0,70,(SR [MB 0 false] [] (SR [OP 7 (.call 16 [.c (.int .i64 3),.c (.int .i64 4)]),MV 6 7,OP 8 (.ext (.t 6) 0),OP 9 (.ext (.t 6) 1),OP 1 (.alloc ZS),SA 24 1 8,MV 2 9] [1,2] (SR [OP 11 (.call 16 [.c (.int .i64 0),.c (.int .i64 4)]),MV 10 11,OP 12 (.ext (.t 10) 0),OP 13 (.ext (.t 10) 1),OP 3 (.alloc ZS),SA 24 3 12,MV 4 13] [1,2,4] (.seq (SR [MV 14 2,BI 15 .neq 14 0,MV 16 15,FG 17 2 1 16 false,LG 18 17 16 false,OG 19 (.len (.t 18)) 16 false,OG 20 (.bin .neq (.t 19) (.c (.int .i64 12))) 16 false,OP 21 (.pick (.t 16) (.c (.bool true)) (.t 20))] [1,4,21] (.cond (.t 21) (SR [MB 0 false] [0] .ret) .skip)) (SR [LT 22 24 1,OP 23 (.bK 1 [.int .u8 0] 4 [(0,(.c (.int .u8 97))),(1,(.c (.int .u8 13))),(2,(.c (.int .u8 10))),(3,(.c (.int .u8 98)))]),⟨some 24,.conv .lit (.t 23),none,true⟩,OP 25 (.call 13 [.t 22,.t 24]),OP 5 (.alloc ZS),SA 24 5 25] [4,5] (SR [MV 26 4,BI 27 .eql 26 26,MV 28 27,FG 29 2 5 28 true,LG 30 29 28 true,OG 31 (.len (.t 30)) 28 true,OG 32 (.bin .eql (.t 31) (.c (.int .i64 12))) 28 true,OP 33 (.pick (.t 28) (.t 32) (.c (.bool false))),MV 34 33,FG 35 2 5 34 true,LG 36 35 34 true,OG 37 (.aT 3 (.t 36) (.c (.int .i64 0))) 34 true,FG 38 0 37 34 true,LG 39 38 34 true,OG 40 (.bin .eql (.t 39) (.c (.int .i32 97))) 34 true,OP 41 (.pick (.t 34) (.t 40) (.c (.bool false))),MV 42 41,FG 43 2 5 42 true,LG 44 43 42 true,OG 45 (.aT 3 (.t 44) (.c (.int .i64 4))) 42 true,FG 46 0 45 42 true,LG 47 46 42 true,OG 48 (.bin .eql (.t 47) (.c (.int .i32 98))) 42 true,OP 49 (.pick (.t 42) (.t 48) (.c (.bool false))),MV 50 49,FG 51 3 5 50 true,LG 52 51 50 true,OG 53 (.bin .eql (.t 52) (.c (.int .i64 1))) 50 true,OP 54 (.pick (.t 50) (.t 53) (.c (.bool false))),MV 55 54,FG 56 4 5 55 true,LG 57 56 55 true,OG 58 (.bin .eql (.t 57) (.c (.int .i64 1))) 55 true,OP 59 (.pick (.t 55) (.t 58) (.c (.bool false))),MV 60 59,OG 61 (.load true 24 (.t 5)) 60 true,OG 62 (.call 10 [.t 61]) 60 true,OP 63 (.pick (.t 60) (.t 62) (.c (.bool false))),MV 64 63,OG 65 (.load true 24 (.t 5)) 64 true,OG 66 (.call 23 [.t 65,.c (.int .i64 1)]) 64 true,OG 67 (.len (.t 66)) 64 true,OG 68 (.bin .eql (.t 67) (.c (.int .i64 4))) 64 true,OP 69 (.pick (.t 64) (.t 68) (.c (.bool false))),MV 0 69] [0] .ret)))))),[.t 0]⟩
theorem ED:aK PG.P (aA PG.P 8 so) 8=some so:=by kernel_rfl
instance (c:Ce):Decidable (qg c):=by unfold qg;infer_instance
def x0K:Sc × Pa:=[97,13,10,98].foldl eJ (newF 3 4,pa0 0)
theorem Z3:x0K.1.cells.length=12/\x0K.1.cells.getD 0 aM=⟨97,0,0⟩/\x0K.1.cells.getD 4 aM=⟨98,0,0⟩/\x0K.1.y=1/\x0K.1.x=1/\x0K.1.rows=3/\x0K.1.aa=4/\x0K.1.wrap=false/\x0K.1.alt=false:=by decide +kernel
theorem acI:(∀c∈x0K.1.cells,qg c)/\x0K.1.other=[]/\pO x0K.1.cells 3 4=true/\x0K.1.alt=false/\atB x0K.1.attr=true/\atB x0K.1.eg=true/\cF x0K.2=true:=by decide +kernel
theorem acH:ScR x0K.1 x0K.2:=by
 obtain ⟨a1,a2,a3,a4,a5,a6,a7⟩:=acI
 obtain ⟨b1,b2,b3,b4,b5,b6,b7,b8,b9⟩:=Z3
 refine { ci:=a1,oi:=?_,cb:=?_,ob:=?_,ab:=a5,sb:=a6,pb:=a7}
 ·rw[a2];intro c hc;cases hc
 ·rw[b6,b7];exact a3
 ·intro h;rw[a4] at h;cases h
theorem vM (h:∀T',ax T T' []->K (.bool true) T'):aj PG 8 [] T K:=by
 have ok0:aR (newF 3 4):=vH (by decide) (by decide)
 have l0:((newF 3 4).cells.length:Int)=12:=by decide
 refine aj.aE FOk.nil ED (by simp[so]) ?_
 unfold so
 dsimp only
 simp -implicitDefEqProofs -dsimp only[ah,vcS,↓vcQ,simprocAttr]
 refine L1 (r:=3) (c:=4) (by decide) (by decide) fun T1 v k1 hv=>?_
 have hv':=hv
 obtain ⟨z1,z2,z3,j1,j2,j3,m,pr,d1,d2,d3,sv,rfl⟩:=hv
 have o1:DV.one d1=true:=by obtain ⟨a,b,e,_⟩:=aC sv.pa.i1;rw[e];rfl
 have o2:DV.one d2=true:=by obtain ⟨a,b,e,_⟩:=aC sv.pa.i2;rw[e];rfl
 have o3:DV.one d3=true:=by obtain ⟨a,b,e,_⟩:=aC sv.pa.i3;rw[e];rfl
 generalize hs0:newF 3 4=s0 at *
 unfold scD at hv' ⊢
 simp -implicitDefEqProofs -dsimp only[ah,o1,o2,o3,vcS,↓vcQ,simprocAttr]
 refine Rh (r:=0) (c:=4) (by decide) fun T2 k2=>?_
 have hb1:=k2.at (aZ T1 [] (some (Ob.box _))) (by simp)
 simp -implicitDefEqProofs -dsimp only[ah,ai hb1,o1,o2,o3,az,l0,fun q sz rows=>gT (q:=q) (sz:=sz) (rows:=rows) sv.pa.i1,fun q sz rows=>gT (q:=q) (sz:=sz) (rows:=rows) sv.pa.i2,fun q sz rows=>gT (q:=q) (sz:=sz) (rows:=rows) sv.pa.i3,vcS,↓vcQ,simprocAttr]
 subst hs0
 refine L3 (l:=[97,13,10,98]) ok0 (mE 0) hv' (.inl rfl) (lG (by simp) (by decide)) (by simp) fun T3 w k3 hw=>?_
 change aJ x0K.1 x0K.2 w at hw
 have fo:=E5 (l:=[97,13,10,98]) (x:=(newF 3 4,pa0 0)) ok0 (mE 0) (by decide)
 change aR x0K.1/\cS x0K.2 at fo
 have R:=acH
 obtain ⟨b1,b2,b3,b4,b5,b6,b7,b8,b9⟩:=Z3
 obtain ⟨ok1,pk1⟩:=fo
 have g0:=bf (L:=x0K.1.cells) (i:=0) (by omega)
 have g4:=bf (L:=x0K.1.cells) (i:=4) (by omega)
 rw[b2] at g0
 rw[b3] at g4
 generalize x0K.1=s1 at *
 generalize x0K.2=p1 at *
 have hw':=hw
 obtain ⟨z1,z2,z3,j1,j2,j3,m,pr,d1,d2,d3,sv1,rfl⟩:=hw
 have o1:DV.one d1=true:=by obtain ⟨a,b,e,_⟩:=aC sv1.pa.i1;rw[e];rfl
 have o2:DV.one d2=true:=by obtain ⟨a,b,e,_⟩:=aC sv1.pa.i2;rw[e];rfl
 have o3:DV.one d3=true:=by obtain ⟨a,b,e,_⟩:=aC sv1.pa.i3;rw[e];rfl
 have z13:=sv1.z1
 subst z13
 have c1:(s1.cells.length:Int)=12:=by omega
 have c2:(s1.y:Int)=1:=by omega
 have c3:(s1.x:Int)=1:=by omega
 have hw2:=hw'
 unfold scD at hw' ⊢
 simp -implicitDefEqProofs -dsimp only[ah,o1,o2,o3,az,eq_true c1,eq_true c2,eq_true c3,g0,g4,vcS,↓vcQ,simprocAttr]
 refine ⟨by omega,by omega, ?_⟩
 refine zH ok1 pk1 hw2 R b8 (by omega) b9 fun T4 k4=>?_
 have hb4:=k4.at (aZ T3 [] (some (Ob.box _))) (by simp)
 simp -implicitDefEqProofs -dsimp only[ah,ai hb4,o1,o2,o3,az,vcS,↓vcQ,simprocAttr]
 refine aaJ (y:=1) ok1 hw2 (by omega) fun T5 q hq hA k5=>?_
 have c4:(s1.aa:Int)=4:=by omega
 simp -implicitDefEqProofs -dsimp only[ah,o1,o2,o3,az,eq_true c4,vcS,↓vcQ,simprocAttr]
 have q1:ax T T1 []:=by first | exact k1 | exact (ax.app T _ []).new k1 (by simp)
 have q2:ax T T2 []:=by first | exact q1.new k2 (by simp) | exact (q1.dU _).new k2 (by simp)
 have q3:ax T T3 []:=by first | exact q2.new k3 (by simp) | exact (q2.dU _).new k3 (by simp) | exact ((q2.dU _).put (Dd.ge (by have:=q2.1;omega)) _).new k3 (by simp)
 have q4:ax T T4 []:=by first | exact q3.new k4 (by simp) | exact (q3.dU _).new k4 (by simp)
 have q5:ax T T5 []:=by first | exact q4.new k5 (by simp) | exact (q4.dU _).new k5 (by simp)
 exact ⟨q5.1,h _ q5⟩
def vg:RC:=(.seq (SR [MV 7 5,MV 8 0,OP 9 (.len (.t 8)),BT 10 .lss 7 9] [0,3,4,5,10] (.cond (.t 10) .skip (.ext 0))) (.seq (.blk 1 (.reg [MV 13 4,MV 14 3,MV 15 0,MV 16 5,OP 17 (.aT 1 (.t 15) (.t 16)),LD 18 17,OP 19 (.conv (.i2i .i64) (.t 18)),MV 20 3,OP 21 (.len (.t 20)),BT 22 .rem 19 21,OP 23 (.aT 1 (.t 14) (.t 22)),LD 24 23,OP 25 (.append 1 1 (.t 13) (.t 24)),MV 4 25] 0 [0,3,4,5])) (.reg [MV 11 5,BI 12 .add 11 1,MV 5 12] 0 [0,3,4,5])))
def mh:RFn:=⟨1,27,(SR [OP 2 (.mov (.c (.sl 0 [] .nil)))] [0] (SR [OP 6 (.bK 1 [.str []] 69 [(0,(.c (.str [(97),(98)]))),(1,(.c (.str [(120)]))),(2,(.c (.str [(230),(188),(162)]))),(3,(.c (.str [(195),(169)]))),(4,(.c (.str [(13),(10)]))),(5,(.c (.str [(10)]))),(6,(.c (.str [(13)]))),(7,(.c (.str [(8)]))),(8,(.c (.str [(9)]))),(9,(.c (.str [(27),(91),(65)]))),(10,(.c (.str [(27),(91),(51),(66)]))),(11,(.c (.str [(27),(91),(50),(67)]))),(12,(.c (.str [(27),(91),(68)]))),(13,(.c (.str [(27),(91),(50),(59),(51),(72)]))),(14,(.c (.str [(27),(91),(74)]))),(15,(.c (.str [(27),(91),(49),(74)]))),(16,(.c (.str [(27),(91),(50),(74)]))),(17,(.c (.str [(27),(91),(75)]))),(18,(.c (.str [(27),(91),(49),(75)]))),(19,(.c (.str [(27),(91),(76)]))),(20,(.c (.str [(27),(91),(50),(77)]))),(21,(.c (.str [(27),(91),(50),(64)]))),(22,(.c (.str [(27),(91),(80)]))),(23,(.c (.str [(27),(91),(51),(88)]))),(24,(.c (.str [(27),(91),(83)]))),(25,(.c (.str [(27),(91),(84)]))),(26,(.c (.str [(27),(91),(50),(59),(52),(114)]))),(27,(.c (.str [(27),(91),(114)]))),(28,(.c (.str [(27),(77)]))),(29,(.c (.str [(27),(68)]))),(30,(.c (.str [(27),(69)]))),(31,(.c (.str [(27),(55)]))),(32,(.c (.str [(27),(56)]))),(33,(.c (.str [(27),(99)]))),(34,(.c (.str [(27),(72)]))),(35,(.c (.str [(27),(91),(103)]))),(36,(.c (.str [(27),(91),(51),(103)]))),(37,(.c (.str [(27),(91),(49),(59),(51),(49),(109)]))),(38,(.c (.str [(27),(91),(48),(59),(52),(59),(52),(55),(109)]))),(39,(.c (.str [(27),(91),(109)]))),(40,(.c (.str [(27),(91),(63),(55),(108)]))),(41,(.c (.str [(27),(91),(63),(55),(104)]))),(42,(.c (.str [(27),(91),(63),(50),(53),(108)]))),(43,(.c (.str [(27),(91),(63),(49),(48),(52),(57),(104)]))),(44,(.c (.str [(27),(91),(63),(49),(48),(52),(57),(108)]))),(45,(.c (.str [(27),(91),(53),(71)]))),(46,(.c (.str [(27),(91),(50),(100)]))),(47,(.c (.str [(27),(93),(48),(59),(116),(7)]))),(48,(.c (.str [(27),(80),(49),(27),(92)]))),(49,(.c (.str [(230)]))),(50,(.c (.str [(255)]))),(51,(.c (.str [(27),(91)]))),(52,(.c (.str [(27)]))),(53,(.c (.str [(49),(50),(59)]))),(54,(.c (.str [(24)]))),(55,(.c (.str [(97),(98),(99),(100),(101),(102),(103),(104)]))),(56,(.c (.str [(27),(91),(57),(57),(57),(57),(57),(57),(57),(57),(57),(57),(57),(109)]))),(57,(.c (.str [(27),(40),(66)]))),(58,(.c (.str [(27),(91),(49),(58),(50),(109)]))),(59,(.c (.str [(27),(91),(62),(99)]))),(60,(.c (.str [(195)]))),(61,(.c (.str [(169)]))),(62,(.c (.str [(229),(173),(151),(229),(173),(151)]))),(63,(.c (.str [(27),(91),(33),(112)]))),(64,(.c (.str [(204),(129)]))),(65,(.c (.str [(12)]))),(66,(.c (.str [(127)]))),(67,(.c (.str [(27),(91),(59),(72)]))),(68,(.c (.str [(27),(91),(48),(75)])))]),MV 3 6] [0,3] (SR [OP 4 (.mov (.c (.sl 0 [] .nil)))] [0,3,4] (.seq (SR [OP 5 (.mov (.c (.int .i64 0)))] [0,3,4,5] (.blk 0 (.loop vg))) (SR [MV 26 4,MV 2 26] [2] .ret))))),[.t 2]⟩
theorem Ew:aK PG.P (aA PG.P 12 mh) 12=some mh:=by kernel_rfl
def gZ:List (List UInt8):=[[97,98],[120],[230,188,162],[195,169],[13,10],[10],[13],[8],[9],[27,91,65],[27,91,51,66],[27,91,50,67],[27,91,68],[27,91,50,59,51,72],[27,91,74],[27,91,49,74],[27,91,50,74],[27,91,75],[27,91,49,75],[27,91,76],[27,91,50,77],[27,91,50,64],[27,91,80],[27,91,51,88],[27,91,83],[27,91,84],[27,91,50,59,52,114],[27,91,114],[27,77],[27,68],[27,69],[27,55],[27,56],[27,99],[27,72],[27,91,103],[27,91,51,103],[27,91,49,59,51,49,109],[27,91,48,59,52,59,52,55,109],[27,91,109],[27,91,63,55,108],[27,91,63,55,104],[27,91,63,50,53,108],[27,91,63,49,48,52,57,104],[27,91,63,49,48,52,57,108],[27,91,53,71],[27,91,50,100],[27,93,48,59,116,7],[27,80,49,27,92],[230],[255],[27,91],[27],[49,50,59],[24],[97,98,99,100,101,102,103,104],[27,91,57,57,57,57,57,57,57,57,57,57,57,109],[27,40,66],[27,91,49,58,50,109],[27,91,62,99],[195],[169],[229,173,151,229,173,151],[27,91,33,112],[204,129],[12],[127],[27,91,59,72],[27,91,48,75]]
def D7 (l:List (List UInt8)):List (List DV):=l.map fun s=> [.str s]
theorem Jz {l:List (List UInt8)}{i:Nat}(h:i<l.length):(D7 l)[i]?=some [.str (l.getD i [])]:=by simp[D7,h]
def qE (l:List UInt8):List Int:=l.map fun b=>(b.toNat:Int)
theorem yM (l:List UInt8):dg l=af .u8 (qE l):=by simp[dg,af,qE]
theorem Dh (l:List UInt8):(qE l).length=l.length:=by simp[qE]
structure nE (T0 T:ay) (q:Nat) (bs:List Int) (n:Nat):Prop where
 there:T[q]?=some (some (.arr 1 (af .u8 bs)))
 few:bs.length<=n
 new:T0.length<=q
 keep:ax T0 T []
theorem nE.more {T':ay}{bs:List Int}{n:Nat}(h:nE T0 T q bs n)(k:ax T T' []):nE T0 T' q bs n:=⟨k.at h.there (by simp),h.few,h.new,h.keep.new k (by simp)⟩
theorem nE.grow {bs cs:List Int}{n m:Nat}(h:nE T0 T q bs n)(hc:bs.length+cs.length<=m) :
  nE T0 (T.set q none++ [some (.arr 1 (af .u8 (bs++cs)))]) T.length (bs++cs) m:=by
 refine ⟨?_,by simpa using hc,by have:=eI h.there;have:=h.new;omega,h.keep.new (j:=[q]) ⟨by simp,fun k ob hk ho=>hO (bn ho _ (by simpa using hk)) _⟩ (by simpa using h.new)⟩
 have:=aZ (T.set q none) [] (some (Ob.arr 1 (af .u8 (bs++cs))))
 rwa [List.length_set] at this
def cT (l:List Int):List Int:=l.flatMap fun k=>qE (gZ.getD (k % 69).toNat [])
theorem D8 (l:List Int)(k:Int):cT (l++ [k])=cT l++qE (gZ.getD (k % 69).toNat []):=by simp[cT]
theorem Rn {Post:DV->ay->Prop}{l:List Int}(hs:sz=1\/l=[])(hk:∀n∈l,0<=n/\n<=255)(hl:l.length<=100)(h:∀T' q,nE T T' q (cT l) (20*l.length)->Post (.own q 0 (cT l).length) T') :
  PM PG (tab []) mh [.sl sz (af .u8 l) k] T Post:=by
 constructor
 unfold mh
 dsimp only
 simp -implicitDefEqProofs -dsimp only[vcS,↓vcQ,simprocAttr]
 refine bk.own 4 1 rfl (.inl rfl) ?_
 refine bk.inv FOk.nil (S:=fun s:ay × Nat × List Int × Nat=>⟨[(0,.sl sz (af .u8 l) k),(3,.own T.length 0 69),(4,.own s.2.1 0 s.2.2.1.length),(5,.int .i64 s.2.2.2)],s.1⟩)
  (I:=fun s=>nE T s.1 s.2.1 s.2.2.1 (20*s.2.2.2)/\s.1[T.length]?=some (some (.arr 1 (D7 gZ)))/\s.2.2.2<=l.length/\T.length≠s.2.1/\s.2.2.1=cT (l.take s.2.2.2))
  (μ:=fun s=>l.length-s.2.2.2) (T++ [some (.arr 1 (D7 gZ)),some (.arr 1 (af .u8 []))],T.length+1,[],0) ⟨⟨bl _ _ 1,by simp,by simp,ax.app _ _ _⟩,aZ _ _ _,by simp,by simp,by simp[cT]⟩ ?_ ?_
 ·simp -implicitDefEqProofs -dsimp only[an,vcS,↓vcQ,simprocAttr]
  exact aH _
 ·intro ⟨T1,q,bs,i⟩ ⟨i1,i2,i3,i4,i5⟩
  dsimp only at i1 i2 i3 i4 i5 ⊢
  unfold vg
  by_cases h0:i<l.length
  ·have h1:(i:Int)<l.length:=by omega
   have h2:(0:Int)<=i:=by omega
   have hz:sz=1:=hs.resolve_right (by intro e;subst e;simp at h0)
   have hg:(af .u8 l)[i]?=some [.int .u8 (l.getD i 0)]:=by rw[ng];simp[h0]
   have hw1:IntKind.i64.wrap ((i:Int)+1)=((i+1:Nat):Int):=by rw[aO (by omega) (by omega)];omega
   have hb:=hk (l.getD i 0) (by rw[List.getD_eq_getElem?_getD,List.getElem?_eq_getElem h0];exact List.getElem_mem _)
   have hw2:IntKind.i64.wrap (l.getD i 0)=l.getD i 0:=aO (by omega) (by omega)
   have e:(l.getD i 0).tmod 69=l.getD i 0 % 69:=Int.tmod_eq_emod_of_nonneg hb.1
   have e1:0<=l.getD i 0 % 69:=by omega
   have e2:l.getD i 0 % 69<69:=by omega
   have hg2:=Jz (l:=gZ) (i:=(l.getD i 0 % 69).toNat) (by show _<69;omega)
   have hpl:=(by decide:∀s∈gZ,s.length<=20) (gZ.getD (l.getD i 0 % 69).toNat []) (by rw[List.getD_eq_getElem?_getD,List.getElem?_eq_getElem (by show _<69;omega)];exact List.getElem_mem _)
   have hst:=i1.there
   have hq:=eI hst
   simp -implicitDefEqProofs -dsimp only[ai i2,ai hst,h1,h2,hz,hg,hg2,hw1,hw2,e,e1,e2,yM,qH,ah,vcS,↓vcQ,simprocAttr]
   have hn:=Dh (gZ.getD (l.getD i 0 % 69).toNat [])
   have hf:=i1.few
   refine ⟨by omega,(T1.set q none++ [some (.arr 1 (af .u8 (bs++qE (gZ.getD (l.getD i 0 % 69).toNat []))))],T1.length,bs++qE (gZ.getD (l.getD i 0 % 69).toNat []),i+1),⟨⟨⟨rfl,by simp⟩,rfl⟩,aH _⟩,⟨i1.grow (m:=20*(i+1)) (by omega),hO (bn i2 _ i4) _,h0, ?_, ?_⟩,by dsimp only;omega⟩
   ·have:=eI i2;dsimp only;omega
   ·dsimp only
    rw[List.take_succ_eq_append_getElem h0,D8,<-i5,show l[i]=l.getD i 0 by rw[List.getD_eq_getElem?_getD,List.getElem?_eq_getElem h0];rfl]
  ·have h1:¬(i:Int)<l.length:=by omega
   simp -implicitDefEqProofs -dsimp only[h1,vcS,↓vcQ,simprocAttr]
   obtain rfl:i=l.length:=by omega
   rw[List.take_length] at i5
   subst i5
   exact h _ _ i1
theorem Rm {a:DV}:[a].length<=mh.n:=by simp[mh]
theorem Ro {l:List Int}(hs:sz=1\/l=[])(hk:∀n∈l,0<=n/\n<=255)(hl:l.length<=100):av PG 12 [.sl sz (af .u8 l) k] fun n r os=>r=.sl 1 (af .u8 (cT l)) .any/\os=[]:=by
 refine av.GX (fun n T=>?_) fun T=>?_
 ·simp -implicitDefEqProofs -dsimp only[vcS,↓vcQ,simprocAttr]
 ·refine PM.kF FOk.nil Ew Rm ?_
  refine Rn hs hk hl fun T' q hB=>⟨hB.keep.1,_,_,eK.own hB.there (by simp[jI]), ?_⟩
  rw[List.drop_zero,List.take_of_length_le (by simp[af])]
def rO:RFn:=⟨0,2,(SR [OP 0 (.alloc [.int .i32 0,.int .u16 0,.int .u8 0])] [0] (SR [OP 1 (.build [.int .i32 0,.int .u16 0,.int .u8 0] [(0,(1,(.c (.int .i32 32))))]),SA 3 0 1] [0] .ret)),[.c 0 true 3]⟩
theorem Ef:aK PG.P (aA PG.P 40 rO) 40=some rO:=by kernel_rfl
def rM:RFn:=⟨1,5,(SR [OP 2 (.mov (.c (.sl 0 [] .nil)))] [0] (SR [MV 3 0,OP 4 (.append 3 8 (.c (.sl 0 [] .nil)) (.t 3)),MV 2 4] [2] .ret)),[.t 2]⟩
theorem zR:aK PG.P (aA PG.P 79 rM) 79=some rM:=by kernel_rfl
def nV:RFn:=⟨2,37,(SR [OP 4 (.mov (.c (.int .i64 0))),MB 5 false] [0,1] (.seq (SR [MV 6 1,BI 7 .lss 6 1,MV 8 7,MG 9 1 8 false,OG 10 (.bin .gtr (.t 9) (.c (.int .i64 1000))) 8 false,OP 11 (.pick (.t 8) (.c (.bool true)) (.t 10)),MV 12 11,MG 13 0 12 false,OG 14 (.len (.t 13)) 12 false,MG 15 1 12 false,OG 16 (.bin .rem (.t 14) (.t 15)) 12 false,OG 17 (.bin .neq (.t 16) (.c (.int .i64 0))) 12 false,OP 18 (.pick (.t 12) (.c (.bool true)) (.t 17)),MV 19 18,MG 20 0 19 false,OG 21 (.len (.t 20)) 19 false,MG 22 1 19 false,OG 23 (.bin .quo (.t 21) (.t 22)) 19 false,OG 24 (.bin .lss (.t 23) (.c (.int .i64 1))) 19 false,OP 25 (.pick (.t 19) (.c (.bool true)) (.t 24)),MV 26 25,MG 27 0 26 false,OG 28 (.len (.t 27)) 26 false,MG 29 1 26 false,OG 30 (.bin .quo (.t 28) (.t 29)) 26 false,OG 31 (.bin .gtr (.t 30) (.c (.int .i64 1000))) 26 false,OP 32 (.pick (.t 26) (.c (.bool true)) (.t 31))] [0,1,32] (.cond (.t 32) (SR [OP 4 (.mov (.c (.int .i64 0))),MB 5 false] [4,5] .ret) .skip)) (SR [MV 33 0,OP 34 (.len (.t 33)),MV 35 1,BT 36 .quo 34 35,MV 4 36,MB 5 true] [4,5] .ret))),[.t 4,.t 5]⟩
theorem xQ:aK PG.P (aA PG.P 78 nV) 78=some nV:=by kernel_rfl
def me:RFn:=⟨4,36,(SR [MB 8 false] [0,1,2,3] (SR [MV 12 0,MV 13 1,OP 14 (.call 78 [.t 12,.t 13]),MV 11 14,OP 15 (.ext (.t 11) 0),OP 16 (.ext (.t 11) 1),MV 9 15,MV 10 16] [1,2,3,9,10] (SR [MV 17 10,MV 18 17,MG 19 2 18 true,OG 20 (.bin .geq (.t 19) (.c (.int .i64 0))) 18 true,OP 21 (.pick (.t 18) (.t 20) (.c (.bool false))),MV 22 21,MG 23 2 22 true,MG 24 9 22 true,OG 25 (.bin .lss (.t 23) (.t 24)) 22 true,OP 26 (.pick (.t 22) (.t 25) (.c (.bool false))),MV 27 26,MG 28 3 27 true,OG 29 (.bin .geq (.t 28) (.c (.int .i64 0))) 27 true,OP 30 (.pick (.t 27) (.t 29) (.c (.bool false))),MV 31 30,MG 32 3 31 true,MG 33 1 31 true,OG 34 (.bin .leq (.t 32) (.t 33)) 31 true,OP 35 (.pick (.t 31) (.t 34) (.c (.bool false))),MV 8 35] [8] .ret))),[.t 8]⟩
theorem uI:aK PG.P (aA PG.P 88 me) 88=some me:=by kernel_rfl
def uS:RC:=(.seq (SR [MV 25 6,MV 26 5,OP 27 (.len (.t 26)),BT 28 .lss 25 27] [5,6,28] (.cond (.t 28) .skip (.ext 0))) (.seq (.blk 1 (.reg [MV 31 5,MV 32 6,OP 33 (.call 40 []),OP 34 (.aT 3 (.t 31) (.t 32)),SA 3 34 33] 0 [5,6])) (.reg [MV 29 6,BI 30 .add 29 1,MV 6 30] 0 [5,6])))
def rQ:RFn:=⟨2,36,(SR [OP 4 (.mov (.c (.sl 0 [] .nil)))] [0,1] (.seq (SR [MV 7 0,BI 8 .lss 7 1,MV 9 8,MG 10 0 9 false,OG 11 (.bin .gtr (.t 10) (.c (.int .i64 1000))) 9 false,OP 12 (.pick (.t 9) (.c (.bool true)) (.t 11)),MV 13 12,MG 14 1 13 false,OG 15 (.bin .lss (.t 14) (.c (.int .i64 1))) 13 false,OP 16 (.pick (.t 13) (.c (.bool true)) (.t 15)),MV 17 16,MG 18 1 17 false,OG 19 (.bin .gtr (.t 18) (.c (.int .i64 1000))) 17 false,OP 20 (.pick (.t 17) (.c (.bool true)) (.t 19))] [0,1,20] (.cond (.t 20) (SR [OP 4 (.mov (.c (.sl 0 [] .nil)))] [4] .ret) .skip)) (SR [MV 21 0,MV 22 1,BT 23 .mul 21 22,OP 24 (.fY 3 8 [.int .i32 0,.int .u16 0,.int .u8 0] (.t 23) (.t 23)),MV 5 24] [5] (.seq (SR [OP 6 (.mov (.c (.int .i64 0)))] [5,6] (.blk 0 (.loop uS))) (SR [MV 35 5,MV 4 35] [4] .ret))))),[.t 4]⟩
theorem Ei:aK PG.P (aA PG.P 19 rQ) 19=some rQ:=by kernel_rfl
def e9 (L M:List Ce)(a b:Nat):List Ce:=cy L a b ((M.drop a).take (b-a))
theorem gk (hab:a<=b)(hb:b<=L.length)(hm:M.length=L.length):(e9 L M a b).length=L.length:=bN hab hb (by simp;omega)
theorem nZ {i:Nat}(hab:a<=b)(hb:b<=L.length)(hm:M.length=L.length):(e9 L M a b).getD i aM=if a<=i/\i<b then M.getD i aM else L.getD i aM:=by
 unfold e9
 rw[cx hab hb (by simp;omega),eB,dQ]
 rcases Nat.lt_or_ge i a with h | h
 ·rw[if_pos h,if_neg (by omega)]
 ·rw[if_neg (by omega)]
  rcases Nat.lt_or_ge i b with h2 | h2
  ·rw[if_pos h2,if_pos (by omega),if_pos ⟨h,h2⟩]
   congr 1;omega
  ·rw[if_neg (by omega),if_neg (by omega)]
theorem kS (L M:List Ce)(a:Nat):e9 L M a a=L:=by simp[e9,cy]
theorem Di (hab:a<=b)(hb:b<L.length)(hm:M.length=L.length)(h:M.getD b aM=L.getD b aM):e9 L M a (b+1)=e9 L M a b:=by
 refine dM (by rw[gk (by omega) (by omega) hm,gk hab (by omega) hm]) fun i hi=>?_
 rw[nZ (by omega) (by omega) hm,nZ hab (by omega) hm]
 rcases Decidable.em (i=b) with e | e
 ·subst e;rw[if_pos (by omega),if_neg (by omega),h]
 ·rcases Decidable.em (a<=i/\i<b) with h2 | h2
  ·rw[if_pos (by omega),if_pos h2]
  ·rw[if_neg (by omega),if_neg h2]
theorem fG {c:Ce}(hab:a<=b)(hb:b<L.length)(hm:M.length=L.length)(hc:c=M.getD b aM):(e9 L M a b).set b c=e9 L M a (b+1):=by
 have l1:=gk (a:=a) (b:=b) hab (by omega) hm
 refine dM (by rw[List.length_set,l1,gk (by omega) (by omega) hm]) fun i hi=>?_
 rw[mq (by omega),nZ hab (by omega) hm,nZ (by omega) (by omega) hm]
 rcases Decidable.em (i=b) with e | e
 ·subst e;rw[if_pos rfl,if_pos (by omega),hc]
 ·rw[if_neg e]
  rcases Decidable.em (a<=i/\i<b) with h2 | h2
  ·rw[if_pos h2,if_pos (by omega)]
  ·rw[if_neg h2,if_neg (by omega)]
theorem kU (hab:a<=b)(hb:b<=L.length)(hm:M.length=L.length)(h:∀i,¬(a<=i/\i<b)->M.getD i aM=L.getD i aM):e9 L M a b=M:=by
 refine dM (by rw[gk hab hb hm,hm]) fun i hi=>?_
 rw[nZ hab hb hm]
 split
 ·rfl
 ·rename_i hh;exact (h i hh).symm
theorem OR {n:Nat}(hq:T[q]?=some (some (.arr 3 (aq L))))(hn:n=L.length)(k:ax T0 T [])(hd:T0.length<=q)(h:∀T',ax T0 T' []->K (.sl 3 (aq L) .any) T') :
  T0.length<=T.length/\∃d' T'',eK ⟨[(0,.own q 0 n)],T⟩ ⟨[(0,d')],T''⟩/\K d' T'':=by
 have f:=eK.own (off:=0) (n:=n) hq (by rw[az];omega)
 rw[List.drop_zero,List.take_of_length_le (by rw[az];omega)] at f
 exact ⟨k.1,_,_,f,h _ (k.put (Dd.ge hd) _)⟩
theorem Mn {d:DV}(k:ax T0 T [])(h:K d T):T0.length<=T.length/\∃d' T'',eK ⟨[(0,d)],T⟩ ⟨[(0,d')],T''⟩/\K d' T'':=⟨k.1,d,T,.refl _,h⟩
theorem fc (h:∀T',ax T T' []->K (.agg aM.row) T'):aj PG 40 [] T K:=by
 refine aj.aE FOk.nil Ef (by simp[rO]) ?_
 unfold rO
 dsimp only
 simp -implicitDefEqProofs -dsimp only[ah,vcS,↓vcQ,simprocAttr]
 exact h _ (ax.app _ _ _)
theorem oK (hs:sz=3)(h0:0<L.length)(hl:L.length<=1000000)
  (h:∀T' p,T.length<=p->T'[p]?=some (some (.arr 3 (aq L)))->ax T T' []->K (.own p 0 L.length) T'):aj PG 79 [.sl sz (aq L) k] T K:=by
 subst hs
 have hn:¬aq L=[]:=by cases L with | nil=>simp at h0 | cons a l=>simp[aq]
 refine aj.aE FOk.nil zR (by simp[rM]) ?_
 unfold rM
 dsimp only
 simp -implicitDefEqProofs -dsimp only[ah,az,hl,hn,eq_true (mu L),vcS,↓vcQ,simprocAttr]
 exact ⟨by omega,h _ _ (Nat.le_refl _) (aZ _ _ _) (ax.app _ _ _)⟩
theorem DY (g:bU L rows aa)(h:K (.tup [.int .i64 rows,.bool true]) T):aj PG 78 [.sl sz (aq L) k,.int .i64 aa] T K:=by
 have h1:=g.r
 have h2:=g.c
 have h3:(L.length:Int)=(rows:Int)*aa:=by rw[g.len];simp
 have h4:(L.length:Int).tmod aa=0:=by rw[h3];exact Int.mul_tmod_left _ _
 have h5:(L.length:Int).tdiv aa=rows:=by rw[h3];exact Int.mul_tdiv_cancel _ (by omega)
 have h6:¬(aa:Int)=0:=by omega
 have h7:¬(aa:Int)= -1:=by omega
 have h8:¬(aa:Int)<1:=by omega
 have h9:¬(1000:Int)<aa:=by omega
 have w:IntKind.i64.wrap (rows:Int)=rows:=aO (by omega) (by omega)
 have r1:¬(rows:Int)<1:=by omega
 have r2:¬(1000:Int)<rows:=by omega
 refine aj.aE FOk.nil xQ (by simp[nV]) ?_
 unfold nV
 dsimp only
 simp -implicitDefEqProofs -dsimp only[ah,az,h4,h5,h6,h7,h8,h9,w,r1,r2,vcS,↓vcQ,simprocAttr]
 exact h
theorem uv {y x:Nat}(g:bU L rows aa)(hy:y<rows)(hx:x<=aa)(h:K (.bool true) T):aj PG 88 [.sl sz (aq L) k,.int .i64 aa,.int .i64 y,.int .i64 x] T K:=by
 refine aj.aE FOk.nil uI (by simp[me]) ?_
 unfold me
 dsimp only
 simp -implicitDefEqProofs -dsimp only[ah,vcS,↓vcQ,simprocAttr]
 refine DY g ?_
 have a1:(0:Int)<=y:=by omega
 have a2:(y:Int)<rows:=by omega
 have a3:(0:Int)<=x:=by omega
 have a4:(x:Int)<=aa:=by omega
 simp -implicitDefEqProofs -dsimp only[ah,a1,a2,a3,a4,vcS,↓vcQ,simprocAttr]
 exact h
theorem FU (h1:1<=rows/\rows<=1000)(h2:1<=aa/\aa<=1000)
  (h:∀T' p,T.length<=p->T'[p]?=some (some (.arr 3 (aq (dV rows aa))))->ax T T' []->K (.own p 0 (rows*aa)) T'):aj PG 19 [.int .i64 rows,.int .i64 aa] T K:=by
 have hm:rows*aa<=1000*1000:=Nat.mul_le_mul h1.2 h2.2
 have hp:(rows:Int)*aa=((rows*aa:Nat):Int):=by simp
 have hw:IntKind.i64.wrap ((rows:Int)*aa)=((rows*aa:Nat):Int):=by rw[hp];exact aO (by omega) (by omega)
 unfold dV at h
 obtain ⟨m,em⟩:∃m,m=rows*aa:=⟨_,rfl⟩
 rw[<-em] at hw h hm
 have z0:(0:Int)<=(m:Int):=by omega
 have z1:(m:Int)*8<=140737488355328/\(m:Int)<=4611686018427387904:=by omega
 have r1:¬(rows:Int)<1:=by omega
 have r2:¬(1000:Int)<rows:=by omega
 have c1:¬(aa:Int)<1:=by omega
 have c2:¬(1000:Int)<aa:=by omega
 refine aj.aE FOk.nil Ei (by simp[rQ]) ?_
 unfold rQ
 dsimp only
 simp -implicitDefEqProofs -dsimp only[r1,r2,c1,c2,hw,z0,z1,Int.le_refl,ah,vcS,↓vcQ,simprocAttr]
 have e0:List.replicate m [DV.int IntKind.i32 0,DV.int IntKind.u16 0,DV.int IntKind.u8 0]=aq (List.replicate m ⟨0,0,0⟩):=AU m ⟨0,0,0⟩
 rw[e0]
 refine bk.inv FOk.nil (S:=fun s:Nat × ay=>⟨[(5,.own T.length 0 m),(6,.int .i64 s.1)],s.2⟩)
  (I:=fun s=>s.1<=m/\s.2[T.length]?=some (some (.arr 3 (aq (cy (List.replicate m ⟨0,0,0⟩) 0 (0+s.1) (List.replicate s.1 aM)))))/\ax T s.2 [])
  (μ:=fun s=>m-s.1) (0,T++ [some (.arr 3 (aq (List.replicate m ⟨0,0,0⟩)))]) ⟨by simp,by rw[Nat.zero_add,List.replicate_zero,Mb];exact aZ _ _ _,ax.app _ _ _⟩ ?_ ?_
 ·simp -implicitDefEqProofs -dsimp only[an,vcS,↓vcQ,simprocAttr]
 ·intro ⟨i,A⟩ ⟨h1,h2,h3⟩
  dsimp only at h1 h2 h3 ⊢
  unfold uS
  have l1:(cy (List.replicate m (⟨0,0,0⟩:Ce)) 0 (0+i) (List.replicate i aM)).length=m:=by rw[bN (by omega) (by rw[List.length_replicate];omega) (by rw[List.length_replicate];omega),List.length_replicate]
  by_cases hi:i<m
  ·have hii:(i:Int)<m:=by omega
   have hi0:(0:Int)<=(i:Int):=by omega
   have hw1:IntKind.i64.wrap ((i:Int)+1)=((i+1:Nat):Int):=by rw[aO (by omega) (by omega)];omega
   simp -implicitDefEqProofs -dsimp only[ai h2,hii,hi0,hw1,an,Nat.zero_add,ah,vcS,↓vcQ,simprocAttr]
   refine fc fun T' k=>?_
   have h2':=k.at h2 (by simp)
   have hg:=bf (L:=cy (List.replicate m ⟨0,0,0⟩) 0 (0+i) (List.replicate i aM)) (i:=i) (by omega)
   have bY:=bM (cy (List.replicate m ⟨0,0,0⟩) 0 (0+i) (List.replicate i aM)) (0+i) aM
   rw[Dw hi (by rw[List.length_replicate];omega)] at bY
   obtain ⟨N,eN⟩:∃N,N=cy (List.replicate m (⟨0,0,0⟩:Ce)) 0 (0+(i+1)) (List.replicate (i+1) aM):=⟨_,rfl⟩
   rw[<-eN] at bY
   have hb:aM.row=[.int .i32 32,.int .u16 0,.int .u8 0]:=rfl
   change (aq (cy (List.replicate m ⟨0,0,0⟩) 0 (0+i) (List.replicate i aM))).set (0+i) [.int .i32 32,.int .u16 0,.int .u8 0]=_ at bY
   rw[Nat.zero_add] at bY
   rw[hb]
   rw[Nat.zero_add] at h2' hg
   have il:i<(aq (cy (List.replicate m (⟨0,0,0⟩:Ce)) 0 i (List.replicate i aM))).length:=by rw[az];rw[Nat.zero_add] at l1;omega
   simp -implicitDefEqProofs -dsimp only[ai h2',hii,hi0,hw1,an,Nat.zero_add,ah,hg,bY,vcS,↓vcQ,simprocAttr]
   refine ⟨(i+1,T'.set T.length (some (.arr 3 (aq N)))),⟨rfl,aH _⟩,⟨hi,by dsimp only;rw[Nat.zero_add] at eN;rw[<-eN];exact bZ h2' _, ?_⟩,by dsimp only;omega⟩
   exact (h3.new k (by simp)).put (Dd.ge (Nat.le_refl _)) _
  ·have hii:¬(i:Int)<m:=by omega
   simp -implicitDefEqProofs -dsimp only[ai h2,hii,an,vcS,↓vcQ,simprocAttr]
   obtain rfl:i=m:=by omega
   have e1:cy (List.replicate i (⟨0,0,0⟩:Ce)) 0 (0+i) (List.replicate i aM)=List.replicate i aM:=by simp[cy]
   rw[e1] at h2
   exact ⟨h3.1,h A _ (Nat.le_refl _) h2 h3⟩
def Dc:RC:=(.seq (SR [MV 51 15,MV 52 1,BT 53 .lss 51 52] [0,1,3,4,11,14,15,53] (.cond (.t 53) .skip (.ext 2))) (.seq (.blk 3 (SR [OP 56 (.call 40 []),OP 16 (.alloc [.int .i32 0,.int .u16 0,.int .u8 0]),SA 3 16 56] [0,1,3,4,11,14,15,16] (.seq (SR [MV 57 14,MV 58 4,BT 59 .add 57 58,MV 60 3,BT 61 .leq 59 60] [0,1,3,4,11,14,15,16,61] (.cond (.t 61) (.reg [MV 62 0,MV 63 14,MV 64 4,BT 65 .add 63 64,MV 66 1,BT 67 .mul 65 66,MV 68 15,BT 69 .add 67 68,OP 70 (.aT 3 (.t 62) (.t 69)),LT 71 3 70,SA 3 16 71] 0 [0,1,3,4,11,14,15,16]) .skip)) (.reg [MV 72 11,MV 73 14,MV 74 1,BT 75 .mul 73 74,MV 76 15,BT 77 .add 75 76,LT 78 3 16,OP 79 (.aT 3 (.t 72) (.t 77)),SA 3 79 78] 0 [0,1,3,4,11,14,15])))) (.reg [MV 54 15,BI 55 .add 54 1,MV 15 55] 0 [0,1,3,4,11,14,15])))
def Db:RC:=(.seq (SR [MV 46 14,MV 47 3,BT 48 .leq 46 47] [0,1,3,4,11,14,48] (.cond (.t 48) .skip (.ext 0))) (.seq (.blk 1 (SR [OP 15 (.mov (.c (.int .i64 0)))] [0,1,3,4,11,14,15] (.blk 2 (.loop Dc)))) (.reg [MV 49 14,BI 50 .add 49 1,MV 14 50] 0 [0,1,3,4,11,14])))
def Eg:RFn:=⟨5,81,(SR [OP 10 (.mov (.c (.sl 0 [] .nil)))] [0,1,2,3,4] (SR [MV 17 0,OP 18 (.call 79 [.t 17]),MV 11 18] [0,1,2,3,4,11] (SR [MV 20 0,MV 21 1,OP 22 (.call 78 [.t 20,.t 21]),MV 19 22,OP 23 (.ext (.t 19) 0),OP 24 (.ext (.t 19) 1),MV 12 23,MV 13 24] [0,1,2,3,4,11,12,13] (.seq (SR [MV 25 13,OP 26 (.un .not (.t 25)),MV 27 26,MG 28 2 27 false,OG 29 (.bin .lss (.t 28) (.c (.int .i64 0))) 27 false,OP 30 (.pick (.t 27) (.c (.bool true)) (.t 29)),MV 31 30,MG 32 3 31 false,MG 33 12 31 false,OG 34 (.bin .geq (.t 32) (.t 33)) 31 false,OP 35 (.pick (.t 31) (.c (.bool true)) (.t 34)),MV 36 35,MG 37 2 36 false,MG 38 3 36 false,OG 39 (.bin .gtr (.t 37) (.t 38)) 36 false,OP 40 (.pick (.t 36) (.c (.bool true)) (.t 39))] [0,1,2,3,4,11,40] (.cond (.t 40) (SR [MV 41 11,MV 10 41] [10] .ret) .skip)) (SR [MV 42 4,OP 43 (.mm true (.t 42) (.c (.int .i64 0))),OP 44 (.mm false (.t 43) (.c (.int .i64 1000))),MV 4 44] [0,1,2,3,4,11] (.seq (SR [MV 45 2,MV 14 45] [0,1,3,4,11,14] (.blk 0 (.loop Db))) (SR [MV 80 11,MV 10 80] [10] .ret))))))),[.t 10]⟩
theorem NR:aK PG.P (aA PG.P 119 Eg) 119=some Eg:=by kernel_rfl
def xV:RC:=(.seq (SR [MV 51 15,MV 52 1,BT 53 .lss 51 52] [0,1,2,3,4,11,14,15,53] (.cond (.t 53) .skip (.ext 2))) (.seq (.blk 3 (SR [OP 56 (.call 40 []),OP 16 (.alloc [.int .i32 0,.int .u16 0,.int .u8 0]),SA 3 16 56] [0,1,2,3,4,11,14,15,16] (.seq (SR [MV 57 14,MV 58 4,BT 59 .sub 57 58,MV 60 2,BT 61 .geq 59 60] [0,1,2,3,4,11,14,15,16,61] (.cond (.t 61) (.reg [MV 62 0,MV 63 14,MV 64 4,BT 65 .sub 63 64,MV 66 1,BT 67 .mul 65 66,MV 68 15,BT 69 .add 67 68,OP 70 (.aT 3 (.t 62) (.t 69)),LT 71 3 70,SA 3 16 71] 0 [0,1,2,3,4,11,14,15,16]) .skip)) (.reg [MV 72 11,MV 73 14,MV 74 1,BT 75 .mul 73 74,MV 76 15,BT 77 .add 75 76,LT 78 3 16,OP 79 (.aT 3 (.t 72) (.t 77)),SA 3 79 78] 0 [0,1,2,3,4,11,14,15])))) (.reg [MV 54 15,BI 55 .add 54 1,MV 15 55] 0 [0,1,2,3,4,11,14,15])))
def xU:RC:=(.seq (SR [MV 46 14,MV 47 3,BT 48 .leq 46 47] [0,1,2,3,4,11,14,48] (.cond (.t 48) .skip (.ext 0))) (.seq (.blk 1 (SR [OP 15 (.mov (.c (.int .i64 0)))] [0,1,2,3,4,11,14,15] (.blk 2 (.loop xV)))) (.reg [MV 49 14,BI 50 .add 49 1,MV 14 50] 0 [0,1,2,3,4,11,14])))
def uR:RFn:=⟨5,81,(SR [OP 10 (.mov (.c (.sl 0 [] .nil)))] [0,1,2,3,4] (SR [MV 17 0,OP 18 (.call 79 [.t 17]),MV 11 18] [0,1,2,3,4,11] (SR [MV 20 0,MV 21 1,OP 22 (.call 78 [.t 20,.t 21]),MV 19 22,OP 23 (.ext (.t 19) 0),OP 24 (.ext (.t 19) 1),MV 12 23,MV 13 24] [0,1,2,3,4,11,12,13] (.seq (SR [MV 25 13,OP 26 (.un .not (.t 25)),MV 27 26,MG 28 2 27 false,OG 29 (.bin .lss (.t 28) (.c (.int .i64 0))) 27 false,OP 30 (.pick (.t 27) (.c (.bool true)) (.t 29)),MV 31 30,MG 32 3 31 false,MG 33 12 31 false,OG 34 (.bin .geq (.t 32) (.t 33)) 31 false,OP 35 (.pick (.t 31) (.c (.bool true)) (.t 34)),MV 36 35,MG 37 2 36 false,MG 38 3 36 false,OG 39 (.bin .gtr (.t 37) (.t 38)) 36 false,OP 40 (.pick (.t 36) (.c (.bool true)) (.t 39))] [0,1,2,3,4,11,40] (.cond (.t 40) (SR [MV 41 11,MV 10 41] [10] .ret) .skip)) (SR [MV 42 4,OP 43 (.mm true (.t 42) (.c (.int .i64 0))),OP 44 (.mm false (.t 43) (.c (.int .i64 1000))),MV 4 44] [0,1,2,3,4,11] (.seq (SR [MV 45 2,MV 14 45] [0,1,2,3,4,11,14] (.blk 0 (.loop xU))) (SR [MV 80 11,MV 10 80] [10] .ret))))))),[.t 10]⟩
theorem Gz:aK PG.P (aA PG.P 115 uR) 115=some uR:=by kernel_rfl
theorem Qi {top bot:Nat}{n:Int}(hs:sz=3)(g:bU L rows aa)(ht:top<=bot)(hb:bot<rows)
  (h:∀T',ax T T' []->K (.sl 3 (aq (upF L aa top bot n)) .any) T'):aj PG 119 [.sl sz (aq L) k,.int .i64 aa,.int .i64 top,.int .i64 bot,.int .i64 n] T K:=by
 subst hs
 have h1:=g.r
 have h2:=g.c
 have hl:=g.lim
 have hgl:=g.len
 obtain ⟨N,eN⟩:∃N,N=bz n:=⟨_,rfl⟩
 have hn:min (max n 0) 1000=(N:Int):=by unfold bz at eN;omega
 have hN:N<=1000:=by unfold bz at eN;omega
 have hat:=fun {y x:Nat} (hx:x<aa) hy=>Jn (n:=n) g hb ht (y:=y) hx hy
 have hout:=fun {i:Nat} hi=>LQ (n:=n) g hb ht (i:=i) hi
 have hM:=m3 (n:=n) g hb ht
 rw[<-eN] at hat
 obtain ⟨M,eM⟩:∃M,M=upF L aa top bot n:=⟨_,rfl⟩
 rw[<-eM] at h hat hout hM
 have aet:L.length=rows*aa:=hgl
 have hrow:=cY (aa:=aa) hb
 have htb:top*aa<=(bot+1)*aa:=Nat.mul_le_mul_right _ (by omega)
 have a1:¬(top:Int)<0:=by omega
 have a2:¬(rows:Int)<=bot:=by omega
 have a3:¬(bot:Int)<top:=by omega
 refine aj.fq FOk.nil NR (by simp[Eg]) ?_
 unfold Eg
 dsimp only
 simp -implicitDefEqProofs -dsimp only[ah,vcS,↓vcQ,simprocAttr]
 refine oK rfl hl.2 hl.1 fun T1 p hp hA k1=>?_
 simp -implicitDefEqProofs -dsimp only[ah,vcS,↓vcQ,simprocAttr]
 refine DY g ?_
 simp -implicitDefEqProofs -dsimp only[ah,a1,a2,a3,hn,vcS,↓vcQ,simprocAttr]
 refine bk.inv FOk.nil (S:=fun s:Nat × ay=>⟨[(0,.sl 3 (aq L) k),(1,.int .i64 aa),(3,.int .i64 bot),(4,.int .i64 N),(11,.own p 0 L.length),(14,.int .i64 s.1)],s.2⟩)
  (I:=fun s=>top<=s.1/\s.1<=bot+1/\s.2[p]?=some (some (.arr 3 (aq (e9 L M (top*aa) (s.1*aa)))))/\ax T s.2 [])
  (μ:=fun s=>bot+1-s.1) (top,T1) ⟨Nat.le_refl _,by dsimp only;omega,by rw[kS];exact hA,k1⟩ ?_ ?_
 ·simp -implicitDefEqProofs -dsimp only[an,vcS,↓vcQ,simprocAttr]
 ·intro ⟨y,A⟩ ⟨i1,i2,i3,i4⟩
  dsimp only at i1 i2 i3 i4 ⊢
  unfold Db
  rcases Nat.lt_or_ge bot y with hy | hy
  ·have hyy:¬(y:Int)<=bot:=by omega
   simp -implicitDefEqProofs -dsimp only[ah,hyy,vcS,↓vcQ,simprocAttr]
   obtain rfl:y=bot+1:=by omega
   rw[kU htb (by omega) hM fun i hi=>hout (by omega)] at i3
   exact OR i3 hM.symm i4 hp h
  ·have hyy:(y:Int)<=bot:=by omega
   have wy:IntKind.i64.wrap ((y:Int)+1)=((y+1:Nat):Int):=by rw[aO (by omega) (by omega)];omega
   simp -implicitDefEqProofs -dsimp only[ah,hyy,vcS,↓vcQ,simprocAttr]
   have ys:=bx y aa
   have yl:top*aa<=y*aa:=Nat.mul_le_mul_right _ i1
   have yh:(y+1)*aa<=(bot+1)*aa:=Nat.mul_le_mul_right _ (by omega)
   obtain ⟨R,eR⟩:∃R,R=y*aa:=⟨_,rfl⟩
   have wR:IntKind.i64.wrap ((y:Int)*aa)=(R:Int):=by
    have:(y:Int)*aa=(R:Int):=by rw[eR];simp
    rw[this];exact aO (by omega) (by omega)
   refine bk.inv FOk.nil (S:=fun s:Nat × ay=>⟨[(0,.sl 3 (aq L) k),(1,.int .i64 aa),(3,.int .i64 bot),(4,.int .i64 N),(11,.own p 0 L.length),(14,.int .i64 y),(15,.int .i64 s.1)],s.2⟩)
    (I:=fun s=>s.1<=aa/\s.2[p]?=some (some (.arr 3 (aq (e9 L M (top*aa) (R+s.1)))))/\ax T s.2 [])
    (μ:=fun s=>aa-s.1) (0,A) ⟨by simp,by rw[Nat.add_zero,eR];exact i3,i4⟩ ?_ ?_
   ·simp -implicitDefEqProofs -dsimp only[an,vcS,↓vcQ,simprocAttr]
   ·intro ⟨x,B⟩ ⟨j1,j2,j3⟩
    dsimp only at j1 j2 j3 ⊢
    unfold Dc
    rcases Nat.lt_or_ge x aa with hx | hx
    ·have hxx:(x:Int)<aa:=by omega
     have wx:IntKind.i64.wrap ((x:Int)+1)=((x+1:Nat):Int):=by rw[aO (by omega) (by omega)];omega
     have wS:IntKind.i64.wrap ((R:Int)+x)=((R+x:Nat):Int):=by rw[aO (by omega) (by omega)];omega
     obtain ⟨z,ez⟩:∃z,z=y+N:=⟨_,rfl⟩
     have wz:IntKind.i64.wrap ((y:Int)+N)=(z:Int):=by rw[aO (by omega) (by omega)];omega
     simp -implicitDefEqProofs -dsimp only[ah,hxx,vcS,↓vcQ,simprocAttr]
     refine fc fun B1 kb=>?_
     have j2':=kb.at j2 (by simp)
     have kB:ax T B1 []:=j3.new kb (by simp)
     have lm:=gk (L:=L) (M:=M) (a:=top*aa) (b:=R+x) (by omega) (by omega) hM
     have jf:=hat hx ⟨i1,hy⟩
     rw[<-eR,<-ez] at jf
     have b0:(0:Int)<=((R+x:Nat):Int):=by omega
     have b1:((R+x:Nat):Int)<L.length:=by omega
     have hg:=bf (L:=e9 L M (top*aa) (R+x)) (i:=R+x) (by omega)
     rw[show aM.row=[.int .i32 32,.int .u16 0,.int .u8 0] from rfl]
     rcases Nat.lt_or_ge bot z with hz | hz
     ·have hzz:¬(z:Int)<=bot:=by omega
      rw[if_neg (by omega)] at jf
      have bY:=bM (e9 L M (top*aa) (R+x)) (R+x) aM
      rw[fG (by omega) (by omega) hM jf.symm] at bY
      change (aq (e9 L M (top*aa) (R+x))).set (R+x) [.int .i32 32,.int .u16 0,.int .u8 0]=_ at bY
      simp -implicitDefEqProofs -dsimp only[ah,ai j2',hxx,wz,eq_false hzz,wR,wS,wx,b0,b1,hg,bY,an,vcS,↓vcQ,simprocAttr]
      exact ⟨(x+1,_),⟨rfl,aH _⟩,⟨hx,hO (bZ j2' _) _,((kB.put (Dd.ge hp) _).dU _)⟩,by dsimp only;omega⟩
     ·have hzz:(z:Int)<=bot:=by omega
      rw[if_pos (by omega)] at jf
      have zs:=bx z aa
      have zh:(z+1)*aa<=(bot+1)*aa:=Nat.mul_le_mul_right _ (by omega)
      obtain ⟨P,eP⟩:∃P,P=z*aa:=⟨_,rfl⟩
      rw[<-eP] at jf
      have wP:IntKind.i64.wrap ((z:Int)*aa)=(P:Int):=by
       have:(z:Int)*aa=(P:Int):=by rw[eP];simp
       rw[this];exact aO (by omega) (by omega)
      have wQ:IntKind.i64.wrap ((P:Int)+x)=((P+x:Nat):Int):=by rw[aO (by omega) (by omega)];omega
      have d0:(0:Int)<=((P+x:Nat):Int):=by omega
      have d1:((P+x:Nat):Int)<L.length:=by omega
      have hg2:=bf (L:=L) (i:=P+x) (by omega)
      have bY:=bM (e9 L M (top*aa) (R+x)) (R+x) (L.getD (P+x) aM)
      rw[fG (by omega) (by omega) hM jf.symm] at bY
      generalize L.getD (P+x) aM=c at *
      simp -implicitDefEqProofs -dsimp only[ah,ai j2',hxx,wz,hzz,wP,wQ,d0,d1,hg2,az,wR,wS,wx,b0,b1,hg,bY,an,vcS,↓vcQ,simprocAttr]
      exact ⟨(x+1,_),⟨rfl,aH _⟩,⟨hx,hO (bZ j2' _) _,((kB.put (Dd.ge hp) _).dU _)⟩,by dsimp only;omega⟩
    ·have hxx:¬(x:Int)<aa:=by omega
     simp -implicitDefEqProofs -dsimp only[ah,hxx,wy,an,vcS,↓vcQ,simprocAttr]
     obtain rfl:x=aa:=by omega
     refine ⟨(y+1,B),⟨rfl,aH _⟩,⟨by omega,by omega, ?_,j3⟩,by dsimp only;omega⟩
     dsimp only
     rw[ys,<-eR]
     exact j2
theorem DZ {top bot:Nat}{n:Int}(hs:sz=3)(g:bU L rows aa)(ht:top<=bot)(hb:bot<rows)
  (h:∀T',ax T T' []->K (.sl 3 (aq (dnF L aa top bot n)) .any) T'):aj PG 115 [.sl sz (aq L) k,.int .i64 aa,.int .i64 top,.int .i64 bot,.int .i64 n] T K:=by
 subst hs
 have h1:=g.r
 have h2:=g.c
 have hl:=g.lim
 have hgl:=g.len
 obtain ⟨N,eN⟩:∃N,N=bz n:=⟨_,rfl⟩
 have hn:min (max n 0) 1000=(N:Int):=by unfold bz at eN;omega
 have hN:N<=1000:=by unfold bz at eN;omega
 have hat:=fun {y x:Nat} (hx:x<aa) hy=>KK (n:=n) g hb ht (y:=y) hx hy
 have hout:=fun {i:Nat} hi=>Mq (n:=n) g hb ht (i:=i) hi
 have hM:=nk (n:=n) g hb ht
 rw[<-eN] at hat
 obtain ⟨M,eM⟩:∃M,M=dnF L aa top bot n:=⟨_,rfl⟩
 rw[<-eM] at h hat hout hM
 have aet:L.length=rows*aa:=hgl
 have hrow:=cY (aa:=aa) hb
 have htb:top*aa<=(bot+1)*aa:=Nat.mul_le_mul_right _ (by omega)
 have a1:¬(top:Int)<0:=by omega
 have a2:¬(rows:Int)<=bot:=by omega
 have a3:¬(bot:Int)<top:=by omega
 refine aj.fq FOk.nil Gz (by simp[uR]) ?_
 unfold uR
 dsimp only
 simp -implicitDefEqProofs -dsimp only[ah,vcS,↓vcQ,simprocAttr]
 refine oK rfl hl.2 hl.1 fun T1 p hp hA k1=>?_
 simp -implicitDefEqProofs -dsimp only[ah,vcS,↓vcQ,simprocAttr]
 refine DY g ?_
 simp -implicitDefEqProofs -dsimp only[ah,a1,a2,a3,hn,vcS,↓vcQ,simprocAttr]
 refine bk.inv FOk.nil (S:=fun s:Nat × ay=>⟨[(0,.sl 3 (aq L) k),(1,.int .i64 aa),(2,.int .i64 top),(3,.int .i64 bot),(4,.int .i64 N),(11,.own p 0 L.length),(14,.int .i64 s.1)],s.2⟩)
  (I:=fun s=>top<=s.1/\s.1<=bot+1/\s.2[p]?=some (some (.arr 3 (aq (e9 L M (top*aa) (s.1*aa)))))/\ax T s.2 [])
  (μ:=fun s=>bot+1-s.1) (top,T1) ⟨Nat.le_refl _,by dsimp only;omega,by rw[kS];exact hA,k1⟩ ?_ ?_
 ·simp -implicitDefEqProofs -dsimp only[an,vcS,↓vcQ,simprocAttr]
 ·intro ⟨y,A⟩ ⟨i1,i2,i3,i4⟩
  dsimp only at i1 i2 i3 i4 ⊢
  unfold xU
  rcases Nat.lt_or_ge bot y with hy | hy
  ·have hyy:¬(y:Int)<=bot:=by omega
   simp -implicitDefEqProofs -dsimp only[ah,hyy,vcS,↓vcQ,simprocAttr]
   obtain rfl:y=bot+1:=by omega
   rw[kU htb (by omega) hM fun i hi=>hout (by omega)] at i3
   exact OR i3 hM.symm i4 hp h
  ·have hyy:(y:Int)<=bot:=by omega
   have wy:IntKind.i64.wrap ((y:Int)+1)=((y+1:Nat):Int):=by rw[aO (by omega) (by omega)];omega
   simp -implicitDefEqProofs -dsimp only[ah,hyy,vcS,↓vcQ,simprocAttr]
   have ys:=bx y aa
   have yl:top*aa<=y*aa:=Nat.mul_le_mul_right _ i1
   have yh:(y+1)*aa<=(bot+1)*aa:=Nat.mul_le_mul_right _ (by omega)
   obtain ⟨R,eR⟩:∃R,R=y*aa:=⟨_,rfl⟩
   have wR:IntKind.i64.wrap ((y:Int)*aa)=(R:Int):=by
    have:(y:Int)*aa=(R:Int):=by rw[eR];simp
    rw[this];exact aO (by omega) (by omega)
   refine bk.inv FOk.nil (S:=fun s:Nat × ay=>⟨[(0,.sl 3 (aq L) k),(1,.int .i64 aa),(2,.int .i64 top),(3,.int .i64 bot),(4,.int .i64 N),(11,.own p 0 L.length),(14,.int .i64 y),(15,.int .i64 s.1)],s.2⟩)
    (I:=fun s=>s.1<=aa/\s.2[p]?=some (some (.arr 3 (aq (e9 L M (top*aa) (R+s.1)))))/\ax T s.2 [])
    (μ:=fun s=>aa-s.1) (0,A) ⟨by simp,by rw[Nat.add_zero,eR];exact i3,i4⟩ ?_ ?_
   ·simp -implicitDefEqProofs -dsimp only[an,vcS,↓vcQ,simprocAttr]
   ·intro ⟨x,B⟩ ⟨j1,j2,j3⟩
    dsimp only at j1 j2 j3 ⊢
    unfold xV
    rcases Nat.lt_or_ge x aa with hx | hx
    ·have hxx:(x:Int)<aa:=by omega
     have wx:IntKind.i64.wrap ((x:Int)+1)=((x+1:Nat):Int):=by rw[aO (by omega) (by omega)];omega
     have wS:IntKind.i64.wrap ((R:Int)+x)=((R+x:Nat):Int):=by rw[aO (by omega) (by omega)];omega
     obtain ⟨z,ez⟩:∃z,z=y-N:=⟨_,rfl⟩
     obtain ⟨zi,ezi⟩:∃zi:Int,zi=(y:Int)-N:=⟨_,rfl⟩
     have wz:IntKind.i64.wrap ((y:Int)-N)=zi:=by rw[aO (by omega) (by omega)];omega
     simp -implicitDefEqProofs -dsimp only[ah,hxx,vcS,↓vcQ,simprocAttr]
     refine fc fun B1 kb=>?_
     have j2':=kb.at j2 (by simp)
     have kB:ax T B1 []:=j3.new kb (by simp)
     have lm:=gk (L:=L) (M:=M) (a:=top*aa) (b:=R+x) (by omega) (by omega) hM
     have jf:=hat hx ⟨i1,hy⟩
     rw[<-eR,<-ez] at jf
     have b0:(0:Int)<=((R+x:Nat):Int):=by omega
     have b1:((R+x:Nat):Int)<L.length:=by omega
     have hg:=bf (L:=e9 L M (top*aa) (R+x)) (i:=R+x) (by omega)
     rw[show aM.row=[.int .i32 32,.int .u16 0,.int .u8 0] from rfl]
     rcases Nat.lt_or_ge y (top+N) with hz | hz
     ·have hzz:¬(top:Int)<=zi:=by omega
      rw[if_neg (by omega)] at jf
      have bY:=bM (e9 L M (top*aa) (R+x)) (R+x) aM
      rw[fG (by omega) (by omega) hM jf.symm] at bY
      change (aq (e9 L M (top*aa) (R+x))).set (R+x) [.int .i32 32,.int .u16 0,.int .u8 0]=_ at bY
      simp -implicitDefEqProofs -dsimp only[ah,ai j2',hxx,wz,eq_false hzz,wR,wS,wx,b0,b1,hg,bY,an,vcS,↓vcQ,simprocAttr]
      exact ⟨(x+1,_),⟨rfl,aH _⟩,⟨hx,hO (bZ j2' _) _,((kB.put (Dd.ge hp) _).dU _)⟩,by dsimp only;omega⟩
     ·obtain rfl:zi=(z:Int):=by omega
      have hzz:(top:Int)<=(z:Int):=by omega
      rw[if_pos (by omega)] at jf
      have zs:=bx z aa
      have zh:(z+1)*aa<=(bot+1)*aa:=Nat.mul_le_mul_right _ (by omega)
      obtain ⟨P,eP⟩:∃P,P=z*aa:=⟨_,rfl⟩
      rw[<-eP] at jf
      have wP:IntKind.i64.wrap ((z:Int)*aa)=(P:Int):=by
       have:(z:Int)*aa=(P:Int):=by rw[eP];simp
       rw[this];exact aO (by omega) (by omega)
      have wQ:IntKind.i64.wrap ((P:Int)+x)=((P+x:Nat):Int):=by rw[aO (by omega) (by omega)];omega
      have d0:(0:Int)<=((P+x:Nat):Int):=by omega
      have d1:((P+x:Nat):Int)<L.length:=by omega
      have hg2:=bf (L:=L) (i:=P+x) (by omega)
      have bY:=bM (e9 L M (top*aa) (R+x)) (R+x) (L.getD (P+x) aM)
      rw[fG (by omega) (by omega) hM jf.symm] at bY
      generalize L.getD (P+x) aM=c at *
      simp -implicitDefEqProofs -dsimp only[ah,ai j2',hxx,wz,hzz,wP,wQ,d0,d1,hg2,az,wR,wS,wx,b0,b1,hg,bY,an,vcS,↓vcQ,simprocAttr]
      exact ⟨(x+1,_),⟨rfl,aH _⟩,⟨hx,hO (bZ j2' _) _,((kB.put (Dd.ge hp) _).dU _)⟩,by dsimp only;omega⟩
    ·have hxx:¬(x:Int)<aa:=by omega
     simp -implicitDefEqProofs -dsimp only[ah,hxx,wy,an,vcS,↓vcQ,simprocAttr]
     obtain rfl:x=aa:=by omega
     refine ⟨(y+1,B),⟨rfl,aH _⟩,⟨by omega,by omega, ?_,j3⟩,by dsimp only;omega⟩
     dsimp only
     rw[ys,<-eR]
     exact j2
end
end Go.Proofs.YtjmnbpilnneonaaGreatDoor
