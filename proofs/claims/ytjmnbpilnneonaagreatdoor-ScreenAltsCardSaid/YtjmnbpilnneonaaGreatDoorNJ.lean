/- Texts R18, R19, R20 in one. -/
import Derived.Test.YtjmnbpilnneonaaGreatDoorNI
import Derived.Test.YtjmnbpilnneonaaGreatDoorNB
set_option linter.unusedVariables false
set_option linter.unusedSimpArgs false
set_option maxRecDepth 10000
set_option linter.defProp false
namespace Go.Proofs.YtjmnbpilnneonaaGreatDoor
open Go.RowKit
noncomputable section
variable {l:List Int}{x:Sc × Pa}{v:DV}
def s5:RC:=(.seq (SR [MV 11 5,MV 12 0,OP 13 (.len (.t 12)),BT 14 .lss 11 13] [0,1,5,14] (.cond (.t 14) .skip (.ext 0))) (.seq (.blk 1 (.seq (.cJ (.take (MV 17 0) [] (.take (MV 18 5) [] (.take (OP 19 (.aT 3 (.t 17) (.t 18))) [] (.take (LT 20 3 19) [] (.take (MV 21 1) [] (.take (MV 22 5) [] (.take (OP 23 (.aT 3 (.t 21) (.t 22))) [] (.take (LT 24 3 23) [] (.take (OP 25 (.eqS true [.i,.i,.i] (.t 20) (.t 24))) [] .done))))))))) 0 [0,1,5,25]) (.cond (.t 25) (SR [MB 4 false] [4] .ret) .skip))) (.reg [MV 15 5,BI 16 .add 15 1,MV 5 16] 0 [0,1,5])))
def oQ:RFn:=⟨2,26,(SR [MB 4 false] [0,1] (.seq (SR [MV 6 0,OP 7 (.len (.t 6)),MV 8 1,OP 9 (.len (.t 8)),BT 10 .neq 7 9] [0,1,10] (.cond (.t 10) (SR [MB 4 false] [4] .ret) .skip)) (.seq (SR [OP 5 (.mov (.c (.int .i64 0)))] [0,1,5] (.blk 0 (.loop s5))) (SR [MB 4 true] [4] .ret)))),[.t 4]⟩
theorem BC:aK PG.P (aA PG.P 18 oQ) 18=some oQ:=by kernel_rfl
theorem MI {T:ay}{s1 s2:Nat}{k1 k2:SK}{L:List Ce}{K:DV->ay->Prop}(h1:s1=3\/L=[])(h2:s2=3\/L=[])(hl:L.length<=1000000)(h:K (.bool true) T) :
  aj PG 18 [.sl s1 (aq L) k1,.sl s2 (aq L) k2] T K:=by
 refine aj.aE FOk.nil BC (by simp[oQ]) ?_
 unfold oQ
 dsimp only
 simp -implicitDefEqProofs -dsimp only[ah,az,vcS,↓vcQ,simprocAttr]
 refine bk.inv FOk.nil (S:=fun i:Nat=>⟨[(0,.sl s1 (aq L) k1),(1,.sl s2 (aq L) k2),(5,.int .i64 i)],T⟩)
  (I:=fun i=>i<=L.length) (μ:=fun i=>L.length-i) 0 (Nat.zero_le _) ?_ ?_
 ·simp -implicitDefEqProofs -dsimp only[an,vcS,↓vcQ,simprocAttr]
 ·intro i hi
  unfold s5
  have w1:IntKind.i64.wrap ((i:Int)+1)=((i+1:Nat):Int):=by rw[aO (by omega) (by omega)];omega
  rcases Nat.lt_or_ge i L.length with hlt | hge
  ·have hii:(i:Int)<L.length:=by omega
   have i0:(0:Int)<=i:=by omega
   have z1:s1=3:=by rcases h1 with h | h;exact h;subst h;simp at hlt
   have z2:s2=3:=by rcases h2 with h | h;exact h;subst h;simp at hlt
   subst z1 z2
   have hg:=bf hlt
   simp -implicitDefEqProofs -dsimp only[ah,az,hii,i0,hg,Nat.zero_add,w1,an,vcS,↓vcQ,simprocAttr]
   exact ⟨i+1,rfl,hlt,by omega⟩
  ·have hii:¬(i:Int)<L.length:=by omega
   simp -implicitDefEqProofs -dsimp only[ah,az,hii,an,vcS,↓vcQ,simprocAttr]
   exact h
def oA:List DV->Option aS
 | [.sl s1 r1 k1,.sl s2 r2 k2]=>some ⟨As s1 r1/\(s2=3\/r2=[])/\r1=r2,fun n=>(.bool true,[])⟩
 | _=>none
theorem IY (s1 s2:Nat)(r1 r2:List (List DV))(k1 k2:SK):oA [.sl s1 r1 k1,.sl s2 r2 k2]=some ⟨As s1 r1/\(s2=3\/r2=[])/\r1=r2,fun n=>(.bool true,[])⟩:=ak _
theorem AW (L:List Ce):aq L=[]->L=[]:=fun h=>by cases L with | nil=>rfl | cons a l=>simp[aq] at h
theorem Ja (args:List DV)(s:aS)(hs:oA args=some s)(hp:s.pre):av PG 18 args fun n r os=>r=(s.res n).1/\os=(s.res n).2:=by
 unfold oA at hs
 split at hs
 ·obtain rfl:=sj hs
  obtain ⟨⟨h1,⟨L,rfl⟩,h3⟩,h4,rfl⟩:=hp
  rw[az] at h3
  exact av.GX (fun n T=>by simp -implicitDefEqProofs -dsimp only[vcS,↓vcQ,simprocAttr]) fun T=>MI (h1.imp id (AW L)) (h4.imp id (AW L)) h3 rfl
 ·cases hs
def o9:RFn:=⟨3,25,(SR [OP 6 (.alloc ZS)] [0,1,2,6] (SR [MV 10 0,OP 11 (.bin .rem (.t 10) (.c (.int .u8 6))),OP 12 (.conv (.i2i .i64) (.t 11)),BI 13 .add 12 1,MV 14 1,OP 15 (.bin .rem (.t 14) (.c (.int .u8 9))),OP 16 (.conv (.i2i .i64) (.t 15)),BI 17 .add 16 1,OP 18 (.call 22 [.t 13,.t 17]),MV 9 18,OP 19 (.ext (.t 9) 0),OP 20 (.ext (.t 9) 1),OP 7 (.alloc ZS),SA 24 7 19,MV 8 20] [2,6,7] (.seq (.cJ (.take (LT 21 24 7) [] (.take (MV 22 2) [] (.op (OP 23 (.call 12 [.t 22])) (.mid (OP 24 (.call 14 [.t 21,.t 23])) (.op (SA 24 6 24) .done))))) 0 [6]) .ret))),[.c 6 true 24]⟩
theorem BL:aK PG.P (aA PG.P 9 o9) 9=some o9:=by kernel_rfl
theorem u8_in (h:inK .u8 l):∀n∈l,0<=n/\n<=255:=fun n hn=>h.2 n hn
theorem tE:∀c∈cT l,0<=c/\c<=255:=fun c hc=>by
 simp only[cT,List.mem_flatMap,qE,List.mem_map] at hc
 obtain ⟨k,_,b,_,rfl⟩:=hc
 have:=b.toNat_lt
 omega
theorem m4 (l:List Int):(cT l).length<=20*l.length:=by
 induction l with
 | nil=>simp[cT]
 | cons a l ih=>
  have:(qE (gZ.getD (a % 69).toNat [])).length<=20:=by
   rw[Dh]
   rcases Nat.lt_or_ge (a % 69).toNat gZ.length with h | h
   ·rw[List.getD_eq_getElem?_getD,List.getElem?_eq_getElem h]
    exact (by decide:∀s∈gZ,s.length<=20) _ (List.getElem_mem h)
   ·rw[List.getD_eq_getElem?_getD,List.getElem?_eq_none h];simp
  have e:cT (a::l)=qE (gZ.getD (a % 69).toNat [])++cT l:=rfl
  rw[e,List.length_append,List.length_cons]
  omega
theorem wN (h:l.length<=100):inK .u8 (cT l):=lG (by have:=m4 l;omega) tE
theorem ad5 {jQ:Nat}{k_l:SK}(Av:jQ=1\/l=[])(E0:inK .u8 l)(hp:l.length<=100) :
  av PG 12 [.sl jQ (af .u8 l) k_l] fun n RR OO=>RR=((.sl 1 (af .u8 (cT l)) .any,[]):DV × ay).1/\OO=((.sl 1 (af .u8 (cT l)) .any,[]):DV × ay).2:=Ro Av (u8_in E0) hp
def PR:List DV->Option aS
 | [a_l]=>some ⟨aD .u8 a_l/\(aG a_l).length<=100,fun n=>((.sl 1 (af .u8 (cT (aG a_l))) .any,[]))⟩
 | _=>none
theorem LF (a_l:DV):PR [a_l]=some ⟨aD .u8 a_l/\(aG a_l).length<=100,fun n=>((.sl 1 (af .u8 (cT (aG a_l))) .any,[]))⟩:=ak _
theorem acT (args:List DV)(s:aS)(hs:PR args=some s)(hp:s.pre):av PG 12 args fun n r os=>r=(s.res n).1/\os=(s.res n).2:=by
 unfold PR at hs
 split at hs
 ·rename_i a_l
  obtain rfl:=sj hs
  obtain ⟨tV,hp⟩:=hp
  obtain ⟨JK,tR,tY,tX,tW⟩:=aC tV
  have this:=ad5 (k_l:=tR) tX tW hp
  rw[<-tY] at this
  exact this
 ·cases hs
def TSb:FL:=(12,PR)::[]
theorem Vv:FOk PG (tab TSb):=FOk.cons (FOk.nil) acT
theorem PK (args:List DV):tab TSb 12 args=(PR args).map .o:=ak _
def adK:=J @PK<|@LF
theorem Vx (args:List DV):tab TSb 22 args=none:=ak _
theorem Vw (args:List DV):tab TSb 14 args=none:=ak _
def scX (r c:Int)(l:List Int):Sc × Pa:=(cT l).foldl eJ (newF ((r % 6).toNat+1) ((c % 9).toNat+1),pa0 0)
theorem acS {r c:Int}:ScF (scX r c l):=AJ (Kk (by omega) (by omega)) tE
theorem Nn {T:ay}{r c:Int}{sz:Nat}{sk:SK}{K:DV->ay->Prop}(hr:0<=r/\r<=255)(hc:0<=c/\c<=255)(hs:sz=1\/l=[])(hk:inK .u8 l)(hl:l.length<=100)(h:∀T' v,ax T T' []->aJ (scX r c l).1 (scX r c l).2 v->K v T') :
  aj PG 9 [.int .u8 r,.int .u8 c,.sl sz (af .u8 l) sk] T K:=by
 have er:r.tmod 6=r % 6:=Int.tmod_eq_emod_of_nonneg hr.1
 have ec:c.tmod 9=c % 9:=Int.tmod_eq_emod_of_nonneg hc.1
 have w1:IntKind.u8.wrap (r % 6)=r % 6:=wU8 (by omega) (by omega)
 have w2:IntKind.u8.wrap (c % 9)=c % 9:=wU8 (by omega) (by omega)
 have w3:IntKind.i64.wrap (r % 6)=r % 6:=aO (by omega) (by omega)
 have w4:IntKind.i64.wrap (c % 9)=c % 9:=aO (by omega) (by omega)
 have w5:IntKind.i64.wrap (r % 6+1)=(((r % 6).toNat+1:Nat):Int):=by rw[aO (by omega) (by omega)];omega
 have w6:IntKind.i64.wrap (c % 9+1)=(((c % 9).toNat+1:Nat):Int):=by rw[aO (by omega) (by omega)];omega
 refine aj.aE Vv BL (by simp[o9]) ?_
 unfold o9
 dsimp only
 simp -implicitDefEqProofs -dsimp only[ah,Vx,Vw,er,ec,w1,w2,w3,w4,w5,w6,vcS,↓vcQ,simprocAttr]
 refine Qj (by omega) (by omega) fun T1 v g1 hv'=>?_
 have i1:aD .u8 (.sl sz (af .u8 l) sk):=aQ hs hk
 have hsl:=m4 l
 have hv2:=hv'
 obtain ⟨y1,y2,y3,j1,j2,j3,m',pr',e1,e2,e3,sv',rfl⟩:=hv'
 obtain ⟨p1,p2,p3⟩:=sv'.pa.one
 have hfd:(cT l).foldl eJ (newF ((r % 6).toNat+1) ((c % 9).toNat+1),pa0 0)=scX r c l:=rfl
 have hF0:ScF (newF ((r % 6).toNat+1) ((c % 9).toNat+1),pa0 0):=Kk (by omega) (by omega)
 generalize newF ((r % 6).toNat+1) ((c % 9).toNat+1)=s0 at *
 unfold scD at hv2 ⊢
 have hb:=g1.at (aZ T [] (some (Ob.box _))) (by simp)
 simp -implicitDefEqProofs -dsimp only[ah,ai hb,adK,i1,aL,hl,Vx,Vw,p1,p2,p3,vcS,↓vcQ,simprocAttr]
 refine LN (s:=s0) (p:=pa0 0) hF0 hv2 (.inl rfl) (wN hl) (by omega) fun T2 v2 g2 hv3=>?_
 rw[hfd] at hv3
 have hv4:=hv3
 obtain ⟨y1,y2,y3,j1,j2,j3,m',pr',e1,e2,e3,sv',rfl⟩:=hv3
 obtain ⟨p1,p2,p3⟩:=sv'.pa.one
 have hb2:=g2.at (hO hb _) (by simp)
 unfold scD at hv4 ⊢
 simp -implicitDefEqProofs -dsimp only[ah,ai hb2,p1,p2,p3,vcS,↓vcQ,simprocAttr]
 have kk:ax T T2 []:=(((ax.app T _ []).new g1 (by simp)).dU _).new g2 (by simp)
 exact gI (kk.put (Dd.ge (Nat.le_refl _)) _) fun q=>h _ _ q hv4
theorem av.aae {E:Prg}{f:Nat}{args:List DV}(hv:∀n T,tG n v T fun d os=>d=v/\os=[])(h:∀T,aj E f args T fun r T'=>wkT r v):av E f args fun n r os=>r=v/\os=[]:=by
 intro n
 obtain ⟨T1,Q,h1,h2,h3,h4⟩:=h (List.replicate n none)
 have hT:T1=List.replicate n none:=by
  refine List.ext_getElem (by simpa using h1) fun i a b=>?_
  rw[List.getElem_replicate]
  cases hx:T1[i] with
  | none=>rfl
  | some ob=>exact (dm (h2 i ob (by rw[List.getElem?_eq_getElem a,hx]))).elim
 subst hT
 have g1:bP E f args (List.replicate n none) fun r T'=>r=v:=by
  intro G w vs g1 g2 g3 g4
  refine (h3 G w vs g1 g2 g3 g4).mono fun e w' ⟨r0,r,T',G',a,b,c,d,d'⟩=>?_
  obtain ⟨T2,_,k⟩:=h4 r T' b c
  exact ⟨r0,v,T',G',a,rfl,c,ru k d,d'⟩
 refine (bP.AX (n:=n) (R':=fun r T'=>r=v/\T'=List.replicate n none) (by simp) g1 fun r T' hr=>?_).mono fun r T' hh=>⟨[],by simp[hh.2],hh.1,rfl⟩
 subst hr
 obtain ⟨g,r',os,hc,hk1,hk2⟩:=nS (hv n T')
 exact ⟨g,r',os,hc,hk1,by rw[hk2];simp⟩
def zL (x:Sc × Pa):DV:=.agg (scD x.1 3 1 3 .any .any .any x.2.m x.2.pr (.sl 1 (af .i64 x.2.P) .any) (.sl 1 (af .u8 x.2.I) .any) (.sl 1 (af .u8 x.2.U) .any))
theorem zK (pk:cS x.2):aJ x.1 x.2 (zL x):=
 aJ.of ⟨rfl,rfl,.inl rfl,{ m:=rfl,pr:=rfl,i1:=aQ (.inl rfl) pk.1,i2:=aQ (.inl rfl) pk.2.1,i3:=aQ (.inl rfl) pk.2.2.1,e1:=aL ..,e2:=aL ..,e3:=aL ..}⟩
theorem L4 (h:aJ x.1 x.2 v):wkT v (zL x):=by
 obtain ⟨z1,z2,z3,k1,k2,k3,m,pr,d1,d2,d3,sv,rfl⟩:=h
 have e1:=gR (de sv.pa.i1) sv.pa.i1
 have e2:=gR (de sv.pa.i2) sv.pa.i2
 have e3:=gR (de sv.pa.i3) sv.pa.i3
 rw[sv.pa.e1] at e1
 rw[sv.pa.e2] at e2
 rw[sv.pa.e3] at e3
 unfold zL scD
 rw[LO]
 refine ⟨rfl,rfl,⟨rfl,.inl rfl,.inl sv.z1⟩,rfl,rfl,rfl,rfl,rfl,rfl,⟨rfl,.inl rfl,.inl sv.z2⟩,rfl,rfl,rfl,rfl,rfl,rfl,⟨rfl,.inl rfl,sv.z3.imp id fun h=>by rw[h];rfl⟩,rfl,rfl,by rw[sv.pa.m];rfl,by rw[sv.pa.pr];rfl,e1,e2,e3,trivial⟩
theorem Gj (x:Sc × Pa)(n:Nat)(T:ay):tG n (zL x) T fun d os=>d=zL x/\os=[]:=by
 unfold zL scD
 simp -implicitDefEqProofs -dsimp only[eq_true (mu x.1.cells),eq_true (mu x.1.other),eq_true (ov x.1.aP),vcS,↓vcQ,simprocAttr]
theorem uc:∀{A B:List Ce},aq A=aq B->A=B
 | [],[],_=>rfl
 | [],_::_,h=>by simp[aq] at h
 | _::_,[],h=>by simp[aq] at h
 | a::A,b::B,h=>by
  simp only[aq,List.map_cons,List.cons.injEq,Ce.row,DV.int.injEq,true_and,and_true] at h
  obtain ⟨⟨h1,h2,h3⟩,h4⟩:=h
  rw[uc (A:=A) (B:=B) h4]
  obtain ⟨r,q,t⟩:=a
  obtain ⟨r',q',t'⟩:=b
  simp only at h1 h2 h3
  rw[h1,h2,h3]
theorem A3:∀{A B:List Bool},bg A=bg B->A=B
 | [],[],_=>rfl
 | [],_::_,h=>by simp[bg] at h
 | _::_,[],h=>by simp[bg] at h
 | a::A,b::B,h=>by
  simp only[bg,List.map_cons,List.cons.injEq,DV.bool.injEq,and_true] at h
  obtain ⟨h1,h4⟩:=h
  rw[A3 (A:=A) (B:=B) h4,h1]
theorem aJ.inj {y:Sc × Pa}(h:aJ x.1 x.2 v)(g:aJ y.1 y.2 v):x=y:=by
 obtain ⟨s,p⟩:=x
 obtain ⟨s',p'⟩:=y
 obtain ⟨z1,z2,z3,k1,k2,k3,m,pr,d1,d2,d3,sv,rfl⟩:=h
 obtain ⟨y1,y2,y3,j1,j2,j3,m',pr',e1,e2,e3,sw,ev⟩:=g
 have ev:=DV.agg.inj ev
 unfold scD at ev
 simp only[List.cons.injEq,DV.int.injEq,DV.sl.injEq,DV.bool.injEq,true_and,and_true] at ev
 obtain ⟨f0,f1,⟨_,f2,_⟩,f3,f4,f5,f6,f7,f8,⟨_,f9,_⟩,f10,f11,f12,f13,f14,f15,⟨_,f16,_⟩,f17,f18,f19,f20,f21,f22,f23⟩:=ev
 have f2:=uc f2
 have f9:=A3 f9
 have f16:=uc f16
 subst f19 f20 f21 f22 f23
 have a1:=sv.pa
 have a2:=sw.pa
 have ep:p=p':=by
  obtain ⟨m1,p1,P1,I1,U1⟩:=p
  obtain ⟨m2,p2,P2,I2,U2⟩:=p'
  have b1:=a1.m;have b2:=a2.m;have b3:=a1.pr;have b4:=a2.pr
  have b5:=a1.e1;have b6:=a2.e1;have b7:=a1.e2;have b8:=a2.e2;have b9:=a1.e3;have b10:=a2.e3
  simp only at b1 b2 b3 b4 b5 b6 b7 b8 b9 b10
  simp only[Pa.mk.injEq]
  exact ⟨by rw[<-b1,<-b2],by rw[<-b3,<-b4],by rw[<-b5,<-b6],by rw[<-b7,<-b8],by rw[<-b9,<-b10]⟩
 have es:s=s':=by
  obtain ⟨g0,g1,g2,g3,g4,g5,g6,g7,g8,g9,g10,g11,g12,g13,g14,g15,g16,g17,g18⟩:=s
  obtain ⟨h0,h1,h2,h3,h4,h5,h6,h7,h8,h9,h10,h11,h12,h13,h14,h15,h16,h17,h18⟩:=s'
  simp only at f0 f1 f2 f3 f4 f5 f6 f7 f8 f9 f10 f11 f12 f13 f14 f15 f16 f17 f18
  simp only[Sc.mk.injEq]
  exact ⟨by omega,by omega,f2,by omega,by omega,f5,f6,by omega,by omega,f9,by omega,by omega,f12,f13,f14,f15,f16,by omega,by omega⟩
 rw[ep,es]
def Dm (v:DV):Prop:=∃x:Sc × Pa,ScF x/\aJ x.1 x.2 v
open Classical in
def Xu (v:DV):Sc × Pa:=if h:Dm v then h.choose else (newF 1 1,pa0 0)
theorem yX (hF:ScF x)(h:aJ x.1 x.2 v):Xu v=x:=by
 have hs:Dm v:=⟨x,hF,h⟩
 unfold Xu
 rw[dif_pos hs]
 exact (hs.choose_spec.2).inj h
def l5:List DV->Option aS
 | [v,a]=>some ⟨Dm v/\aD .u8 a/\(aG a).length<=1000000,fun n=>(zL ((aG a).foldl eJ (Xu v)),[])⟩
 | _=>none
theorem xK (v a:DV):l5 [v,a]=some ⟨Dm v/\aD .u8 a/\(aG a).length<=1000000,fun n=>(zL ((aG a).foldl eJ (Xu v)),[])⟩:=ak _
theorem Ri (args:List DV)(s:aS)(hs:l5 args=some s)(hp:s.pre):av PG 13 args fun n r os=>r=(s.res n).1/\os=(s.res n).2:=by
 unfold l5 at hs
 split at hs
 ·rename_i v a
  obtain rfl:=sj hs
  obtain ⟨⟨x,hF,h1⟩,h2,h3⟩:=hp
  obtain ⟨sz,k,e,h4,h5⟩:=aC h2
  dsimp only
  rw[yX hF h1]
  refine av.aae (Gj _) fun T=>?_
  have:=L3 (T:=T) (sk:=k) (K:=fun r T'=>wkT r (zL ((aG a).foldl eJ x))) hF.ok hF.pk h1 h4 h5 h3 fun T' v' _ hv=>L4 hv
  rw[<-e] at this
  exact this
 ·cases hs
theorem ae5 (h:ScF x):Dm (zL x):=⟨x,h,zK h.pk⟩
theorem ae4 (h:ScF x):Xu (zL x)=x:=yX h (zK h.pk)
end
end Go.Proofs.YtjmnbpilnneonaaGreatDoor
