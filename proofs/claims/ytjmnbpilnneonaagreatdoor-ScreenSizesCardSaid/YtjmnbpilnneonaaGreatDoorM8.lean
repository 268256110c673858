/- Texts P34 in one. -/
import Derived.Test.YtjmnbpilnneonaaGreatDoorM7
set_option linter.unusedVariables false
set_option linter.unusedSimpArgs false
set_option maxRecDepth 10000
namespace Go.Proofs.YtjmnbpilnneonaaGreatDoor
open Go.RowKit
variable {b:Int}{p:Pa}
theorem wG (b:Int):(cW b=true)=(32<=b/\b<=47):=by simp[cW]
theorem aay (b:Int):(cW b=false)=¬(32<=b/\b<=47):=by rw[<-wG];simp
structure Rt (p:Pa):Prop where
 a:prA p
 b:prB p
 c:prC p=true
theorem RB (p:Pa):cF p=true↔Rt p:=by
 unfold cF
 rw[Bool.and_eq_true,Bool.and_eq_true,decide_eq_true_eq,decide_eq_true_eq]
 exact ⟨fun h=>⟨h.1,h.2.1,h.2.2⟩,fun h=>⟨h.a,h.b,h.c⟩⟩
theorem Rt.i (h:Rt p):(p.m=2\/p.m=5->1<=p.I.length/\p.I.length<=2/\∀x∈p.I,cW x=true)/\(¬(p.m=2\/p.m=5)->p.I=[]):=by
 have:=h.c
 unfold prC at this
 refine ⟨fun e=>?_,fun e=>?_⟩
 ·rw[if_pos e] at this;exact (kV _).1 this
 ·rw[if_neg e,decide_eq_true_eq] at this;exact List.eq_nil_of_length_eq_zero this
theorem Rt.mk0 {m pr:Int}{P I U:List Int}(a:prA ⟨m,pr,P,I,U⟩)(b:∀n∈P,0<=n/\n<=65535)(c:(m=2\/m=5->1<=I.length/\I.length<=2/\∀x∈I,cW x=true))(d:¬(m=2\/m=5)->I=[]):Rt ⟨m,pr,P,I,U⟩:=by
 refine ⟨a,b, ?_⟩
 unfold prC
 split
 ·rename_i e;exact (kV _).2 (c e)
 ·rename_i e;rw[decide_eq_true_eq];show I.length=0;rw[d e];rfl
theorem Rt.pa0 {m:Int}(h:0<=m/\m<=7/\m≠2/\m≠5):Rt (pa0 m):=
 Rt.mk0 ⟨h.1,h.2.1,.inl rfl,.inr ⟨rfl,rfl⟩,by simp,.inl rfl⟩ (by simp) (fun e=>by omega) (fun _=>rfl)
theorem LX (h:Rt p)(hU:p.U=[])(hb:0<=b/\b<=255):r7F p b=eL p b:=by
 have e0:dw [] b=cD [] b:=qo (fQ _) hb
 obtain ⟨c1,c2⟩:=h.i
 obtain ⟨⟨a1,a2,a3,a4,a5,a6⟩,hB,_⟩:=h
 obtain ⟨m,pr,P,I,U⟩:=p
 simp only at *
 subst hU
 have hz:¬(m=4\/m=5)->pr=0/\P=[]:=fun h=>by
  rcases a4 with h2 | h2
  ·exact absurd h2 h
  ·exact ⟨h2.1,List.eq_nil_of_length_eq_zero h2.2⟩
 have hm:m=0\/m=1\/m=2\/m=3\/m=4\/m=5\/m=6\/m=7:=by omega
 clear a1 a2 a3 a4 a5 a6 hB
 unfold r7F eL
 rcases hm with rfl | rfl | rfl | rfl | rfl | rfl | rfl | rfl
 ·obtain ⟨rfl,rfl⟩:=hz (by omega)
  obtain rfl:=c2 (by omega)
  simp only[e0,iS,pa0]
  rw[show (fun r:Int=>(⟨0,r,0,0,none,none⟩:Ac))=prF from rfl]
  clear hz c1 c2
  grind
 ·obtain ⟨rfl,rfl⟩:=hz (by omega)
  obtain rfl:=c2 (by omega)
  simp only[pa0]
  grind
 ·obtain ⟨rfl,rfl⟩:=hz (by omega)
  clear hz c1 c2
  simp only[pa0,jC]
  grind
 ·obtain ⟨rfl,rfl⟩:=hz (by omega)
  obtain rfl:=c2 (by omega)
  simp only[pa0,wG]
  grind
 ·obtain rfl:=c2 (by omega)
  clear hz c1 c2
  simp only[pa0,wG,kM,gX,List.nil_append,List.length_nil]
  grind
 ·clear hz c1 c2
  simp only[pa0,wG,aay,kM,jd]
  grind
 ·obtain ⟨rfl,rfl⟩:=hz (by omega)
  obtain rfl:=c2 (by omega)
  simp only[pa0]
  grind
 ·obtain ⟨rfl,rfl⟩:=hz (by omega)
  obtain rfl:=c2 (by omega)
  simp only[pa0]
  grind
theorem abI {U:List Int}{r:Int}(hk:inK .u8 U)(hu:cR U=true)(hb:0<=b/\b<=255)(h:good (U++ [b])=some r):128<=b/\(r=65533->U=[239,191]/\b=189):=by
 have vR:∀q:List Int,good q=some r->(dec q).2=(q.length:Int)/\(dec q).1=r:=fun q hq=>by
  unfold good at hq
  split at hq
  ·rename_i hc;exact ⟨hc.1,sj hq⟩
  ·cases hq
 obtain ⟨g1,g2⟩:=vR _ h
 rcases uA hk hu with ⟨a,rfl,ha⟩ | ⟨a,b1,rfl,ha,hb1⟩ | ⟨a,b1,c,rfl,ha,hb1,hc⟩
 ·have hl:=xO a
  rw[List.singleton_append,adD ha] at g1 g2
  split at g1
  ·rename_i hc
   rw[if_pos hc] at g2
   simp only at g2
   exact ⟨by omega,fun e=>by omega⟩
  ·simp at g1
 ·have hl:=xO a
  rw[List.cons_append,List.singleton_append,adC ha] at g1 g2
  split at g1
  ·rename_i hc
   rw[if_pos hc] at g2
   simp only at g2
   refine ⟨by omega,fun e=>?_⟩
   have e1:a=239:=by omega
   have e2:b1=191:=by omega
   exact ⟨by rw[e1,e2],by omega⟩
  ·simp at g1
 ·have hl:=xO a
  rw[List.cons_append,List.cons_append,List.singleton_append,adB (by omega)] at g1 g2
  split at g1
  ·rename_i hc
   rw[if_pos hc] at g2
   simp only at g2
   exact ⟨by omega,fun e=>by omega⟩
  ·simp at g1
theorem aaC {U:List Int}(hk:inK .u8 U)(hu:cR U=true)(hb:0<=b/\b<=255)(h:cR (U++ [b])=true):128<=b:=by
 rcases uA hk hu with ⟨a,rfl,ha⟩ | ⟨a,b1,rfl,ha,hb1⟩ | ⟨a,b1,c,rfl,ha,hb1,hc⟩
 ·have hl:=xO a
  rw[List.singleton_append,Z8 (by omega),decide_eq_true_eq] at h
  omega
 ·have hl:=xO a
  rw[List.cons_append,List.singleton_append,Z7 (by omega),decide_eq_true_eq] at h
  omega
 ·rw[Z6 (by simp)] at h;cases h
theorem step_eq (h:Rt p)(hp:cS p)(hb:0<=b/\b<=255):ie p b=dy p b:=by
 by_cases hU:p.U=[]
 ·have h1:zz p b=false:=by unfold zz;simp[hU]
  unfold ie dy
  rw[if_neg (by rw[hU];simp),h1,if_neg (by decide)]
  exact LX h hU hb
 ·have hlen:0<p.U.length:=List.length_pos_iff.2 hU
  obtain ⟨hm,hu⟩:p.m=0/\cR p.U=true:=by
   rcases h.a.2.2.1 with h2 | h2
   ·omega
   ·exact h2
  obtain ⟨c1,c2⟩:=h.i
  have hI:=c2 (by omega)
  have hz:p.pr=0/\p.P=[]:=by
   rcases h.a.2.2.2.1 with h2 | h2
   ·omega
   ·exact ⟨h2.1,List.eq_nil_of_length_eq_zero h2.2⟩
  have h0:Rt { p with U:=[]}:=Rt.mk0 ⟨h.a.1,h.a.2.1,.inl rfl,h.a.2.2.2.1,h.a.2.2.2.2.1,h.a.2.2.2.2.2⟩ h.b c1 c2
  have ht:=LX h0 rfl hb
  have hk:inK .u8 p.U:=hp.2.2.1
  have e0:dw p.U b=cD p.U b:=qo hk hb
  have es:=uz (p:=p.U) hb
  rw[hu,if_neg (by decide)] at es
  obtain ⟨m,pr,P,I,U⟩:=p
  simp only at hm hu hI hz ht hk e0 es hlen hU
  obtain ⟨hz1,hz2⟩:=hz
  subst hm hI hz1 hz2
  have YT:128<=b->eL ⟨0,0,[],[],U⟩ b=(⟨0,0,[],[],(cD U b).1⟩,(cD U b).2.map prF):=fun h8=>by
   unfold eL iS
   simp only
   rw[if_neg (by omega),if_neg (by omega),if_neg (by omega),if_neg (by omega),if_neg (by omega),if_pos trivial]
   rfl
  unfold ie dy
  simp only
  rw[if_pos ⟨trivial,hlen⟩,ht]
  have hkeep:uF ⟨0,0,[],[],U⟩ b↔(128<=b/\((cD U b).2.length=0\/(cD U b).2.getD 0 0≠65533\/((cD U b).2.length=1/\(cD U b).1.length=0/\iq U b=true))):=by
   unfold uF;simp only[e0]
  have OH:zz ⟨0,0,[],[],U⟩ b=(decide (1<(cD U b).2.length) || (decide ((cD U b).2.length=1) && decide (0<(cD U b).1.length))):=by
   unfold zz;simp[hlen]
  rw[e0]
  cases hg:good (U++ [b]) with
  | some r=>
   rw[hg] at es
   simp only at es
   obtain ⟨g1,g2⟩:=abI hk hu hb hg
   rw[es] at hkeep OH YT ⊢
   rw[if_pos (hkeep.2 ⟨g1, ?_⟩),OH,YT g1]
   ·rfl
   ·by_cases hr:r=65533
    ·obtain ⟨q1,q2⟩:=g2 hr
     exact .inr (.inr ⟨rfl,rfl,by unfold iq;simp[q1,q2]⟩)
    ·exact .inr (.inl (by simpa using hr))
  | none=>
   rw[hg] at es
   simp only at es
   by_cases hq:cR (U++ [b])=true
   ·rw[if_pos hq] at es
    have g1:=aaC hk hu hb hq
    rw[es] at hkeep OH YT ⊢
    rw[if_pos (hkeep.2 ⟨g1,.inl rfl⟩),OH,YT g1]
    rfl
   ·rw[if_neg hq] at es
    rw[es] at hkeep OH
    have hone:(one b).2.length<=1/\(128<=b->1<=(one b).1.length+(one b).2.length/\((one b).1.length=0->(one b).2.length=1))/\(b<128->(one b).2.length=1):=by
     unfold one
     refine ⟨?_,fun h8=>?_,fun h8=>?_⟩
     ·split
      ·simp
      ·split <;> simp
     ·rw[if_neg (by omega)]
      split <;> simp
     ·rw[if_pos h8];rfl
    have adk:zz ⟨0,0,[],[],U⟩ b=true:=by
     rw[OH]
     simp only[List.length_cons,Bool.or_eq_true,decide_eq_true_eq,Bool.and_eq_true]
     omega
    have abq:¬uF ⟨0,0,[],[],U⟩ b:=fun hx=>by
     have:=hkeep.1 hx
     simp only[List.length_cons,List.getD_cons_zero,ne_eq,not_true_eq_false,false_or] at this
     obtain ⟨g1,g2⟩:=this
     have:=hone.2.1 g1
     omega
    rw[if_neg abq,adk,if_pos rfl]
    rfl
theorem F5 (h:Rt p)(hb:0<=b/\b<=255):Rt (eL p b).1:=by
 obtain ⟨c1,c2⟩:=id h.i
 obtain ⟨⟨a1,a2,a3,a4,a5,a6⟩,hB,_⟩:=id h
 have hit:∀{c:Prop} [Decidable c] {x y:Pa × List Ac},(c->Rt x.1)->(¬c->Rt y.1)->Rt (if c then x else y).1:=fun h1 h2=>by split;exact h1 ‹_›;exact h2 ‹_›
 have h0:Rt (pa0 0):=Rt.pa0 (by decide)
 have h6:Rt (pa0 6):=Rt.pa0 (by decide)
 unfold eL
 refine hit (fun _=>h0) fun _=>hit (fun _=>Rt.pa0 (by decide)) fun _=>hit (fun _=>h0) fun _=>hit (fun _=>h) fun hn7=>hit (fun _=>h) fun hb32=>hit (fun hm=>?_) fun _=>hit (fun _=>h0) fun _=>hit (fun _=>?_) fun _=>hit (fun hm=>?_) fun _=>hit (fun _=>?_) fun _=>hit (fun hm=>?_) fun _=>hit (fun hm=>?_) fun _=>?_
 ·obtain ⟨m,pr,P,I,U⟩:=p
  simp only at *
  refine Rt.mk0 ⟨a1,a2, ?_,a4,a5,a6⟩ hB c1 c2
  rcases Jk (p:=U) hb with h2 | h2
  ·exact .inl (by show (cD U b).1.length=0;rw[h2];rfl)
  ·exact .inr ⟨hm,h2⟩
 ·unfold jk
  refine hit (fun hv=>Rt.mk0 (m:=2) ⟨(show (0:Int)<=2 by decide),(show (2:Int)<=7 by decide),.inl rfl,.inr ⟨rfl,rfl⟩,by simp,.inl rfl⟩ (by simp) (fun _=>⟨by simp,by simp,by simpa using hv⟩) (by simp)) fun _=>hit (fun _=>Rt.pa0 (by decide)) fun _=>hit (fun _=>Rt.pa0 (by decide)) fun _=>h0
 ·unfold jC
  refine hit (fun _=>h0) fun hv=>hit (fun _=>Rt.pa0 (by decide)) fun hl=>?_
  obtain ⟨i1,i2,i3⟩:=c1 (.inl hm)
  refine Rt.mk0 ⟨a1,a2,a3,a4,a5,a6⟩ hB (fun _=>⟨by simp,by simp;omega,fun x hx=>?_⟩) (fun e=>absurd (.inl hm) e)
  rcases List.mem_append.1 hx with hx | hx
  ·exact i3 x hx
  ·simp at hx;subst hx;simpa using hv
 ·show Rt (if cW b=true then p else pa0 0)
  split
  ·exact h
  ·exact h0
 ·have hI:=c2 (by omega)
  unfold gX
  refine hit (fun hv=>Rt.mk0 (m:=5) ⟨(show (0:Int)<=5 by decide),(show (5:Int)<=7 by decide), ?_,.inl (.inr rfl),a5,a6⟩ hB (fun _=>⟨by simp,by simp,by simpa using hv⟩) (by simp)) fun _=>hit (fun _=>h0) fun h64=>hit (fun _=>h6) fun h58=>hit (fun h59=>Rt.mk0 ⟨a1,a2,a3,.inl (.inl hm),a5,.inr (show 60<=b/\b<=63 by omega)⟩ hB c1 c2) fun h59=>hit (fun hl=>hit (fun _=>?_) fun _=>?_) fun hl=>hit (fun _=>hit (fun _=>h6) fun h16=>?_) fun _=>?_
  ·rcases a3 with h2 | h2
   ·exact .inl h2
   ·omega
  ·exact Rt.mk0 ⟨a1,a2,a3,.inl (.inl hm),by simp,a6⟩ (by simp) c1 c2
  ·rename_i hv _
   rw[wG] at hv
   exact Rt.mk0 ⟨a1,a2,a3,.inl (.inl hm),by simp,a6⟩ (by simp;omega) c1 c2
  ·refine Rt.mk0 ⟨a1,a2,a3,.inl (.inl hm),by simp;omega,a6⟩ (fun n hn=>?_) c1 c2
   rcases List.mem_append.1 hn with hx | hx
   ·exact hB n hx
   ·simp at hx;omega
  ·rename_i hv _
   rw[wG] at hv
   refine Rt.mk0 ⟨a1,a2,a3,.inl (.inl hm),by simpa [mX] using a5,a6⟩ (fun n hn=>?_) c1 c2
   rcases List.mem_or_eq_of_mem_set hn with hx | rfl
   ·exact hB n hx
   ·have:=hB _ (vU (l:=p.P) (i:=p.P.length-1) (by omega))
    omega
 ·unfold jd
  refine hit (fun _=>h0) fun hv=>hit (fun _=>h6) fun hl=>?_
  obtain ⟨i1,i2,i3⟩:=c1 (.inr hm)
  refine Rt.mk0 ⟨a1,a2,a3,a4,a5,a6⟩ hB (fun _=>⟨by simp,by simp;omega,fun x hx=>?_⟩) (fun e=>absurd (.inr hm) e)
  rcases List.mem_append.1 hx with hx | hx
  ·exact i3 x hx
  ·simp at hx;subst hx
   have:¬cW x=false:=fun e=>hl (.inl e)
   simpa using this
 ·show Rt (if 64<=b then pa0 0 else p)
  split
  ·exact h0
  ·exact h
theorem Qw (h:Rt p)(hb:0<=b/\b<=255):Rt (dy p b).1:=by
 unfold dy
 split
 ·obtain ⟨c1,c2⟩:=h.i
  exact F5 (p:={ p with U:=[]}) (Rt.mk0 ⟨h.a.1,h.a.2.1,.inl rfl,h.a.2.2.2.1,h.a.2.2.2.2.1,h.a.2.2.2.2.2⟩ h.b c1 c2) hb
 ·exact F5 h hb
end Go.Proofs.YtjmnbpilnneonaaGreatDoor
