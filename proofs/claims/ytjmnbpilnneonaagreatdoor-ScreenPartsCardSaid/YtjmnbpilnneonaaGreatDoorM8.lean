/- Texts P34 in one. -/
import Derived.Test.YtjmnbpilnneonaaGreatDoorM7
set_option linter.unusedVariables false
set_option linter.unusedSimpArgs false
set_option maxRecDepth 10000
namespace Go.Proofs.YtjmnbpilnneonaaGreatDoor
open Go.RowKit
theorem vT (b:Int):(de b=true)=(32≤b∧b≤47):=by simp [de]
theorem ZB (b:Int):(de b=false)=¬(32≤b∧b≤47):=by rw [←vT];simp
structure Rt (p:Pa):Prop where
 a:prA p
 b:prB p
 c:prC p=true
theorem Rt.i {p:Pa}(h:Rt p):(p.m=2∨p.m=5→1≤p.I.length∧p.I.length≤2∧∀x∈p.I,de x=true)∧(¬(p.m=2∨p.m=5)→p.I=[]):=by
 have:=h.c
 unfold prC at this
 refine ⟨fun e=>?_,fun e=>?_⟩
 ·rw [if_pos e] at this;exact (ym _).1 this
 ·rw [if_neg e,decide_eq_true_eq] at this;exact List.eq_nil_of_length_eq_zero this
theorem Rt.mk0 {m pr:Int}{P I U:List Int}(a:prA ⟨m,pr,P,I,U⟩)(b:∀n∈P,0≤n∧n≤65535)(c:(m=2∨m=5→1≤I.length∧I.length≤2∧∀x∈I,de x=true))(d:¬(m=2∨m=5)→I=[]):Rt ⟨m,pr,P,I,U⟩:=by
 refine ⟨a,b, ?_⟩
 unfold prC
 split
 ·rename_i e;exact (ym _).2 (c e)
 ·rename_i e;rw [decide_eq_true_eq];show I.length=0;rw [d e];rfl
theorem Rt.pa0 {m:Int}(h:0≤m∧m≤7∧m≠2∧m≠5):Rt (pa0 m):=
 Rt.mk0 ⟨h.1,h.2.1,.inl rfl,.inr ⟨rfl,rfl⟩,by simp,.inl rfl⟩ (by simp) (fun e=>by omega) (fun _=>rfl)
theorem OB {p:Pa}{b:Int}(h:Rt p)(hU:p.U=[])(hb:0≤b∧b≤255):r7F p b=eG p b:=by
 have e0:cX [] b=cz [] b:=pq (fF _) hb
 obtain ⟨c1,c2⟩:=h.i
 obtain ⟨⟨a1,a2,a3,a4,a5,a6⟩,hB,_⟩:=h
 obtain ⟨m,pr,P,I,U⟩:=p
 simp only at *
 subst hU
 have hz:¬(m=4∨m=5)→pr=0∧P=[]:=fun h=>by
  rcases a4 with h2 | h2
  ·exact absurd h2 h
  ·exact ⟨h2.1,List.eq_nil_of_length_eq_zero h2.2⟩
 have hm:m=0∨m=1∨m=2∨m=3∨m=4∨m=5∨m=6∨m=7:=by omega
 clear a1 a2 a3 a4 a5 a6 hB
 unfold r7F eG
 rcases hm with rfl | rfl | rfl | rfl | rfl | rfl | rfl | rfl
 ·obtain ⟨rfl,rfl⟩:=hz (by omega)
  obtain rfl:=c2 (by omega)
  simp only [e0,iJ,pa0]
  rw [show (fun r:Int=>(⟨0,r,0,0,none,none⟩:Ac))=prF from rfl]
  clear hz c1 c2
  grind
 ·obtain ⟨rfl,rfl⟩:=hz (by omega)
  obtain rfl:=c2 (by omega)
  simp only [pa0]
  grind
 ·obtain ⟨rfl,rfl⟩:=hz (by omega)
  clear hz c1 c2
  simp only [pa0,jm]
  grind
 ·obtain ⟨rfl,rfl⟩:=hz (by omega)
  obtain rfl:=c2 (by omega)
  simp only [pa0,vT]
  grind
 ·obtain rfl:=c2 (by omega)
  clear hz c1 c2
  simp only [pa0,vT,kC,gG,List.nil_append,List.length_nil]
  grind
 ·clear hz c1 c2
  simp only [pa0,vT,ZB,kC,iS]
  grind
 ·obtain ⟨rfl,rfl⟩:=hz (by omega)
  obtain rfl:=c2 (by omega)
  simp only [pa0]
  grind
 ·obtain ⟨rfl,rfl⟩:=hz (by omega)
  obtain rfl:=c2 (by omega)
  simp only [pa0]
  grind
theorem aaw {U:List Int}{b r:Int}(hk:inK .u8 U)(hu:cO U=true)(hb:0≤b∧b≤255)(h:good (U++ [b])=some r):128≤b∧(r=65533→U=[239,191]∧b=189):=by
 have KE:∀q:List Int,good q=some r→(dec q).2=(q.length:Int)∧(dec q).1=r:=fun q hq=>by
  unfold good at hq
  split at hq
  ·rename_i hc;exact ⟨hc.1,sj hq⟩
  ·cases hq
 obtain ⟨g1,g2⟩:=KE _ h
 rcases tU hk hu with ⟨a,rfl,ha⟩ | ⟨a,b1,rfl,ha,hb1⟩ | ⟨a,b1,c,rfl,ha,hb1,hc⟩
 ·have hl:=xN a
  rw [List.singleton_append,aci ha] at g1 g2
  split at g1
  ·rename_i hc
   rw [if_pos hc] at g2
   simp only at g2
   exact ⟨by omega,fun e=>by omega⟩
  ·simp at g1
 ·have hl:=xN a
  rw [List.cons_append,List.singleton_append,ach ha] at g1 g2
  split at g1
  ·rename_i hc
   rw [if_pos hc] at g2
   simp only at g2
   refine ⟨by omega,fun e=>?_⟩
   have e1:a=239:=by omega
   have e2:b1=191:=by omega
   exact ⟨by rw [e1,e2],by omega⟩
  ·simp at g1
 ·have hl:=xN a
  rw [List.cons_append,List.cons_append,List.singleton_append,acg (by omega)] at g1 g2
  split at g1
  ·rename_i hc
   rw [if_pos hc] at g2
   simp only at g2
   exact ⟨by omega,fun e=>by omega⟩
  ·simp at g1
theorem ZG {U:List Int}{b:Int}(hk:inK .u8 U)(hu:cO U=true)(hb:0≤b∧b≤255)(h:cO (U++ [b])=true):128≤b:=by
 rcases tU hk hu with ⟨a,rfl,ha⟩ | ⟨a,b1,rfl,ha,hb1⟩ | ⟨a,b1,c,rfl,ha,hb1,hc⟩
 ·have hl:=xN a
  rw [List.singleton_append,Y9 (by omega),decide_eq_true_eq] at h
  omega
 ·have hl:=xN a
  rw [List.cons_append,List.singleton_append,Y8 (by omega),decide_eq_true_eq] at h
  omega
 ·rw [Y7 (by simp)] at h;cases h
theorem step_eq {p:Pa}{b:Int}(h:Rt p)(hp:dg p)(hb:0≤b∧b≤255):gR p b=cZ p b:=by
 by_cases hU:p.U=[]
 ·have h1:zT p b=false:=by unfold zT;simp [hU]
  unfold gR cZ
  rw [if_neg (by rw [hU];simp),h1,if_neg (by decide)]
  exact OB h hU hb
 ·have hlen:0<p.U.length:=List.length_pos_iff.2 hU
  obtain ⟨hm,hu⟩:p.m=0∧cO p.U=true:=by
   rcases h.a.2.2.1 with h2 | h2
   ·omega
   ·exact h2
  obtain ⟨c1,c2⟩:=h.i
  have hI:=c2 (by omega)
  have hz:p.pr=0∧p.P=[]:=by
   rcases h.a.2.2.2.1 with h2 | h2
   ·omega
   ·exact ⟨h2.1,List.eq_nil_of_length_eq_zero h2.2⟩
  have h0:Rt { p with U:=[]}:=Rt.mk0 ⟨h.a.1,h.a.2.1,.inl rfl,h.a.2.2.2.1,h.a.2.2.2.2.1,h.a.2.2.2.2.2⟩ h.b c1 c2
  have ht:=OB h0 rfl hb
  have hk:inK .u8 p.U:=hp.2.2.1
  have e0:cX p.U b=cz p.U b:=pq hk hb
  have es:=tT (p:=p.U) hb
  rw [hu,if_neg (by decide)] at es
  obtain ⟨m,pr,P,I,U⟩:=p
  simp only at hm hu hI hz ht hk e0 es hlen hU
  obtain ⟨hz1,hz2⟩:=hz
  subst hm hI hz1 hz2
  have Yw:128≤b→eG ⟨0,0,[],[],U⟩ b=(⟨0,0,[],[],(cz U b).1⟩,(cz U b).2.map prF):=fun h8=>by
   unfold eG iJ
   simp only
   rw [if_neg (by omega),if_neg (by omega),if_neg (by omega),if_neg (by omega),if_neg (by omega),if_pos trivial]
   rfl
  unfold gR cZ
  simp only
  rw [if_pos ⟨trivial,hlen⟩,ht]
  have hkeep:ua ⟨0,0,[],[],U⟩ b↔(128≤b∧((cz U b).2.length=0∨(cz U b).2.getD 0 0≠65533∨((cz U b).2.length=1∧(cz U b).1.length=0∧gV U b=true))):=by
   unfold ua;simp only [e0]
  have KG:zT ⟨0,0,[],[],U⟩ b=(decide (1<(cz U b).2.length) || (decide ((cz U b).2.length=1) && decide (0<(cz U b).1.length))):=by
   unfold zT;simp [hlen]
  rw [e0]
  cases hg:good (U++ [b]) with
  | some r=>
   rw [hg] at es
   simp only at es
   obtain ⟨g1,g2⟩:=aaw hk hu hb hg
   rw [es] at hkeep KG Yw ⊢
   rw [if_pos (hkeep.2 ⟨g1, ?_⟩),KG,Yw g1]
   ·rfl
   ·by_cases hr:r=65533
    ·obtain ⟨q1,q2⟩:=g2 hr
     exact .inr (.inr ⟨rfl,rfl,by unfold gV;simp [q1,q2]⟩)
    ·exact .inr (.inl (by simpa using hr))
  | none=>
   rw [hg] at es
   simp only at es
   by_cases hq:cO (U++ [b])=true
   ·rw [if_pos hq] at es
    have g1:=ZG hk hu hb hq
    rw [es] at hkeep KG Yw ⊢
    rw [if_pos (hkeep.2 ⟨g1,.inl rfl⟩),KG,Yw g1]
    rfl
   ·rw [if_neg hq] at es
    rw [es] at hkeep KG
    have hone:(one b).2.length≤1∧(128≤b→1≤(one b).1.length+(one b).2.length∧((one b).1.length=0→(one b).2.length=1))∧(b<128→(one b).2.length=1):=by
     unfold one
     refine ⟨?_,fun h8=>?_,fun h8=>?_⟩
     ·split
      ·simp
      ·split <;> simp
     ·rw [if_neg (by omega)]
      split <;> simp
     ·rw [if_pos h8];rfl
    have abV:zT ⟨0,0,[],[],U⟩ b=true:=by
     rw [KG]
     simp only [List.length_cons,Bool.or_eq_true,decide_eq_true_eq,Bool.and_eq_true]
     omega
    have aag:¬ua ⟨0,0,[],[],U⟩ b:=fun hx=>by
     have:=hkeep.1 hx
     simp only [List.length_cons,List.getD_cons_zero,ne_eq,not_true_eq_false,false_or] at this
     obtain ⟨g1,g2⟩:=this
     have:=hone.2.1 g1
     omega
    rw [if_neg aag,abV,if_pos rfl]
    rfl
theorem Iv {p:Pa}{b:Int}(h:Rt p)(hb:0≤b∧b≤255):Rt (eG p b).1:=by
 obtain ⟨c1,c2⟩:=id h.i
 obtain ⟨⟨a1,a2,a3,a4,a5,a6⟩,hB,_⟩:=id h
 have hit:∀{c:Prop} [Decidable c] {x y:Pa × List Ac},(c→Rt x.1)→(¬c→Rt y.1)→Rt (if c then x else y).1:=fun h1 h2=>by split;exact h1 ‹_›;exact h2 ‹_›
 have h0:Rt (pa0 0):=Rt.pa0 (by decide)
 have h6:Rt (pa0 6):=Rt.pa0 (by decide)
 unfold eG
 refine hit (fun _=>h0) fun _=>hit (fun _=>Rt.pa0 (by decide)) fun _=>hit (fun _=>h0) fun _=>hit (fun _=>h) fun hn7=>hit (fun _=>h) fun hb32=>hit (fun hm=>?_) fun _=>hit (fun _=>h0) fun _=>hit (fun _=>?_) fun _=>hit (fun hm=>?_) fun _=>hit (fun _=>?_) fun _=>hit (fun hm=>?_) fun _=>hit (fun hm=>?_) fun _=>?_
 ·obtain ⟨m,pr,P,I,U⟩:=p
  simp only at *
  refine Rt.mk0 ⟨a1,a2, ?_,a4,a5,a6⟩ hB c1 c2
  rcases MD (p:=U) hb with h2 | h2
  ·exact .inl (by show (cz U b).1.length=0;rw [h2];rfl)
  ·exact .inr ⟨hm,h2⟩
 ·unfold iY
  refine hit (fun hv=>Rt.mk0 (m:=2) ⟨(show (0:Int)≤2 by decide),(show (2:Int)≤7 by decide),.inl rfl,.inr ⟨rfl,rfl⟩,by simp,.inl rfl⟩ (by simp) (fun _=>⟨by simp,by simp,by simpa using hv⟩) (by simp)) fun _=>hit (fun _=>Rt.pa0 (by decide)) fun _=>hit (fun _=>Rt.pa0 (by decide)) fun _=>h0
 ·unfold jm
  refine hit (fun _=>h0) fun hv=>hit (fun _=>Rt.pa0 (by decide)) fun hl=>?_
  obtain ⟨i1,i2,i3⟩:=c1 (.inl hm)
  refine Rt.mk0 ⟨a1,a2,a3,a4,a5,a6⟩ hB (fun _=>⟨by simp,by simp;omega,fun x hx=>?_⟩) (fun e=>absurd (.inl hm) e)
  rcases List.mem_append.1 hx with hx | hx
  ·exact i3 x hx
  ·simp at hx;subst hx;simpa using hv
 ·show Rt (if de b=true then p else pa0 0)
  split
  ·exact h
  ·exact h0
 ·have hI:=c2 (by omega)
  unfold gG
  refine hit (fun hv=>Rt.mk0 (m:=5) ⟨(show (0:Int)≤5 by decide),(show (5:Int)≤7 by decide), ?_,.inl (.inr rfl),a5,a6⟩ hB (fun _=>⟨by simp,by simp,by simpa using hv⟩) (by simp)) fun _=>hit (fun _=>h0) fun h64=>hit (fun _=>h6) fun h58=>hit (fun h59=>Rt.mk0 ⟨a1,a2,a3,.inl (.inl hm),a5,.inr (show 60≤b∧b≤63 by omega)⟩ hB c1 c2) fun h59=>hit (fun hl=>hit (fun _=>?_) fun _=>?_) fun hl=>hit (fun _=>hit (fun _=>h6) fun h16=>?_) fun _=>?_
  ·rcases a3 with h2 | h2
   ·exact .inl h2
   ·omega
  ·exact Rt.mk0 ⟨a1,a2,a3,.inl (.inl hm),by simp,a6⟩ (by simp) c1 c2
  ·rename_i hv _
   rw [vT] at hv
   exact Rt.mk0 ⟨a1,a2,a3,.inl (.inl hm),by simp,a6⟩ (by simp;omega) c1 c2
  ·refine Rt.mk0 ⟨a1,a2,a3,.inl (.inl hm),by simp;omega,a6⟩ (fun n hn=>?_) c1 c2
   rcases List.mem_append.1 hn with hx | hx
   ·exact hB n hx
   ·simp at hx;omega
  ·rename_i hv _
   rw [vT] at hv
   refine Rt.mk0 ⟨a1,a2,a3,.inl (.inl hm),by simpa [mI] using a5,a6⟩ (fun n hn=>?_) c1 c2
   rcases List.mem_or_eq_of_mem_set hn with hx | rfl
   ·exact hB n hx
   ·have:=hB _ (KK (l:=p.P) (i:=p.P.length-1) (by omega))
    omega
 ·unfold iS
  refine hit (fun _=>h0) fun hv=>hit (fun _=>h6) fun hl=>?_
  obtain ⟨i1,i2,i3⟩:=c1 (.inr hm)
  refine Rt.mk0 ⟨a1,a2,a3,a4,a5,a6⟩ hB (fun _=>⟨by simp,by simp;omega,fun x hx=>?_⟩) (fun e=>absurd (.inr hm) e)
  rcases List.mem_append.1 hx with hx | hx
  ·exact i3 x hx
  ·simp at hx;subst hx
   have:¬de x=false:=fun e=>hl (.inl e)
   simpa using this
 ·show Rt (if 64≤b then pa0 0 else p)
  split
  ·exact h0
  ·exact h
theorem TA {p:Pa}{b:Int}(h:Rt p)(hb:0≤b∧b≤255):Rt (cZ p b).1:=by
 unfold cZ
 split
 ·obtain ⟨c1,c2⟩:=h.i
  exact Iv (p:={ p with U:=[]}) (Rt.mk0 ⟨h.a.1,h.a.2.1,.inl rfl,h.a.2.2.2.1,h.a.2.2.2.2.1,h.a.2.2.2.2.2⟩ h.b c1 c2) hb
 ·exact Iv h hb
end Go.Proofs.YtjmnbpilnneonaaGreatDoor
