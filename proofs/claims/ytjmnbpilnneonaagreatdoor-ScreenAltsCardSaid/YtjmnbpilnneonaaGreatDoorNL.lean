/- Texts C15, R26 in one. -/
import Derived.Test.YtjmnbpilnneonaaGreatDoorNA
import Derived.Test.YtjmnbpilnneonaaGreatDoorNK
set_option linter.unusedVariables false
set_option linter.unusedSimpArgs false
set_option maxRecDepth 10000
namespace Go.Proofs.YtjmnbpilnneonaaGreatDoor
open Go.RowKit
def SOt (s t:Sc):Prop:=t.other=s.other/\t.oy=s.oy/\t.ox=s.ox
theorem SOt.refl (s:Sc):SOt s s:=⟨rfl,rfl,rfl⟩
theorem SOt.trans {a b c:Sc}(h:SOt a b)(k:SOt b c):SOt a c:=⟨k.1.trans h.1,k.2.1.trans h.2.1,k.2.2.trans h.2.2⟩
def ae1 (s t:Sc):Prop:=t.alt=s.alt/\SOt s t
theorem ae1.refl (s:Sc):ae1 s s:=⟨rfl,.refl s⟩
theorem ae1.trans {a b c:Sc}(h:ae1 a b)(k:ae1 b c):ae1 a c:=⟨k.1.trans h.1,h.2.trans k.2⟩
theorem ae0 {c:Prop} [Decidable c] {s x y:Sc}(h1:ae1 s x)(h2:ae1 s y):ae1 s (if c then x else y):=by split <;> assumption
theorem ae6 (s:Sc):ae1 s (cH s):=by
 unfold cH
 exact ae0 ⟨rfl,rfl,rfl,rfl⟩ (ae0 ⟨rfl,rfl,rfl,rfl⟩ ⟨rfl,rfl,rfl,rfl⟩)
theorem afo (s:Sc):ae1 s (gE s):=by
 have n:=ae6 s
 unfold gE
 exact ae0 ⟨n.1,n.2⟩ (.refl s)
theorem afi (s:Sc)(r:Int)(n:Nat):ae1 s (jY s r n):=by
 unfold jY
 exact ae0 ⟨rfl,rfl,rfl,rfl⟩ ⟨rfl,rfl,rfl,rfl⟩
theorem ae7 (s:Sc)(r:Int):ae1 s (je s r):=by
 have w:=afo s
 have n:=ae6 (gE s)
 unfold je
 refine ae0 (.refl s) (ae0 (ae0 w (ae1.trans (b:={ cH (gE s) with x:=0}) ⟨n.1.trans w.1,w.2.trans n.2⟩ (afi _ _ _))) (w.trans (afi _ _ _)))
theorem afv (s:Sc)(b:Int):ae1 s (xD s b):=by
 have n:=ae6 s
 unfold xD
 exact ae0 ⟨rfl,rfl,rfl,rfl⟩ (ae0 ⟨rfl,rfl,rfl,rfl⟩ (ae0 n (ae0 ⟨rfl,rfl,rfl,rfl⟩ (.refl s))))
theorem afm (s:Sc)(row:Bool)(k:Int):ae1 s (fW s row k):=by
 unfold fW
 exact ae0 ⟨rfl,rfl,rfl,rfl⟩ ⟨rfl,rfl,rfl,rfl⟩
theorem afw (s:Sc)(b:Int)(ps:List Int):ae1 s (eS s b ps):=by
 have k:∀{t:Sc},t.alt=s.alt->t.other=s.other->t.oy=s.oy->t.ox=s.ox->ae1 s t:=fun a b c d=>⟨a,b,c,d⟩
 unfold eS
 dsimp only
 repeat' apply ae0
 all_goals first | exact .refl s | exact afm _ _ _ | exact k rfl rfl rfl rfl
theorem afC {s:Sc}(h:s.alt=true)(k r b pv:Int)(ps is:List Int)(g:(doF s k r b pv ps is).alt=true):SOt s (doF s k r b pv ps is):=by
 unfold doF at g ⊢
 split
 ·exact (ae7 s r).2
 split
 ·exact (afv s b).2
 split
 ·rename_i h1 h2 h3
  rw[if_neg h1,if_neg h2,if_pos h3] at g
  have n:=ae6 s
  unfold jS at g ⊢
  split
  ·exact ⟨rfl,rfl,rfl⟩
  split
  ·exact ⟨rfl,rfl,rfl⟩
  split
  ·exact n.2
  split
  ·exact n.2
  split
  ·split <;> exact ⟨rfl,rfl,rfl⟩
  split
  ·exact ⟨rfl,rfl,rfl⟩
  split
  ·rename_i a1 a2 a3 a4 a5 a6 a7
   rw[if_neg a1,if_neg a2,if_neg a3,if_neg a4,if_neg a5,if_neg a6,if_pos a7] at g
   exact absurd g (by simp[newF])
  ·exact .refl s
 split
 ·exact (afw s b ps).2
 split
 ·rename_i h1 h2 h3 h4 h5
  rw[if_neg h1,if_neg h2,if_neg h3,if_neg h4,if_pos h5] at g
  split
  ·rename_i h6
   rw[if_pos h6] at g
   have key:∀(on:Bool) (ps:List Int) (s:Sc),(on=true->s.alt=true->SOt s (ps.foldl (eD on) s)/\(ps.foldl (eD on) s).alt=true)/\(on=false->s.alt=false->(ps.foldl (eD on) s).alt=false)/\(on=false->s.alt=true->(ps.foldl (eD on) s).alt=true->SOt s (ps.foldl (eD on) s)):=by
    intro on ps
    induction ps with
    | nil=>intro s;exact ⟨fun _ h=>⟨.refl s,h⟩,fun _ h=>h,fun _ _ _=> .refl s⟩
    | cons a l ih=>
     intro s
     simp only[List.foldl_cons]
     have i:=ih (eD on s a)
     refine ⟨fun e hs=>?_,fun e hs=>?_,fun e hs hg=>?_⟩
     ·have m:SOt s (eD on s a)/\(eD on s a).alt=true:=by
       unfold eD
       split
       ·exact ⟨⟨rfl,rfl,rfl⟩,hs⟩
       split
       ·exact ⟨⟨rfl,rfl,rfl⟩,hs⟩
       split
       ·rename_i q;rw[hs] at q;cases q.2.2
       split
       ·rename_i q;rw[e] at q;cases q.2.1
       ·exact ⟨.refl s,hs⟩
      have:=i.1 e m.2
      exact ⟨m.1.trans this.1,this.2⟩
     ·have m:(eD on s a).alt=false:=by
       unfold eD
       split
       ·exact hs
       split
       ·exact hs
       split
       ·rename_i q;rw[e] at q;cases q.2.1
       split
       ·rfl
       ·exact hs
      exact i.2.1 e m
     ·cases hm:(eD on s a).alt with
      | false=>rw[i.2.1 e hm] at hg;cases hg
      | true=>
       have m:SOt s (eD on s a):=by
        unfold eD at hm ⊢
        split
        ·exact ⟨rfl,rfl,rfl⟩
        split
        ·exact ⟨rfl,rfl,rfl⟩
        split
        ·rename_i q;rw[e] at q;cases q.2.1
        split
        ·rename_i q1 q2 q3 q4
         rw[if_neg q1,if_neg q2,if_neg q3,if_pos q4] at hm
         cases hm
        ·exact .refl s
       exact m.trans (i.2.2 e hm hg)
   cases hb:decide (b=104) with
   | true=>exact ((key true ps s).1 rfl h).1
   | false=>rw[hb] at g;exact (key false ps s).2.2 rfl h g
  ·exact .refl s
 ·exact .refl s
def PrL:List Ac->Prop
 | []=>True
 | [_]=>True
 | a::l=>a.k=0/\PrL l
theorem afs (l:List Int):PrL (l.map fun r=>(⟨0,r,0,0,none,none⟩:Ac)):=by
 induction l with
 | nil=>trivial
 | cons a l ih=>
  cases l with
  | nil=>trivial
  | cons b l=>exact ⟨rfl,ih⟩
theorem afc (p:Pa)(b:Int):PrL (eL p b).2:=by
 have c0:∀{c:Prop} [Decidable c] {x y:Pa × List Ac},PrL x.2->PrL y.2->PrL (if c then x else y).2:=fun {c} _ {x y} h1 h2=>by split <;> assumption
 have hg:PrL (iS p b).2:=afs _
 unfold eL jk jC gX jd jU
 repeat' (first | exact hg | trivial | apply c0)
theorem afl (p:Pa)(b:Int):PrL (dy p b).2:=by
 unfold dy
 split
 ·have:=afc { p with U:=[]} b
  cases h:(eL { p with U:=[]} b).2 with
  | nil=>simp only[h];trivial
  | cons a l=>rw[h] at this;simp only[h];exact ⟨rfl,this⟩
 ·exact afc p b
theorem afj:∀{l:List Ac} {s:Sc},PrL l->s.alt=true->(l.foldl ug s).alt=true->SOt s (l.foldl ug s)
 | [],s,_,_,_=> .refl s
 | [a],s,_,h,g=>afC h _ _ _ _ _ _ g
 | a::b::l,s,hp,h,g=>by
  have e:ug s a=je s a.r:=by unfold ug doF;rw[if_pos hp.1]
  simp only[List.foldl_cons] at g ⊢
  have st:=ae7 s a.r
  rw[e] at g ⊢
  exact st.2.trans (afj (l:=b::l) hp.2 (st.1.trans h) g)
theorem afg {x:Sc × Pa}{c:Int}(h:x.1.alt=true)(g:(eJ x c).1.alt=true):SOt x.1 (eJ x c).1:=afj (afl _ _) h g
theorem aft {l:List Int}{x:Sc × Pa}(h:x.1.alt=true)(g:∀i≤l.length,((l.take i).foldl eJ x).1.alt=true):SOt x.1 (l.foldl eJ x).1:=by
 have:∀i,i<=l.length->SOt x.1 ((l.take i).foldl eJ x).1:=by
  intro i
  induction i with
  | zero=>intro _;exact .refl _
  | succ i ih=>
   intro hi
   have e:=Dy (x:=x) (l:=l) (i:=i) (by omega)
   have g2:=g (i+1) hi
   rw[e] at g2 ⊢
   exact (ih (by omega)).trans (afg (g i (by omega)) g2)
 have:=this l.length (Nat.le_refl _)
 rwa [List.take_length] at this
theorem afz {x:Sc × Pa}:(eJ x 24).2=pa0 0/\(x.1.alt=true->(eJ x 24).1.alt=true):=by
 have hv:(dy x.2 24).1=pa0 0/\((dy x.2 24).2=[]\/∃a,(dy x.2 24).2=[a]/\a.k=0):=by
  unfold dy
  split
  ·exact ⟨rfl,.inr ⟨_,rfl,rfl⟩⟩
  ·exact ⟨rfl,.inl rfl⟩
 unfold eJ
 refine ⟨hv.1,fun h=>?_⟩
 dsimp only
 rcases hv.2 with e | ⟨a,e,ha⟩
 ·rw[e];exact h
 ·rw[e]
  show (ug x.1 a).alt=true
  unfold ug doF
  rw[if_pos ha]
  exact (ae7 _ _).1.trans h
theorem afu (s:Sc):[27,91,63,49,48,52,57,104].foldl eJ (s,pa0 0)=(eD true s 1049,pa0 0):=by kernel_rfl
theorem afp (s:Sc):[27,91,63,49,48,52,57,108].foldl eJ (s,pa0 0)=(eD false s 1049,pa0 0):=by kernel_rfl
theorem afd (x:Sc × Pa):[24,27,91,63,49,48,52,57,108].foldl eJ x=(eD false (eJ x 24).1 1049,pa0 0):=by
 have e:eJ x 24=((eJ x 24).1,pa0 0):=by rw[<-(afz (x:=x)).1]
 rw[List.foldl_cons,e]
 exact afp _
noncomputable def afa:RC:=(.seq (SR [MV 68 12,MV 69 11,OP 70 (.len (.t 69)),BT 71 .lss 68 70] [9,10,11,12,13,71] (.cond (.t 71) .skip (.ext 0))) (.seq (.blk 1 (.seq (.cJ (.take (LT 74 24 13) [] (.take (MV 75 11) [] (.take (MV 76 12) [] (.take (MV 77 12) [] (.take (BI 78 .add 77 1) [] (.take (OP 79 (.slice 1 (.t 75) (some (.t 76)) (some (.t 78)) none)) [] (.mid (OP 80 (.call 14 [.t 74,.t 79])) (.op (SA 24 13 80) .done)))))))) 0 [9,10,11,12,13]) (SR [FA 81 15 13,LD 82 81,OP 83 (.un .not (.t 82))] [9,10,11,12,13,83] (.cond (.t 83) (SR [LT 84 24 10,MV 85 11,OP 86 (.call 13 [.t 84,.t 85]),OP 87 (.call 10 [.t 86]),MV 8 87] [8] .ret) .skip)))) (.seq (SR [LT 88 24 13] [9,10,11,12,88] (.reg [OP 13 (.alloc ZS),SA 24 13 88] 0 [9,10,11,12,13])) (.reg [MV 72 12,BI 73 .add 72 1,MV 12 73] 0 [9,10,11,12,13]))))
noncomputable def ae2:RFn:=⟨4,126,(SR [MB 8 false] [0,1,2,3] (.seq (SR [OP 15 (.call 8 []),OP 16 (.un .not (.t 15))] [0,1,2,3,16] (.cond (.t 16) (SR [MB 8 false] [8] .ret) .skip)) (.seq (SR [MV 17 2,OP 18 (.len (.t 17)),BI 19 .gtr 18 30,MV 20 19,MG 21 3 20 false,OG 22 (.len (.t 21)) 20 false,OG 23 (.bin .gtr (.t 22) (.c (.int .i64 30))) 20 false,OP 24 (.pick (.t 20) (.c (.bool true)) (.t 23))] [0,1,2,3,24] (.cond (.t 24) (SR [MB 8 true] [8] .ret) .skip)) (SR [MV 25 0,MV 26 1,MV 27 2,OP 28 (.call 9 [.t 25,.t 26,.t 27]),OP 9 (.alloc ZS),SA 24 9 28] [3,9] (SR [LT 29 24 9,OP 30 (.bK 1 [.int .u8 0] 9 [(0,(.c (.int .u8 24))),(1,(.c (.int .u8 27))),(2,(.c (.int .u8 91))),(3,(.c (.int .u8 63))),(4,(.c (.int .u8 49))),(5,(.c (.int .u8 48))),(6,(.c (.int .u8 52))),(7,(.c (.int .u8 57))),(8,(.c (.int .u8 108)))]),⟨some 31,.conv .lit (.t 30),none,true⟩,OP 32 (.call 13 [.t 29,.t 31]),SA 24 9 32] [3,9] (SR [LT 33 24 9,OP 34 (.bK 1 [.int .u8 0] 8 [(0,(.c (.int .u8 27))),(1,(.c (.int .u8 91))),(2,(.c (.int .u8 63))),(3,(.c (.int .u8 49))),(4,(.c (.int .u8 48))),(5,(.c (.int .u8 52))),(6,(.c (.int .u8 57))),(7,(.c (.int .u8 104)))]),⟨some 35,.conv .lit (.t 34),none,true⟩,OP 36 (.call 13 [.t 33,.t 35]),OP 10 (.alloc ZS),SA 24 10 36] [3,9,10] (.seq (.seq (.cJ (.take (FA 37 15 10) [] (.take (LD 38 37) [] (.take (OP 39 (.un .not (.t 38))) [] (.take (MV 40 39) [] (.take (FG 43 0 9 40 false) [] (.take (LG 44 43 40 false) [] (.take (FG 45 1 9 40 false) [] (.take (LG 46 45 40 false) [] (.alt (.op (FG 41 2 10 40 false) (.alt (.op (LG 42 41 40 false) (.op ⟨some 47,.call 19 [.t 44,.t 46],some (40,false),true⟩ (.mid (OG 48 (.call 18 [.t 42,.t 47]) 40 false) (.take (OG 49 (.un .not (.t 48)) 40 false) [] (.take (OP 50 (.pick (.t 40) (.c (.bool true)) (.t 49))) [] (.take (MV 51 50) [] (.take (FG 52 3 10 51 false) [] (.take (LG 53 52 51 false) [] (.take (FG 54 3 9 51 false) [] (.take (LG 55 54 51 false) [] (.take (OG 56 (.bin .neq (.t 53) (.t 55)) 51 false) [] (.take (OP 57 (.pick (.t 51) (.c (.bool true)) (.t 56))) [] (.take (MV 58 57) [] (.take (FG 59 4 10 58 false) [] (.take (LG 60 59 58 false) [] (.take (FG 61 4 9 58 false) [] (.take (LG 62 61 58 false) [] (.take (OG 63 (.bin .neq (.t 60) (.t 62)) 58 false) [] (.take (OP 64 (.pick (.t 58) (.c (.bool true)) (.t 63))) [] .done))))))))))))))))))) (.op ⟨some 47,.call 19 [.t 44,.t 46],some (40,false),true⟩ (.take (LG 42 41 40 false) [] (.mid (OG 48 (.call 18 [.t 42,.t 47]) 40 false) (.take (OG 49 (.un .not (.t 48)) 40 false) [] (.take (OP 50 (.pick (.t 40) (.c (.bool true)) (.t 49))) [] (.take (MV 51 50) [] (.take (FG 52 3 10 51 false) [] (.take (LG 53 52 51 false) [] (.take (FG 54 3 9 51 false) [] (.take (LG 55 54 51 false) [] (.take (OG 56 (.bin .neq (.t 53) (.t 55)) 51 false) [] (.take (OP 57 (.pick (.t 51) (.c (.bool true)) (.t 56))) [] (.take (MV 58 57) [] (.take (FG 59 4 10 58 false) [] (.take (LG 60 59 58 false) [] (.take (FG 61 4 9 58 false) [] (.take (LG 62 61 58 false) [] (.take (OG 63 (.bin .neq (.t 60) (.t 62)) 58 false) [] (.take (OP 64 (.pick (.t 58) (.c (.bool true)) (.t 63))) [] .done))))))))))))))))))))) (.op ⟨some 47,.call 19 [.t 44,.t 46],some (40,false),true⟩ (.take (FG 41 2 10 40 false) [] (.take (LG 42 41 40 false) [] (.mid (OG 48 (.call 18 [.t 42,.t 47]) 40 false) (.take (OG 49 (.un .not (.t 48)) 40 false) [] (.take (OP 50 (.pick (.t 40) (.c (.bool true)) (.t 49))) [] (.take (MV 51 50) [] (.take (FG 52 3 10 51 false) [] (.take (LG 53 52 51 false) [] (.take (FG 54 3 9 51 false) [] (.take (LG 55 54 51 false) [] (.take (OG 56 (.bin .neq (.t 53) (.t 55)) 51 false) [] (.take (OP 57 (.pick (.t 51) (.c (.bool true)) (.t 56))) [] (.take (MV 58 57) [] (.take (FG 59 4 10 58 false) [] (.take (LG 60 59 58 false) [] (.take (FG 61 4 9 58 false) [] (.take (LG 62 61 58 false) [] (.take (OG 63 (.bin .neq (.t 60) (.t 62)) 58 false) [] (.take (OP 64 (.pick (.t 58) (.c (.bool true)) (.t 63))) [] .done))))))))))))))))))))))))))))) 0 [3,9,10,64]) (.cond (.t 64) (SR [MB 8 false] [8] .ret) .skip)) (SR [MV 65 3,OP 66 (.call 12 [.t 65]),MV 11 66] [9,10,11] (.seq (.seq (.cJ (.take (LT 67 24 10) [] (.op (OP 13 (.alloc ZS)) (.take (OP 12 (.mov (.c (.int .i64 0)))) [] (.op (SA 24 13 67) .done)))) 0 [9,10,11,12,13]) (.blk 0 (.loop afa))) (SR [LT 89 24 10,MV 90 11,OP 91 (.call 13 [.t 89,.t 90]),SA 24 10 91] [9,10] (SR [LT 92 24 10,OP 93 (.bK 1 [.int .u8 0] 9 [(0,(.c (.int .u8 24))),(1,(.c (.int .u8 27))),(2,(.c (.int .u8 91))),(3,(.c (.int .u8 63))),(4,(.c (.int .u8 49))),(5,(.c (.int .u8 48))),(6,(.c (.int .u8 52))),(7,(.c (.int .u8 57))),(8,(.c (.int .u8 108)))]),⟨some 94,.conv .lit (.t 93),none,true⟩,OP 95 (.call 13 [.t 92,.t 94]),OP 14 (.alloc ZS),SA 24 14 95] [9,14] (SR [FA 96 15 14,LD 97 96,OP 98 (.un .not (.t 97)),MV 99 98,FG 100 2 14 99 true,LG 101 100 99 true,FG 102 2 9 99 true,LG 103 102 99 true,OG 104 (.call 18 [.t 101,.t 103]) 99 true,OP 105 (.pick (.t 99) (.t 104) (.c (.bool false))),MV 106 105,FG 107 3 14 106 true,LG 108 107 106 true,FG 109 3 9 106 true,LG 110 109 106 true,OG 111 (.bin .eql (.t 108) (.t 110)) 106 true,OP 112 (.pick (.t 106) (.t 111) (.c (.bool false))),MV 113 112,FG 114 4 14 113 true,LG 115 114 113 true,FG 116 4 9 113 true,LG 117 116 113 true,OG 118 (.bin .eql (.t 115) (.t 117)) 113 true,OP 119 (.pick (.t 113) (.t 118) (.c (.bool false))),MV 120 119,FG 121 16 14 120 true,LG 122 121 120 true,OG 123 (.len (.t 122)) 120 true,OG 124 (.bin .eql (.t 123) (.c (.int .i64 0))) 120 true,OP 125 (.pick (.t 120) (.t 124) (.c (.bool false))),MV 8 125] [8] .ret)))))))))))),[.t 8]⟩
theorem ae3:aK PG.P (aA PG.P 5 ae2) 5=some ae2:=by kernel_rfl
theorem afn {rows aa:Nat}(h1:1<=rows/\rows<=1000)(h2:1<=aa/\aa<=1000):av PG 19 [.int .i64 rows,.int .i64 aa] fun n r os=>r=.own n 0 (rows*aa)/\os=[some (.arr 3 (aq (dV rows aa)))]:=
 av.acZ (res:=fun n=>(.own n 0 (rows*aa),[some (.arr 3 (aq (dV rows aa)))])) fun n T _=>FU h1 h2 fun T' p hp hc k=>RN hc (mu _)
def afh:List DV->Option aS
 | [.int .i64 r,.int .i64 c]=>some ⟨(1<=r/\r<=1000)/\(1<=c/\c<=1000),fun n=>(.own n 0 (r.toNat*c.toNat),[some (.arr 3 (aq (dV r.toNat c.toNat)))])⟩
 | _=>none
theorem afy (r c:Int):afh [.int .i64 r,.int .i64 c]=some ⟨(1<=r/\r<=1000)/\(1<=c/\c<=1000),fun n=>(.own n 0 (r.toNat*c.toNat),[some (.arr 3 (aq (dV r.toNat c.toNat)))])⟩:=ak _
theorem afB (args:List DV)(s:aS)(hs:afh args=some s)(hp:s.pre):av PG 19 args fun n r os=>r=(s.res n).1/\os=(s.res n).2:=by
 unfold afh at hs
 split at hs
 ·rename_i r c
  obtain rfl:=sj hs
  obtain ⟨h1,h2⟩:=hp
  obtain ⟨a,rfl⟩:∃a:Nat,r=a:=⟨r.toNat,by omega⟩
  obtain ⟨b,rfl⟩:∃b:Nat,c=b:=⟨c.toNat,by omega⟩
  dsimp only
  rw[Int.toNat_natCast,Int.toNat_natCast]
  exact afn (by omega) (by omega)
 ·cases hs
noncomputable def TAl:FL:=(18,.o oA)::(19,.o afh)::TFd
theorem afe:FOk PG (tab TAl):=FOk.cons (FOk.cons Be afB) Ja
theorem afA (args:List DV):tab TAl 18 args=(oA args).map .o:=ak _
theorem afG (args:List DV):tab TAl 19 args=(afh args).map .o:=ak _
theorem afk (args:List DV):tab TAl 13 args=(l5 args).map .o:=ak _
theorem afr (args:List DV):tab TAl 14 args=(l5 args).map .o:=ak _
theorem afH (args:List DV):tab TAl 12 args=(PR args).map .o:=ak _
theorem ae8 (args:List DV):tab TAl 8 args=none:=ak _
theorem afF (args:List DV):tab TAl 9 args=none:=ak _
theorem aff (args:List DV):tab TAl 10 args=none:=ak _
def afb (x : Sc × Pa) : List DV := [.int .i64 x.1.rows, .int .i64 x.1.aa, .sl 3 (aq x.1.cells) .any, .int .i64 x.1.y, .int .i64 x.1.x, .bool x.1.wrap, .int .u16 x.1.attr, .int .i64 x.1.top, .int .i64 x.1.bot, .sl 1 (bg x.1.aP) .any,
   .int .i64 x.1.sy, .int .i64 x.1.sx, .int .u16 x.1.eg, .bool x.1.auto, .bool x.1.shown, .bool x.1.alt, .sl 3 (aq x.1.other) .any, .int .i64 x.1.oy, .int .i64 x.1.ox, .int .i64 x.2.m, .int .u8 x.2.pr, .sl 1 (af .i64 x.2.P) .any, .sl 1 (af .u8 x.2.I) .any, .sl 1 (af .u8 x.2.U) .any]
theorem afE {s:Sc}(h:s.alt=false):eD true s 1049={ s with other:=s.cells,oy:=s.y,ox:=s.x,alt:=true,wrap:=false,cells:=dV s.rows s.aa}:=by
 unfold eD
 rw[if_neg (by decide),if_neg (by decide),if_pos ⟨rfl,rfl,h⟩]
theorem afx {s:Sc}(h:s.alt=true):eD false s 1049={ s with cells:=s.other,y:=s.oy,x:=s.ox,alt:=false,wrap:=false,other:=[],oy:=0,ox:=0}:=by
 unfold eD
 rw[if_neg (by decide),if_neg (by decide),if_neg (fun e=>by cases e.2.1),if_pos ⟨rfl,rfl,h⟩]
theorem afq (s:Sc):(eD false s 1049).alt=false:=by
 unfold eD
 rw[if_neg (by decide),if_neg (by decide),if_neg (fun e=>by cases e.2.1)]
 split
 ·rfl
 ·rename_i h
  cases e:s.alt with
  | false=>rfl
  | true=>exact absurd ⟨rfl,rfl,e⟩ h
set_option maxHeartbeats 2000000 in
theorem afD {T:ay}{r c:Int}{l u:List Int}{s1 s2:Nat}{k1 k2:SK}{K:DV->ay->Prop}(hr:0<=r/\r<=255)(hc:0<=c/\c<=255)(hs:s1=1\/l=[])(hk0:∀e∈l,0<=e/\e<=255)(hs2:s2=1\/u=[])(aeq:∀e∈u,0<=e/\e<=255)(h:∀T',ax T T' []->K (.bool true) T') :
  aj PG 5 [.int .u8 r,.int .u8 c,.sl s1 (af .u8 l) k1,.sl s2 (af .u8 u) k2] T K:=by
 have hlr:(af .u8 l).length=l.length:=by simp[af]
 have hur:(af .u8 u).length=u.length:=by simp[af]
 have FX:ScF (scX r c l):=acS
 rcases Nat.lt_or_ge 30 l.length with h1 | h1
 ·have c1:(30:Int)<l.length:=by omega
  refine aj.aE afe ae3 (by simp[ae2]) ?_
  unfold ae2
  dsimp only
  simp -implicitDefEqProofs -dsimp only[ah,ae8,vcS,↓vcQ,simprocAttr]
  refine vM fun T1 g1=>?_
  simp -implicitDefEqProofs -dsimp only[ah,ae8,hlr,c1,vcS,↓vcQ,simprocAttr]
  exact gI g1 fun k=>h _ k
 have c1:¬(30:Int)<l.length:=by omega
 rcases Nat.lt_or_ge 30 u.length with h2 | h2
 ·have c2:(30:Int)<u.length:=by omega
  refine aj.aE afe ae3 (by simp[ae2]) ?_
  unfold ae2
  dsimp only
  simp -implicitDefEqProofs -dsimp only[ah,ae8,vcS,↓vcQ,simprocAttr]
  refine vM fun T1 g1=>?_
  simp -implicitDefEqProofs -dsimp only[ah,ae8,hlr,hur,c1,c2,vcS,↓vcQ,simprocAttr]
  exact gI g1 fun k=>h _ k
 have c2:¬(30:Int)<u.length:=by omega
 have hk:inK .u8 l:=lG (by omega) hk0
 have i2:aD .u8 (.sl s2 (af .u8 u) k2):=aQ hs2 (lG (by omega) aeq)
 have l2:u.length<=100:=by omega
 have aeH:=m4 u
 have adm:=wN l2
 have hby:∀e∈cT u,0<=e/\e<=255:=tE
 obtain ⟨b,eb⟩:∃b,cT u=b:=⟨_,rfl⟩
 rw[eb] at aeH adm hby
 have hbr:(af .u8 b).length=b.length:=by simp[af]
 have q9:aD .u8 (.sl 1 [[.int .u8 24],[.int .u8 27],[.int .u8 91],[.int .u8 63],[.int .u8 49],[.int .u8 48],[.int .u8 52],[.int .u8 57],[.int .u8 108]] .any):=(aQ (.inl rfl) (lG (by simp) (by decide)):aD .u8 (.sl 1 (af .u8 [24,27,91,63,49,48,52,57,108]) .any))
 have aeP:aD .u8 (.sl 1 [[.int .u8 27],[.int .u8 91],[.int .u8 63],[.int .u8 49],[.int .u8 48],[.int .u8 52],[.int .u8 57],[.int .u8 104]] .any):=(aQ (.inl rfl) (lG (by simp) (by decide)):aD .u8 (.sl 1 (af .u8 [27,91,63,49,48,52,57,104]) .any))
 have d9:aG (.sl 1 [[.int .u8 24],[.int .u8 27],[.int .u8 91],[.int .u8 63],[.int .u8 49],[.int .u8 48],[.int .u8 52],[.int .u8 57],[.int .u8 108]] .any)=[24,27,91,63,49,48,52,57,108]:=rfl
 have d8:aG (.sl 1 [[.int .u8 27],[.int .u8 91],[.int .u8 63],[.int .u8 49],[.int .u8 48],[.int .u8 52],[.int .u8 57],[.int .u8 104]] .any)=[27,91,63,49,48,52,57,104]:=rfl
 have n9:([24,27,91,63,49,48,52,57,108]:List Int).length<=1000000:=by decide
 have n8:([27,91,63,49,48,52,57,104]:List Int).length<=1000000:=by decide
 refine aj.aE afe ae3 (by simp[ae2]) ?_
 unfold ae2
 dsimp only
 simp -implicitDefEqProofs -dsimp only[ah,ae8,vcS,↓vcQ,simprocAttr]
 refine vM fun T1 g1=>?_
 simp -implicitDefEqProofs -dsimp only[ah,ae8,afF,hlr,hur,c1,c2,vcS,↓vcQ,simprocAttr]
 refine Nn hr hc hs hk (by omega) fun T2 v g2 hv'=>?_
 have hv:=hv'
 obtain ⟨y1,y2,y3,j1,j2,j3,m',pr',e1,e2,e3,sv',rfl⟩:=hv'
 obtain ⟨p1,p2,p3⟩:=sv'.pa.one
 generalize scX r c l=x at *
 have hsc:=yX FX hv
 have his:Dm _:=⟨x,FX,hv⟩
 unfold scD at hv hsc his ⊢
 obtain ⟨A,hA⟩:∃A,A=eD false (eJ x 24).1 1049:=⟨_,rfl⟩
 have fA:[24,27,91,63,49,48,52,57,108].foldl eJ x=(A,pa0 0):=by rw[hA];exact afd x
 have FA:ScF (A,pa0 0):=by rw[<-fA];exact AJ FX (by decide)
 have aA:A.alt=false:=by rw[hA];exact afq _
 obtain ⟨B,hB⟩:∃B,B=eD true A 1049:=⟨_,rfl⟩
 have fB:[27,91,63,49,48,52,57,104].foldl eJ (A,pa0 0)=(B,pa0 0):=by rw[hB];exact afu A
 have hY:ScF (B,pa0 0):=by rw[<-fB];exact AJ FA (by decide)
 rw[afE aA] at hB
 have b1:B.alt=true:=by rw[hB]
 have b2:B.cells=dV A.rows A.aa:=by rw[hB]
 have b3:B.y=A.y:=by rw[hB]
 have b4:B.x=A.x:=by rw[hB]
 have b5:B.other=A.cells/\B.oy=A.y/\B.ox=A.x:=by rw[hB];exact ⟨rfl,rfl,rfl⟩
 have aeJ:=FA.ok.g
 have rA:1<=(A.rows:Int)/\(A.rows:Int)<=1000:=by have:=aeJ.r;dsimp only at this;omega
 have v5:1<=(A.aa:Int)/\(A.aa:Int)<=1000:=by have:=aeJ.c;dsimp only at this;omega
 have lA:=aeJ.lim
 dsimp only at lA
 have aeW:=ae4 FA
 have aeS:=ae5 FA
 have zB:=ae4 hY
 have aeT:=ae5 hY
 rw[yW] at aeW aeS zB aeT
 dsimp only at aeW aeS zB aeT
 have FY:As 3 (aq (dV A.rows A.aa)):=sI (.inl rfl) (by have:=hY.ok.g.lim.1;dsimp only at this;rw[b2] at this;exact this)
 have cA2:As 3 (aq A.cells):=sI (.inl rfl) lA.1
 have bg1:A.rows*A.aa<=(aq (dV A.rows A.aa)).length:=by rw[az];simp[dV]
 have bg2:List.take (A.rows*A.aa) (aq (dV A.rows A.aa))=aq (dV A.rows A.aa):=List.take_of_length_le (by rw[az];simp[dV])
 have fe1:∀q sz rows,DV.iA q sz rows e1=e1:=fun q sz rows=>gT sv'.pa.i1
 have fe2:∀q sz rows,DV.iA q sz rows e2=e2:=fun q sz rows=>gT sv'.pa.i2
 have fe3:∀q sz rows,DV.iA q sz rows e3=e3:=fun q sz rows=>gT sv'.pa.i3
 have aeL:inK .u8 [24,27,91,63,49,48,52,57,108]:=lG (by simp) (by decide)
 have aeK:inK .u8 [27,91,63,49,48,52,57,104]:=lG (by simp) (by decide)
 simp -implicitDefEqProofs -dsimp only[ah,afA,afG,afk,afr,afH,aff,xK,LF,afy,IY,hsc,his,bg1,bg2,fe1,fe2,fe3,aeL,aeK,q9,aeP,d9,d8,n9,n8,fA,fB,yW,aeW,aeS,zB,aeT,b1,b2,b3,b4,rA,v5,FY,Int.toNat_natCast,i2,aL,l2,eb,p1,p2,p3,vcS,↓vcQ,simprocAttr]
 obtain ⟨z,hz⟩:∃z,b.foldl eJ (B,pa0 0)=z:=⟨_,rfl⟩
 have q6:ScF z:=by rw[<-hz];exact AJ hY hby
 have aeZ:=ae4 q6
 have aeV:=ae5 q6
 have aeR:=zK q6.pk
 rw[yW] at aeZ aeV aeR
 have kT2:ax T T2 []:=g1.new g2 (by simp)
 have lT2:=kT2.1
 refine bk.inv afe (S:=fun σ:Nat × Nat × ay=>⟨[(9,.ptr T2.length 0 0),(10,.ptr (T2.length+3) 0 0),(11,.sl 1 (af .u8 b) .any),(12,.int .i64 σ.1),(13,.ptr σ.2.1 0 0)],σ.2.2⟩)
  (I:=fun σ=>σ.1<=b.length/\ax T σ.2.2 []/\T.length<=σ.2.1/\σ.2.2[T2.length]?=some (some (.box (afb (A,pa0 0))))/\σ.2.2[T2.length+3]?=some (some (.box (afb (B,pa0 0))))/\σ.2.2[σ.2.1]?=some (some (.box (afb ((b.take σ.1).foldl eJ (B,pa0 0)))))/\(σ.2.1≠T2.length/\σ.2.1≠T2.length+3)/\∀j≤σ.1,((b.take j).foldl eJ (B,pa0 0)).1.alt=true) (μ:=fun σ=>b.length-σ.1) (0,T2.length+5,T2++ [some (.box (afb (A,pa0 0))),none,none,some (.box (afb (B,pa0 0))),none,some (.box (afb (B,pa0 0)))])
  ⟨Nat.zero_le _,kT2.dU _,by dsimp only;omega,aZ T2 _ _,bl T2 _ 3,bl T2 _ 5,⟨by dsimp only;omega,by dsimp only;omega⟩,fun j hj=>by obtain rfl:j=0:=(by simpa using hj);exact b1⟩ ?_ ?_
 ·unfold afb
  dsimp only
  simp -implicitDefEqProofs -dsimp only[b1,b2,b3,b4,an,vcS,↓vcQ,simprocAttr]
 ·intro ⟨i,q,D⟩ ⟨i1,i2,i3,i4,i5,i6,i7,i8⟩
  dsimp only at i1 i2 i3 i4 i5 i6 i7 i8 ⊢
  unfold afb at i4 i5
  dsimp only at i4 i5
  have FYi:ScF ((b.take i).foldl eJ (B,pa0 0)):=AJ hY fun e he=>hby e (List.mem_of_mem_take he)
  have hst:=fun hi=>Dy (x:=(B,pa0 0)) (l:=b) (i:=i) hi
  have wi:IntKind.i64.wrap ((i:Int)+1)=((i+1:Nat):Int):=by rw[aO (by omega) (by omega)];omega
  unfold afa
  rcases Nat.lt_or_ge i b.length with hlt | hge
  ·have hii:(i:Int)<b.length:=by omega
   have i0:(0:Int)<=i:=by omega
   have ii1:(i:Int)<=((i+1:Nat):Int):=by omega
   have ii2:((i+1:Nat):Int)<=b.length:=by omega
   have tk:(b.drop i).take (i+1-i)=[b.getD i 0]:=by
    rw[show i+1-i=1 by omega,List.getD_eq_getElem?_getD,List.getElem?_eq_getElem hlt,Option.getD_some,List.drop_eq_getElem_cons hlt]
    rfl
   have hst:=hst hlt
   obtain ⟨yn,hyn⟩:∃yn,yn=(b.take (i+1)).foldl eJ (B,pa0 0):=⟨_,rfl⟩
   have FYn:ScF yn:=by rw[hyn];exact AJ hY fun e he=>hby e (List.mem_of_mem_take he)
   rw[<-hyn] at hst
   generalize (b.take i).foldl eJ (B,pa0 0)=yi at *
   have aeI:[b.getD i 0].foldl eJ yi=yn:=by rw[hst];rfl
   have kc:inK .u8 [b.getD i 0]:=lG (by simp) fun e he=>by
    simp only[List.mem_singleton] at he
    subst he
    exact hby _ (by rw[List.getD_eq_getElem?_getD,List.getElem?_eq_getElem hlt];exact List.getElem_mem hlt)
   have lc:[b.getD i 0].length<=1000000:=by simp
   have aeX:=ae4 FYi
   have wI:=ae5 FYi
   rw[yW] at aeX wI
   unfold afb at i6
   cases hal:yn.1.alt with
   | false=>
    simp -implicitDefEqProofs -dsimp only[ah,ai i4,ai i5,ai i6,fun y=>ai (bn i5 y i7.2.symm),afk,afr,aff,xK,hbr,hii,i0,wi,ii1,ii2,Nat.le_succ,hlt,Nat.zero_le,tk,aeX,wI,zB,aeT,aeI,hz,hal,adm,kc,lc,aL,yW,an,vcS,↓vcQ,simprocAttr]
    refine ⟨by omega,hlt,by omega, ?_⟩
    refine wL q6 aeR fun T3 g3=>?_
    simp -implicitDefEqProofs -dsimp only[ah,vcS,↓vcQ,simprocAttr]
    exact gI ((i2.put (Dd.ge i3) _).new g3 (by simp)) fun k=>h _ k
   | true=>
    simp -implicitDefEqProofs -dsimp only[ah,ai i4,ai i5,ai i6,afk,afr,aff,xK,hbr,hii,i0,wi,ii1,ii2,Nat.le_succ,hlt,Nat.zero_le,tk,aeX,wI,aeI,hal,adm,kc,lc,aL,yW,an,vcS,↓vcQ,simprocAttr]
    have aeM:∀b,ax T (D.set q b) []:=fun b=>i2.put (Dd.ge i3) b
    have aeO:=i2.1
    have l4:=eI i4
    have aeN:=eI i5
    refine ⟨by omega,hlt,(i+1,_,_),⟨⟨rfl,rfl⟩,aH _⟩,⟨hlt,(aeM _).dU _,by dsimp only;simp;omega,hO (bn i4 _ i7.1.symm) _,hO (bn i5 _ i7.2.symm) _, ?_,⟨by dsimp only;simp;omega,by dsimp only;simp;omega⟩,fun j hj=>?_⟩,by dsimp only;omega⟩
    ·dsimp only
     rw[<-hyn]
     unfold afb
     rw[hal]
     exact aZ _ _ _
    ·rcases Nat.lt_or_ge i j with hj2 | hj2
     ·obtain rfl:j=i+1:=by dsimp only at hj;omega
      rw[<-hyn];exact hal
     ·exact i8 j hj2
  ·have hii:¬(i:Int)<b.length:=by omega
   obtain rfl:i=b.length:=by omega
   have hzB:=i8 b.length (Nat.le_refl _)
   rw[List.take_length,hz] at hzB
   have aeQ:SOt B z.1:=by rw[<-hz];exact aft (x:=(B,pa0 0)) b1 i8
   obtain ⟨q1,q2⟩:=afz (x:=z)
   have s24:SOt z.1 (eJ z 24).1:=afg hzB (q2 hzB)
   obtain ⟨U,hU⟩:∃U,U=eD false (eJ z 24).1 1049:=⟨_,rfl⟩
   have F0:[24,27,91,63,49,48,52,57,108].foldl eJ z=(U,pa0 0):=by rw[hU];exact afd z
   have kI:ScF (U,pa0 0):=by rw[<-F0];exact AJ q6 (by decide)
   rw[afx (q2 hzB)] at hU
   obtain ⟨t1,t2,t3⟩:=aeQ.trans s24
   have u1:U.alt=false:=by rw[hU]
   have u2:U.cells=A.cells:=by rw[hU];show (eJ z 24).1.other=_;rw[t1,b5.1]
   have u3:U.y=A.y:=by rw[hU];show (eJ z 24).1.oy=_;rw[t2,b5.2.1]
   have u4:U.x=A.x:=by rw[hU];show (eJ z 24).1.ox=_;rw[t3,b5.2.2]
   have u5:U.other=[]:=by rw[hU]
   have aeY:=ae4 kI
   have aeU:=ae5 kI
   rw[yW] at aeY aeU
   simp -implicitDefEqProofs -dsimp only[ah,ai i4,ai i5,ai i6,fun y=>ai (bn i4 y (show T2.length≠T2.length+3 by omega)),fun y=>ai (bZ i5 y),afA,afk,aff,xK,IY,hbr,hii,adm,aeH,q9,d9,n9,zB,aeT,hz,aeZ,aeV,F0,aL,yW,u1,u2,u3,u4,u5,cA2,AV,an,vcS,↓vcQ,simprocAttr]
   exact ⟨by omega,aeL,by have:=i2.1;simp;omega,h _ ((i2.put (Dd.ge (by omega)) _).dU _)⟩
theorem ae9 (dv:List DV)(h:wE [(false,[.int .u8]),(false,[.int .u8]),(false,[.sl [.int .u8]]),(false,[.sl [.int .u8]])] dv){K:DV->ay->Prop}(hK:∀T',K (.bool true) T'):aj PG 5 dv [] K:=by
 obtain ⟨a0,r0,rfl,h0,h⟩:=h.cons
 obtain ⟨a1,r1,rfl,h1,h⟩:=h.cons
 obtain ⟨a2,r2,rfl,h2,h⟩:=h.cons
 obtain ⟨a3,r3,rfl,h3,h⟩:=h.cons
 obtain rfl:=h.nil
 obtain ⟨x,rfl,hx⟩:=DE h0
 obtain ⟨y,rfl,hy⟩:=DE h1
 obtain ⟨l,rfl,hl⟩:=ua h2
 obtain ⟨u,rfl,hu⟩:=ua h3
 exact afD hx hy (.inl rfl) hl (.inl rfl) hu fun T' _=>hK T'
end Go.Proofs.YtjmnbpilnneonaaGreatDoor
