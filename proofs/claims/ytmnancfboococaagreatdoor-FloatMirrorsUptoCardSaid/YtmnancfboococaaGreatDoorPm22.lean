/- Part 23 of the proof: garboardlaw17.FloatMirrors returns true, where what it reads is of bulk at most 1048576. -/
import Derived.WalkKit
import Derived.Deep.LoopGhost
import Derived.Lib.Walk
import Derived.Lib.SliceRun
import Derived.Test.YtmnancfboococaaGreatDoorPm6
import Derived.Test.YtmnancfboococaaGreatDoorPm9
import Derived.Test.YtmnancfboococaaGreatDoorPm10
import Derived.Test.YtmnancfboococaaGreatDoorPm18
import Derived.Test.YtmnancfboococaaGreatDoorPm21
set_option linter.all false
namespace Go.Ai
open Go Go.Proofs Go.Num V3
theorem aNe:aB PP 26:=zK
theorem aCf:aB PP 13:=zK
theorem aAj:aB PP 50:=zK
theorem aJq {r:Raw}{l:List Tri}{p:Pl}(hg:r.good l p)(hp:p.fit (2^9))(hl:∀t,t∈l→t.le (2^9))(hN:r.N≤32)(hL:r.L.length=9*r.N)(hb:(aT p l).le (2^26))(hv0:(aT p l).v≠0){X:Nat→Prop}{w:World}{v:Value}(hX:∀b,X b→b<w.heap.size)(hv:(rowS r.N r.L).p v X w):
  Fn PP 26 [v,r.attV,.string r.d] X w (dJ (.tuple #[fS ((aT p l).f.scale (1/(aT p l).v)),.int .i64 0])):=by
 have kw:∀{X:Nat→Prop} {w:World} {v:Value},(∀b,X b→b<w.heap.size)→(rowS r.N r.L).p v X w→Fn PP 60 [v,r.attV,.string r.d] X w (dJ (.tuple #[oO (aT p l),.int .i64 0])):=fun hX hv=>xH hg hp hl hN hL hX hv
 have kc:=aU6 hb
 rw[if_neg hv0]at kc;clear hg hp hb hv0;obtain⟨R,hRR⟩:=nm (dJ (.tuple #[fS ((aT p l).f.scale (1/(aT p l).v)),.int .i64 0]));rw[←hRR];unfold Raw.attV at *;obtain⟨RS,hRS⟩:=nm (rowS r.N r.L);rw[←hRS]at hv kw;obtain⟨K,hK⟩:=nm ([KF.cst v RS]);obtain⟨m0,m1,m2,m3,m4,m5,m6,m7,m8,m9,hm⟩:∃m0 m1 m2 m3 m4 m5 m6 m7 m8 m9:ByteArray,oO (aT p l)=.agg #[.string m0,.string m1,.string m2,.string m3,.string m4,.string m5,.string m6,.string m7,.string m8,.string m9]:=⟨_,_,_,_,_,_,_,_,_,_,rfl⟩;rw[hm]at kw kc;unfold fS kR at *;generalize aA ((aT p l).f.scale (1/(aT p l).v)).x=c1 at *;generalize aA ((aT p l).f.scale (1/(aT p l).v)).y=c2 at *;generalize aA ((aT p l).f.scale (1/(aT p l).v)).z=c3 at *;refine bE mixed tok [.q v,.g [.s (.v r.h),.s (.v r.t)],.s (.v r.d)] (K:=K) Tryz.func26 rfl rfl (lbl rfl) rfl hX (by rw[hK];simp;exact hv) fun c hc hR=>?_
 refine zN hc ?_;cbv;refine bL hc (.t [.g [.s (.v m0),.s (.v m1),.s (.v m2),.s (.v m3),.s (.v m4),.s (.v m5),.s (.v m6),.s (.v m7),.s (.v m8),.s (.v m9)],.i .i64 (.l 0)]) qP (fun n0 D X μ a w aL H hv=>?_) rfl 100 ?_
 ·obtain⟨u1,u2,u3,rfl,e1,e2,e3⟩:=eX hv;rw[cA e1,show u2=_ from(Option.some.inj e2).symm,show u3=_ from(Option.some.inj e3).symm];exact kw H.xlt (H.cst (by rw[hK];exact .head _))
 cbv;refine zC hc (.t [iL c1 c2 c3,.i .i64 (.l 0)]) kc aNj ?_;cbv;refine aS hc hR rfl (fun X μ a w v' H hv'=>?_);rw[hRR];simp only[aC,aH]at hv';injection hv' with hv'
 exact hv'.symm
theorem aA4 {r:Raw}{l:List Tri}{p:Pl}{a:At}(hg:r.good l p)(hp:p.fit (2^9))(hl:∀t,t∈l→t.le (2^9))(hN:r.N≤32)(hL:r.L.length=9*r.N)(ha:a.le (2^10))(hk:a.ok=true)(hra:r.attV=atV a)(aJy:aSy (dB p l)=true){X:Nat→Prop}{w:World}{v:Value}(hX:∀b,X b→b<w.heap.size)(hv:(rowS r.N r.L).p v X w):
  Fn PP 13 [v,r.attV,.string r.d] X w (dJ (.tuple #[wpV (wpS a.ahead a.side (dB p l)),.int .i64 0])):=by
 have hlen:l.length=r.N:=by
  have:=hL
  rw[hg.eq,fP]at this;omega
 have kw:∀{X:Nat→Prop} {w:World} {v:Value},(∀b,X b→b<w.heap.size)→(rowS r.N r.L).p v X w→Fn PP 48 [v,r.attV,.string r.d] X w (dJ (.tuple #[nF p,.int .i64 0])):=fun hX hv=>aDl hg hL hX hv
 have ks:∀{X:Nat→Prop} {w:World} {v:Value},(∀b,X b→b<w.heap.size)→(rowS r.N r.L).p v X w→Fn PP 52 [v,nF p] X w (codeF (rowS (dB p l).length (iQ (dB p l)))):=fun {X} {w} {v} hX hv=>by
  rw[hg.eq,←hlen]at hv;exact aF9 (hp.mono (by decide)) (fun t ht=>⟨(hl t ht).1.mono (by decide),(hl t ht).2.1.mono (by decide),(hl t ht).2.2.mono (by decide)⟩) (by omega) hg.ok hX hv
 have ko:=tOf (a:=a) ⟨lTr ha.1 (by decide),lTr ha.2 (by decide)⟩ hk
 have km:∀{X:Nat→Prop} {w:World} {v:Value},(∀b,X b→b<w.heap.size)→(rowS (dB p l).length (iQ (dB p l))).p v X w→Fn PP 51 [v,fS a.ahead,fS a.side] X w (dJ (.tuple #[wpV (wpS a.ahead a.side (dB p l)),.int .i64 0])):=fun hX hv=>
  aR3 ((At.le_ahead ha).mono (by decide)) ((At.le_side ha).mono (by decide)) (fun g h=>by
   have:=aFu hp hl h
   exact⟨this.1.mono (by decide),this.2.mono (by decide)⟩) (lTr (wF p l) (by omega)) aJy hX hv
 clear hg hp;obtain⟨R,hRR⟩:=nm (dJ (.tuple #[wpV (wpS a.ahead a.side (dB p l)),.int .i64 0]));obtain⟨R',hR'⟩:=nm (rowS (dB p l).length (iQ (dB p l)));obtain⟨RC,hRC⟩:=nm (codeF R');rw[←hRR];rw[←hR',←hRC]at ks;rw[←hR']at km;rw[hra]at kw ⊢;unfold atV aYf at *;obtain⟨RS,hRS⟩:=nm (rowS r.N r.L);rw[←hRS]at hv kw ks;obtain⟨K,hK⟩:=nm ([KF.cst v RS]);obtain⟨y0,y1,y2,y3,y4,y5,hy⟩:∃y0 y1 y2 y3 y4 y5:ByteArray,wpV (wpS a.ahead a.side (dB p l))=.agg #[.string y0,.string y1,.string y2,.string y3,.string y4,.string y5]:=⟨_,_,_,_,_,_,rfl⟩;rw[hy]at hRR km;unfold nF fS kR at *;generalize aA p.n.x=q1 at *;generalize aA p.n.y=q2 at *;generalize aA p.n.z=q3 at *;generalize aA p.a=q4 at *;rw[show aA a.side.x=⟨#[48]⟩ from fQ]at *;generalize aA a.ahead.x=x0 at *;generalize aA a.ahead.y=x1 at *;generalize aA a.ahead.z=x2 at *;generalize aA a.side.y=x4 at *;generalize aA a.side.z=x5 at *;generalize aA a.up.x=x6 at *;generalize aA a.up.y=x7 at *;generalize aA a.up.z=x8 at *;generalize aA a.h=h0 at *;generalize aA a.t=t0 at *;refine bE mixed tok [.q v,.g [.s (.v h0),.s (.v t0)],.s (.v r.d)] (K:=K) Tryz.func13 rfl rfl (lbl rfl) rfl hX (by rw[hK];simp;exact hv) fun c hc hR=>?_
 refine zN hc ?_;cbv;refine bL hc (.t [.g [.s (.v q1),.s (.v q2),.s (.v q3),.s (.v q4)],.i .i64 (.l 0)]) aAi (fun n0 D X μ a w aL H hv=>?_) rfl 100 ?_
 ·obtain⟨u1,u2,u3,rfl,e1,e2,e3⟩:=eX hv;rw[cA e1,show u2=_ from(Option.some.inj e2).symm,show u3=_ from(Option.some.inj e3).symm];exact kw H.xlt (H.cst (by rw[hK];exact .head _))
 cbv;refine zC hc (.t [.g [.s (.v x0),.s (.v x1),.s (.v x2),.s (.v ⟨#[48]⟩),.s (.v x4),.s (.v x5),.s (.v x6),.s (.v x7),.s (.v x8)],.i .i64 (.l 0)]) ko bAx ?_;cbv;refine eE hc (R:=RC) aAg (fun n0 D X μ a w aL H hv=>?_) 0 ?_
 ·obtain⟨u,u',rfl,e,e'⟩:=bX hv;rw[cA e];rw[show u'=_ from(Option.some.inj e').symm];exact ks H.xlt (H.cst (by rw[hK];exact .head _))
 cbv;refine aSl 40 5 rfl rfl (.head _) hRC (fun z=>?_);refine zN hc ?_;cbv;refine cJ hc Tryz.func50 rfl rfl aAj rfl (fun c1 tm1 FR1 gC hc1 L1=>?_);refine zN hc1 ?_;cbv;refine bL hc1 (.t [.g [.s (.v y0),.s (.v y1),.s (.v y2),.s (.v y3),.s (.v y4),.s (.v y5)],.i .i64 (.l 0)]) aJa (fun n0 D X μ a w aL H hv=>?_) rfl 100 ?_
 ·obtain⟨u1,u2,u3,rfl,e1,e2,e3⟩:=eX hv;rw[cA e1,show u2=_ from(Option.some.inj e2).symm,show u3=_ from(Option.some.inj e3).symm];exact km H.xlt (H.cst (.tail _ (.head _)))
 cbv;refine cL hc1 L1 gC (.head _) rfl ?_;refine zN hc ?_;cbv;refine aS hc hR rfl (fun X μ a w v' H hv'=>?_);rw[hRR];simp only[aC,aH]at hv';injection hv' with hv'
 exact hv'.symm
end Go.Ai
namespace Go.Ai
open Go Go.Proofs Go.Num Go.RowKit Go.Lib
theorem mE:aB PP 14:=zK
set_option maxRecDepth 100000 in
theorem aEd:PP.underlying 23=some (.slice 38)∧∃i z,PP.info? 38=some i∧i.size=9∧i.bytes=144∧i.zero=some z∧z.cells.size=9:=by
 obtain⟨ti,hti⟩:∃ti,ty 23=some ti∧ti.kind=.slice 38 9:=⟨_,rfl,rfl⟩;obtain⟨ei,hei⟩:∃ei,ty 38=some ei∧ei.zero.length=9:=⟨_,rfl,rfl⟩;have T:=tok _ ti hti.1
 have hu:=T.und
 rw[hti.2]at hu;obtain⟨u1,tj,u2,u3⟩:=hu;obtain⟨tj',z,h1,h2,h3,h4,h5⟩:=(tok _ ei hei.1).info;rw[u2]at h1;injection h1 with h1;subst h1
 have hb:(PP.info? 38).map (·.bytes)=some 144:=by kernel_rfl
 rw[u2]at hb;exact⟨u1,tj,z,u2,u3,by simpa using hb,h3,by have:=aY h4;rw[hei.2]at this;simpa using this⟩
set_option maxHeartbeats 2000000 in
set_option maxRecDepth 100000 in
theorem aJk (b off n c:Nat)(xs:List Value)(w:World)(hl:xs.length=n*9)(bF1:n*144≤140737488355328)(h1:∀u∈xs,u.oneCell'=true)(hc:∀j u,xs[j]?=some u→w.cell? ⟨b,off+j,none⟩=some u):
  Calls PP 14 #[.slice (some ⟨b,off,none⟩) n c] w fun e w'=>∃v',e=.returned v'∧w'.ownsRow w.heap.size 38 9 v' n xs∧Below w.heap.size w w':=by
 obtain⟨t22,i0,z,hi,hz1,hz2,hz0,hz3⟩:=aEd;have q22:∀(w:World) (a:Option Addr) (n c n' c':Nat),(binOp .eql 23 (.slice a n c) (.slice none n' c')).run PP w=.ok (.bool a.isNone) w:=fun w a n c n' c'=>Lib.run_eql_slice_nil w _ _ a n c n' c' t22
 have u22:∀w,Sem.run PP (underlying 23) w=.ok (TypeDesc.slice 38) w:=run_underlying t22
 have A:Aside (∀j u,xs[j]?=some u→w.cell? ⟨b,off+j,none⟩=some u):=hc
 clear hc
 go_enter Tryz.func14,Tryz.ntmps14
 go_wp2_with (at_builtin;refine wpList_append_own _ rfl _ _ 23 rfl w.heap.size 38 i0 z 9 144 t22 hi hz0 hz1 hz2 hz3 (by decide) _ _ _ rfl (World.ownsRow_made w #[] 0 (lRf _) (Nat.zero_le _) rfl) ⟨b,off,none⟩ n c xs rfl ?qc1 ?qc2 ?qc3 ?qc4 ?qc5 ?qc6 ?_)
 case qc1=>exact hl
 case qc2=>
  intro j u hj;rw[Addr.add_lit];refine Lib.cell?_alloc_some _ ?_;exact A.out j u hj
 case qc3=>exact h1
 case qc4=>unfold maxLen;omega
 case qc5=>omega
 case qc6=>simp
 intro v' w1 dW aHb bB9
 go_wp2
 go_ret
 refine⟨v',rfl,by simpa using dW,?_⟩;exact((Below.refl _ w).alloc (lRf _) _).grown aHb (by simp) (by intro k hk;simp[Value.ownBlock]at hk;omega)
set_option maxHeartbeats 1000000 in
theorem aNo (n c:Nat)(w:World):
  Calls PP 14 #[.slice none n c] w fun e w'=>e=.returned (.slice none 0 0)∧w'=w:=by
 obtain⟨t22,_⟩:=aEd;have q22:∀(w:World) (a:Option Addr) (n c n' c':Nat),(binOp .eql 23 (.slice a n c) (.slice none n' c')).run PP w=.ok (.bool a.isNone) w:=fun w a n c n' c'=>Lib.run_eql_slice_nil w _ _ a n c n' c' t22
 go_enter Tryz.func14,Tryz.ntmps14
 go_wp2
 go_ret
 exact⟨rfl,rfl⟩
theorem aKq {L:List ByteArray}{N:Nat}(hL:L.length=9*N)(hN:N*144≤140737488355328){X:Nat→Prop}{w:World}{v:Value}(hv:(rowS N L).p v X w):
  Fn PP 14 [v] X w (rowS N L):=by
 intro _;obtain⟨ad,cap,rfl,dI,h3⟩:=hv;cases ad with
 | none=>
  obtain⟨e1,e2,e3⟩:=h3;refine Calls.mono (aNo N cap w) ?_;rintro e w' ⟨rfl,rfl⟩;refine⟨.slice none 0 0,X,rfl,Below.refl _ _,fun _ h=>h,fun _ h=>.inl h,none,0,?_,by omega,e1,rfl,e3⟩;rw[e1];rfl
 | some x=>
  obtain⟨b,o⟩:=x;obtain⟨hb,cs,ty',sZ,hcs⟩:=h3;refine Calls.mono (aJk b o N cap (L.map Value.string) w (by rw[List.length_map,hL];omega) hN (fun u hu=>by obtain⟨x,_,rfl⟩:=List.mem_map.1 hu;rfl) (fun j u hj=>?_)) ?_
  ·simp only[World.cell?,sZ];have:=hcs j u hj
   simp[this]
  ·rintro e w' ⟨v',rfl,dW,aQ9⟩;have aMc:=dW
   obtain⟨hlen,h2⟩:=dW;refine⟨v',fun b=>X b∨v'.ownBlock=some b,rfl,aQ9,fun _ h=>.inl h,fun b' h=>h.imp id (fun h=>World.ownsRow.lt aMc b' h),?_⟩
   rcases h2 with⟨rfl,h2⟩ | ⟨g,aZ,cur,rfl,_,hg,hnc,_,bF4,htk⟩
   ·subst h2;have hLn:L=[]:=List.eq_nil_of_length_eq_zero (by simpa using hL)
    subst hLn;exact⟨none,0,rfl,lRf _,rfl,rfl,rfl⟩
   ·refine⟨some (g,0),aZ,rfl,hnc,.inr rfl,cur,(38,(0,0)),hg,fun i x hx=>?_⟩;have h3:(cur.toList.take (N*9))[i]?=some x:=by rw[htk];exact hx
    rw[List.getElem?_take]at h3;split at h3
    ·simpa using h3
    ·cases h3
end Go.Ai
namespace Go.Ai
open Go Go.Proofs Go.Num V3
theorem aXk:aB PP 44:=zK
theorem nL:aB PP 95:=zK
theorem aPv:aB PP 11:=zK
theorem yP (a b d:ByteArray):Pure PP 95 [.string a,.string b,.string d] (kR a b d):=by
 unfold kR;refine aG mixed tok [.s (.v a),.s (.v b),.s (.v d)] Tryz.func95 rfl rfl (lbl rfl) rfl fun c hc hR=>?_
 refine zN hc ?_;cbv;exact aD hc hR rfl rfl
def bx (a b c d:Rat):List Tri:=
 let p0:V3:=⟨a,-b,0⟩
 let p1:V3:=⟨c,-b,0⟩
 let p2:V3:=⟨c,b,0⟩
 let p3:V3:=⟨a,b,0⟩
 let q0:V3:=⟨a,-b,d⟩
 let q1:V3:=⟨c,-b,d⟩
 let q2:V3:=⟨c,b,d⟩
 let q3:V3:=⟨a,b,d⟩
 [⟨p0,p2,p1⟩,⟨p0,p3,p2⟩,⟨q0,q1,q2⟩,⟨q0,q2,q3⟩,⟨p0,p1,q1⟩,⟨p0,q1,q0⟩,⟨p1,p2,q2⟩,⟨p1,q2,q1⟩,⟨p2,p3,q3⟩,⟨p2,q3,q2⟩,⟨p3,p0,q0⟩,⟨p3,q0,q3⟩]
def mA:List Tri:=bx 0 2 10 3
def bAu:List ByteArray:=[⟨#[48]⟩,⟨#[45,50]⟩,⟨#[48]⟩,⟨#[49,48]⟩,⟨#[50]⟩,⟨#[48]⟩,⟨#[49,48]⟩,⟨#[45,50]⟩,⟨#[48]⟩,⟨#[48]⟩,⟨#[45,50]⟩,⟨#[48]⟩,⟨#[48]⟩,⟨#[50]⟩,⟨#[48]⟩,⟨#[49,48]⟩,⟨#[50]⟩,⟨#[48]⟩,⟨#[48]⟩,⟨#[45,50]⟩,⟨#[51]⟩,⟨#[49,48]⟩,⟨#[45,50]⟩,⟨#[51]⟩,⟨#[49,48]⟩,⟨#[50]⟩,⟨#[51]⟩,⟨#[48]⟩,⟨#[45,50]⟩,⟨#[51]⟩,⟨#[49,48]⟩,⟨#[50]⟩,⟨#[51]⟩,⟨#[48]⟩,⟨#[50]⟩,⟨#[51]⟩,⟨#[48]⟩,⟨#[45,50]⟩,⟨#[48]⟩,⟨#[49,48]⟩,⟨#[45,50]⟩,⟨#[48]⟩,⟨#[49,48]⟩,⟨#[45,50]⟩,⟨#[51]⟩,⟨#[48]⟩,⟨#[45,50]⟩,⟨#[48]⟩,⟨#[49,48]⟩,⟨#[45,50]⟩,⟨#[51]⟩,⟨#[48]⟩,⟨#[45,50]⟩,⟨#[51]⟩,⟨#[49,48]⟩,⟨#[45,50]⟩,⟨#[48]⟩,⟨#[49,48]⟩,⟨#[50]⟩,⟨#[48]⟩,⟨#[49,48]⟩,⟨#[50]⟩,⟨#[51]⟩,⟨#[49,48]⟩,⟨#[45,50]⟩,⟨#[48]⟩,⟨#[49,48]⟩,⟨#[50]⟩,⟨#[51]⟩,⟨#[49,48]⟩,⟨#[45,50]⟩,⟨#[51]⟩,⟨#[49,48]⟩,⟨#[50]⟩,⟨#[48]⟩,⟨#[48]⟩,⟨#[50]⟩,⟨#[48]⟩,⟨#[48]⟩,⟨#[50]⟩,⟨#[51]⟩,⟨#[49,48]⟩,⟨#[50]⟩,⟨#[48]⟩,⟨#[48]⟩,⟨#[50]⟩,⟨#[51]⟩,⟨#[49,48]⟩,⟨#[50]⟩,⟨#[51]⟩,⟨#[48]⟩,⟨#[50]⟩,⟨#[48]⟩,⟨#[48]⟩,⟨#[45,50]⟩,⟨#[48]⟩,⟨#[48]⟩,⟨#[45,50]⟩,⟨#[51]⟩,⟨#[48]⟩,⟨#[50]⟩,⟨#[48]⟩,⟨#[48]⟩,⟨#[45,50]⟩,⟨#[51]⟩,⟨#[48]⟩,⟨#[50]⟩,⟨#[51]⟩]
set_option maxRecDepth 100000 in
theorem aT4:gQ mA=bAu:=by decide+kernel
set_option maxRecDepth 100000 in
theorem bE4 {X:Nat→Prop}{w:World}(hX:∀b,X b→b<w.heap.size):Fn PP 44 [.string ⟨#[48]⟩,.string ⟨#[50]⟩,.string ⟨#[49,48]⟩,.string ⟨#[51]⟩] X w (rowS 12 (gQ mA)):=by
 rw[aT4];obtain⟨R,hRR⟩:=nm (rowS 12 bAu);rw[←hRR];obtain⟨K,hK⟩:∃K:List KF,K=[]:=⟨_,rfl⟩;refine bE mixed tok [.s (.v ⟨#[48]⟩),.s (.v ⟨#[50]⟩),.s (.v ⟨#[49,48]⟩),.s (.v ⟨#[51]⟩)] (K:=K) Tryz.func44 rfl rfl (lbl rfl) rfl hX (by rw[hK];simp) fun c hc hR=>?_
 refine zN hc ?_;cbv;refine aQ hc ⟨by show _≤_;decide,trivial⟩ ?_;refine fX hc (iL ⟨#[48]⟩ ⟨#[45,50]⟩ ⟨#[48]⟩) (yP ⟨#[48]⟩ ⟨#[45,50]⟩ ⟨#[48]⟩) nL (by kernel_rfl) (by kernel_rfl) 100 ?_;cbv;refine fX hc (iL ⟨#[49,48]⟩ ⟨#[45,50]⟩ ⟨#[48]⟩) (yP ⟨#[49,48]⟩ ⟨#[45,50]⟩ ⟨#[48]⟩) nL (by kernel_rfl) (by kernel_rfl) 100 ?_;cbv;refine fX hc (iL ⟨#[49,48]⟩ ⟨#[50]⟩ ⟨#[48]⟩) (yP ⟨#[49,48]⟩ ⟨#[50]⟩ ⟨#[48]⟩) nL (by kernel_rfl) (by kernel_rfl) 100 ?_;cbv;refine fX hc (iL ⟨#[48]⟩ ⟨#[50]⟩ ⟨#[48]⟩) (yP ⟨#[48]⟩ ⟨#[50]⟩ ⟨#[48]⟩) nL (by kernel_rfl) (by kernel_rfl) 100 ?_;cbv;refine fX hc (iL ⟨#[48]⟩ ⟨#[45,50]⟩ ⟨#[51]⟩) (yP ⟨#[48]⟩ ⟨#[45,50]⟩ ⟨#[51]⟩) nL (by kernel_rfl) (by kernel_rfl) 100 ?_;cbv;refine fX hc (iL ⟨#[49,48]⟩ ⟨#[45,50]⟩ ⟨#[51]⟩) (yP ⟨#[49,48]⟩ ⟨#[45,50]⟩ ⟨#[51]⟩) nL (by kernel_rfl) (by kernel_rfl) 100 ?_;cbv;refine fX hc (iL ⟨#[49,48]⟩ ⟨#[50]⟩ ⟨#[51]⟩) (yP ⟨#[49,48]⟩ ⟨#[50]⟩ ⟨#[51]⟩) nL (by kernel_rfl) (by kernel_rfl) 100 ?_;cbv;refine fX hc (iL ⟨#[48]⟩ ⟨#[50]⟩ ⟨#[51]⟩) (yP ⟨#[48]⟩ ⟨#[50]⟩ ⟨#[51]⟩) nL (by kernel_rfl) (by kernel_rfl) 100 ?_;cbv;obtain⟨E,hE⟩:∃E:Option Addr→Nat→Nat→List Value→OF,∀a n cap l,E a n cap l=OF.rv (.slice a n cap) c.B.heap.size 38 9 n l:=⟨_,fun _ _ _ _=>rfl⟩;refine aSo 8 8 (n:=12) (sz:=9) hE (K':=K) (l:=[]) rfl rfl rfl rfl rfl (by decide) rfl trivial rfl (by subst hK;trivial) trivial (fun b0=>?_);cbv;refine eC (sz:=9) (hE _ _ _ _) rfl rfl (pre:=[]) rfl ?_;cbv;refine aS hc hR rfl (fun X μ a w v' Hs hv'=>?_);have:=Hs.toP.cst (.head _)
 simp only[aC]at hv';injection hv' with hv'
 rw[hRR,←hv'];exact this
def at0:At:=⟨0,0⟩
def pl0:Pl:=at0.water 1
def aOn:Raw:=⟨gQ mA,12,⟨#[48]⟩,⟨#[48]⟩,⟨#[49]⟩⟩
theorem pB:∀t,t∈mA→t.le (2^9):=by
 unfold Tri.le V3.le;decide+kernel
theorem aFo:pl0.fit (2^9):=⟨fun h=>by have:=congrArg V3.z h;revert this;decide+kernel,by unfold V3.le;decide+kernel,by decide+kernel⟩
theorem aPi (l:List Tri):nH (gQ l)=false:=by
 unfold nH;rw[Bool.not_eq_false',List.all_eq_true];intro a ha;obtain⟨t,_,h⟩:=List.mem_flatMap.1 ha;unfold aO6 at h;simp only[List.mem_cons,List.not_mem_nil,or_false]at h
 rcases h with h | h | h | h | h | h | h | h | h<;>rw[h]<;>exact sI _
theorem bAd {l:List Tri}{k:Nat}(hk:2*k+2≤2^31)(hl:∀t,t∈l→t.le k):∀a,a∈gQ l→a.size≤2^31:=by
 intro a ha;obtain⟨t,ht,h⟩:=List.mem_flatMap.1 ha;have:=hl t ht
 obtain⟨⟨a1,a2,a3⟩,⟨b1,b2,b3⟩,c1,c2,c3⟩:=this;unfold aO6 at h;simp only[List.mem_cons,List.not_mem_nil,or_false]at h
 rcases h with h | h | h | h | h | h | h | h | h<;>rw[h]<;>exact lTr (bH _) (by omega)
theorem aQ7:aOn.good mA pl0:=by
 refine⟨rfl,aPi _,bAd (k:=2^9) (by decide) pB,rfl,fun t ht=>⟨(pB t ht).1.mono (by decide),(pB t ht).2.1.mono (by decide),(pB t ht).2.2.mono (by decide)⟩,?_,by decide+kernel⟩;have k:=aK5 (a:=at0) (d:=1) ⟨by decide+kernel,by decide+kernel⟩ (by decide+kernel)
 rw[if_pos (show at0.ok=true by decide+kernel)]at k;unfold atV at k;rw[show aA at0.h=⟨#[48]⟩ from fQ,show aA at0.t=⟨#[48]⟩ from fQ,qK]at k;exact k
theorem bFi:aA (aT pl0 mA).v=⟨#[52,48]⟩:=by decide+kernel
theorem bDe:fS ((aT pl0 mA).f.scale (1/(aT pl0 mA).v))=.agg #[.string ⟨#[53]⟩,.string ⟨#[48]⟩,.string ⟨#[49,47,50]⟩]:=by
 unfold fS kR;rw[show aA ((aT pl0 mA).f.scale (1/(aT pl0 mA).v)).x=⟨#[53]⟩ by decide+kernel,show aA ((aT pl0 mA).f.scale (1/(aT pl0 mA).v)).y=⟨#[48]⟩ by decide+kernel,show aA ((aT pl0 mA).f.scale (1/(aT pl0 mA).v)).z=⟨#[49,47,50]⟩ by decide+kernel]
theorem wp0:wpV (wpS at0.ahead at0.side (dB pl0 mA))=.agg #[.string ⟨#[52,48]⟩,.string ⟨#[50,48,48]⟩,.string ⟨#[48]⟩,.string ⟨#[52,48,48,48,47,51]⟩,.string ⟨#[49,54,48,47,51]⟩,.string ⟨#[48]⟩]:=by
 unfold wpV;rw[show aA (wpS at0.ahead at0.side (dB pl0 mA)).a=⟨#[52,48]⟩ by decide+kernel,show aA (wpS at0.ahead at0.side (dB pl0 mA)).x=⟨#[50,48,48]⟩ by decide+kernel,show aA (wpS at0.ahead at0.side (dB pl0 mA)).y=⟨#[48]⟩ by decide+kernel,show aA (wpS at0.ahead at0.side (dB pl0 mA)).xx=⟨#[52,48,48,48,47,51]⟩ by decide+kernel,show aA (wpS at0.ahead at0.side (dB pl0 mA)).yy=⟨#[49,54,48,47,51]⟩ by decide+kernel,show aA (wpS at0.ahead at0.side (dB pl0 mA)).xy=⟨#[48]⟩ by decide+kernel]
theorem aZi {X:Nat→Prop}{w:World}(hX:∀b,X b→b<w.heap.size):Fn PP 11 [] X w (dJ (.bool true)):=by
 have hL:aOn.L.length=9*aOn.N:=by show(gQ mA).length=9*12;rw[fP];rfl
 obtain⟨RS,hRS⟩:=nm (rowS 12 (gQ mA));have kb:∀{X:Nat→Prop} {w:World},(∀b,X b→b<w.heap.size)→Fn PP 44 [.string ⟨#[48]⟩,.string ⟨#[50]⟩,.string ⟨#[49,48]⟩,.string ⟨#[51]⟩] X w RS:=fun hX=>by rw[hRS];exact bE4 hX
 have kc:∀{X:Nat→Prop} {w:World} {v:Value},RS.p v X w→Fn PP 14 [v] X w RS:=fun {X} {w} {v} hv=>by
  rw[hRS]at hv ⊢;exact aKq (by rw[fP];rfl) (by decide) hv
 have kv:∀{X:Nat→Prop} {w:World} {v:Value},(∀b,X b→b<w.heap.size)→RS.p v X w→Fn PP 19 [v,.agg #[.string ⟨#[48]⟩,.string ⟨#[48]⟩],.string ⟨#[49]⟩] X w (dJ (.tuple #[.string ⟨#[52,48]⟩,.int .i64 0])):=fun {X} {w} {v} hX hv=>by
  rw[hRS]at hv;have:=tR (r:=aOn) aQ7 aFo pB (by decide) hL hX hv
  rw[bFi]at this;exact this
 have ke:∀{X:Nat→Prop} {w:World} {v:Value},(∀b,X b→b<w.heap.size)→RS.p v X w→Fn PP 26 [v,.agg #[.string ⟨#[48]⟩,.string ⟨#[48]⟩],.string ⟨#[49]⟩] X w (dJ (.tuple #[.agg #[.string ⟨#[53]⟩,.string ⟨#[48]⟩,.string ⟨#[49,47,50]⟩],.int .i64 0])):=fun {X} {w} {v} hX hv=>by
  rw[hRS]at hv;have:=aJq (r:=aOn) aQ7 aFo pB (by decide) hL (by unfold Ms.le V3.le;decide+kernel) (by decide+kernel) hX hv
  rw[bDe]at this;exact this
 have kp:∀{X:Nat→Prop} {w:World} {v:Value},(∀b,X b→b<w.heap.size)→RS.p v X w→Fn PP 13 [v,.agg #[.string ⟨#[48]⟩,.string ⟨#[48]⟩],.string ⟨#[49]⟩] X w (dJ (.tuple #[.agg #[.string ⟨#[52,48]⟩,.string ⟨#[50,48,48]⟩,.string ⟨#[48]⟩,.string ⟨#[52,48,48,48,47,51]⟩,.string ⟨#[49,54,48,47,51]⟩,.string ⟨#[48]⟩],.int .i64 0])):=fun {X} {w} {v} hX hv=>by
  rw[hRS]at hv;have:=aA4 (r:=aOn) (a:=at0) aQ7 aFo pB (by decide) hL ⟨by decide+kernel,by decide+kernel⟩ (by decide+kernel) (by unfold Raw.attV atV;rw[show aA at0.h=⟨#[48]⟩ from fQ,show aA at0.t=⟨#[48]⟩ from fQ];rfl) (by decide+kernel) hX hv
  rw[wp0]at this;exact this
 obtain⟨R,hRR⟩:=nm (dJ (.bool true));rw[←hRR];obtain⟨K,hK⟩:∃K:List KF,K=[]:=⟨_,rfl⟩;refine bE mixed tok [] (K:=K) Tryz.func11 rfl rfl (lbl rfl) rfl hX (by rw[hK];simp) fun c hc hR=>?_
 refine zN hc ?_;cbv;refine eE hc (R:=RS) aXk (fun n0 D X μ a w aL H hv=>?_) 100 ?_
 ·rw[←(Option.some.inj hv)];exact kb H.xlt
 cbv;refine mY hc (R:=RS) mE (fun D X μ a w aL H hv=>?_) 100 ?_
 ·obtain⟨u,rfl,e⟩:=aV hv;exact kc (H.val (R:=RS) (by repeat (first | exact .head _ | apply List.Mem.tail)) e)
 cbv;refine pV hc (.t [.s (.v ⟨#[52,48]⟩),.i .i64 (.l 0)]) wW (fun D X μ a w aL H hv=>?_) rfl 100 ?_
 ·obtain⟨u1,u2,u3,rfl,e1,e2,e3⟩:=eX hv;rw[show u2=_ from(Option.some.inj e2).symm,show u3=_ from(Option.some.inj e3).symm];exact kv H.xlt (H.val (R:=RS) (by repeat (first | exact .head _ | apply List.Mem.tail)) e1)
 cbv;refine cP hc _ rfl rfl rfl rfl rfl 0 ?_;cbv;refine cP hc _ rfl rfl rfl rfl rfl 0 ?_;cbv;refine zE hc ?_;cbv;refine mY hc (R:=RS) mE (fun D X μ a w aL H hv=>?_) 100 ?_
 ·obtain⟨u,rfl,e⟩:=aV hv;exact kc (H.val (R:=RS) (by repeat (first | exact .head _ | apply List.Mem.tail)) e)
 cbv;refine pV hc (.t [iL ⟨#[53]⟩ ⟨#[48]⟩ ⟨#[49,47,50]⟩,.i .i64 (.l 0)]) aNe (fun D X μ a w aL H hv=>?_) rfl 3 ?_
 ·obtain⟨u1,u2,u3,rfl,e1,e2,e3⟩:=eX hv;rw[show u2=_ from(Option.some.inj e2).symm,show u3=_ from(Option.some.inj e3).symm];exact ke H.xlt (H.val (R:=RS) (by repeat (first | exact .head _ | apply List.Mem.tail)) e1)
 cbv;refine fM hc _ rfl rfl rfl rfl ?_;cbv;refine aAb hc 9 (by kernel_rfl) (by decide) (by decide) rfl 100 ?_;cbv;refine mY hc (R:=RS) mE (fun D X μ a w aL H hv=>?_) 100 ?_
 ·obtain⟨u,rfl,e⟩:=aV hv;exact kc (H.val (R:=RS) (by repeat (first | exact .head _ | apply List.Mem.tail)) e)
 cbv;refine pV hc (.t [.g [.s (.v ⟨#[52,48]⟩),.s (.v ⟨#[50,48,48]⟩),.s (.v ⟨#[48]⟩),.s (.v ⟨#[52,48,48,48,47,51]⟩),.s (.v ⟨#[49,54,48,47,51]⟩),.s (.v ⟨#[48]⟩)],.i .i64 (.l 0)]) aCf (fun D X μ a w aL H hv=>?_) rfl 3 ?_
 ·obtain⟨u1,u2,u3,rfl,e1,e2,e3⟩:=eX hv;rw[show u2=_ from(Option.some.inj e2).symm,show u3=_ from(Option.some.inj e3).symm];exact kp H.xlt (H.val (R:=RS) (by repeat (first | exact .head _ | apply List.Mem.tail)) e1)
 cbv;refine fM hc _ rfl rfl rfl rfl ?_;cbv;refine aAb hc 9 (by kernel_rfl) (by decide) (by decide) rfl 100 ?_;cbv;refine bT hc 34 rfl rfl 100 (fun h=>?_) (fun h=>absurd h (by decide+kernel));cbv;refine bT hc 39 rfl rfl 100 (fun h=>?_) (fun h=>absurd h (by decide+kernel));cbv;refine bT hc 44 rfl rfl 100 (fun h=>?_) (fun h=>absurd h (by decide+kernel));cbv;refine aS hc hR rfl (fun X μ a w v' H hv'=>?_);rw[hRR];simp only[aC]at hv';injection hv' with hv'
 rw[←hv'];show Value.bool _=Value.bool true
 first | rfl | exact congrArg Value.bool (by decide+kernel)
theorem gR:aB PP 45:=zK
theorem lQ:aB PP 96:=zK
theorem aNf:aB PP 47:=zK
theorem aNg:aB PP 46:=zK
theorem aXl:aB PP 12:=zK
def sh (s:ByteArray):Bool:=decide ((s.size:Int)≤40)
theorem xJ (s:ByteArray):Pure PP 45 [.string s] (.bool (sh s)):=by
 unfold sh;refine aG mixed tok [.s (.v s)] Tryz.func45 rfl rfl (lbl rfl) rfl fun c hc hR=>?_
 refine zN hc ?_;cbv;exact aD hc hR rfl rfl
theorem aUw (h t:ByteArray):Pure PP 47 [.agg #[.string h,.string t]] (.bool (sh h&&sh t)):=by
 have k1:=xJ h
 have k2:=xJ t
 generalize sh h=b1 at *;generalize sh t=b2 at *;refine aG mixed tok [.g [.s (.v h),.s (.v t)]] Tryz.func47 rfl rfl (lbl rfl) rfl fun c hc hR=>?_
 refine zN hc ?_;cbv;cases b1
 ·refine zC hc (.b (.l false)) k1 gR ?_;cbv;exact aD hc hR rfl rfl
 ·refine zC hc (.b (.l true)) k1 gR ?_;cbv;cases b2
  ·refine zC hc (.b (.l false)) k2 gR ?_;cbv;exact aD hc hR rfl rfl
  ·refine zC hc (.b (.l true)) k2 gR ?_;cbv;exact aD hc hR rfl rfl
theorem aE9 (a b d:ByteArray):Pure PP 96 [kR a b d] (.bool (sh a&&sh b&&sh d)):=by
 have k1:=xJ a
 have k2:=xJ b
 have k3:=xJ d
 unfold kR;generalize sh a=b1 at *;generalize sh b=b2 at *;generalize sh d=b3 at *;refine aG mixed tok [iL a b d] Tryz.func96 rfl rfl (lbl rfl) rfl fun c hc hR=>?_
 refine zN hc ?_;cbv;cases b1
 ·refine zC hc (.b (.l false)) k1 gR ?_;cbv;exact aD hc hR rfl rfl
 ·refine zC hc (.b (.l true)) k1 gR ?_;cbv;cases b2
  ·refine zC hc (.b (.l false)) k2 gR ?_;cbv;exact aD hc hR rfl rfl
  ·refine zC hc (.b (.l true)) k2 gR ?_;cbv;cases b3
   ·refine zC hc (.b (.l false)) k3 gR ?_;cbv;exact aD hc hR rfl rfl
   ·refine zC hc (.b (.l true)) k3 gR ?_;cbv;exact aD hc hR rfl rfl
def aKw (L:List ByteArray)(x:Nat):Prop:=∀i a,i<x*9→L[i]?=some a→sh a=true
def shS (L:List ByteArray)(n:Nat):Bool:=decide (n=513)||(L.all sh&&decide (n≤24))
theorem aKx {L:List ByteArray}{N:Nat}(hL:L.length=9*N)(h:aKw L N):L.all sh=true:=by
 rw[List.all_eq_true];intro a ha;obtain⟨i,hi⟩:=List.getElem?_of_mem ha;exact h i a (by have:=(List.getElem?_eq_some_iff.1 hi).1;omega) hi
theorem iH {L:List ByteArray}{i n:Nat}{a:ByteArray}(hn:n≠513)(h:L[i]?=some a)(hb:sh a=false):shS L n=false:=by
 unfold shS;have:L.all sh=false:=by
  rw[←Bool.not_eq_true,List.all_eq_true];intro h2;have:=h2 a (List.mem_of_getElem? h)
  rw[hb]at this;cases this
 rw[this];simp[hn]
theorem aUx {L:List ByteArray}{N:Nat}(hL:L.length=9*N)(hN:N≤2^62){X:Nat→Prop}{w:World}{v:Value}(hX:∀b,X b→b<w.heap.size)(hv:(rowS N L).p v X w):
  Fn PP 46 [v] X w (dJ (.bool (shS L N))):=by
 obtain⟨R,hRR⟩:=nm (dJ (.bool (shS L N)));obtain⟨Q,hQ⟩:=nm (9*N);obtain⟨K,hK⟩:=nm ([KF.cst v (rowS N L)]);rw[←hRR];have fin:∀k:Bool,shS L N=k→∀{v':Value} {X:Nat→Prop} {w:World} {μ:Mu} {e:BE},e.den=k→aC μ (.b e)=some v'→R.p v' X w:=fun k hk v' X w μ e he hv'=>by
  rw[hRR,hk];simp only[aC,he]at hv';injection hv' with hv'
  exact hv'.symm
 have f513:decide ((N:Int)=513)=true→shS L N=true:=fun h=>by
  have:N=513:=by have:=of_decide_eq_true h;omega
  unfold shS;rw[this];rfl
 have n513:decide ((N:Int)=513)=false→N≠513:=fun h=>by have:=of_decide_eq_false h;omega
 have fend:N≠513→L.all sh=true→shS L N=decide ((N:Int)≤24):=fun h1 h2=>by
  unfold shS;rw[h2];simp only[h1,decide_false,Bool.true_and,Bool.false_or];exact decide_eq_decide.2 (by omega)
 have o3g:∀x:Nat,x<N→(Obl.inR .i64 (.add (.n x) (.l 1))).ok:=fun x hx=>by show lo _≤_∧_≤hi _;simp only[lo,hi,IE.den];omega
 refine bE mixed tok [.q v] (K:=K) Tryz.func46 rfl rfl (lbl rfl) rfl hX (by rw[hK];simp;exact hv) fun c hc hR=>?_
 refine iB 0 N Q L (by rw[hL,hQ]) rfl rfl (fun X μ a w v' H hv'=>cE H (by rw[hK];exact .head _) hv') (fun f cap hf dI=>?_);refine zN hc ?_;cbv;refine aE hc rfl 100 (fun h=>?_) (fun h=>?_)
 ·have h:=f513 h
  cbv;exact aS hc hR rfl (fun X μ a w v' H hv'=>fin true h (μ:=μ) rfl hv')
 have hn:=n513 h
 cbv;let ι:={x:Nat//x≤N∧aKw L x}
 let I:ι→St:=fun x=>⟨[(0,.sl 0 0 (.n N) cap),(8,.sl 0 0 (.n N) cap),(9,.i .i64 (.n N)),(10,.i .i64 (.n x.1))],[.xs Q f],[]⟩
 let x0:ι:=⟨0,Nat.zero_le _,fun i a hi=>by omega⟩
 refine zU 1 (S':=I x0) (K':=K) ⟨zS rfl rfl,zS rfl rfl,zS rfl rfl,zS rfl rfl,trivial⟩ (by subst hK;exact⟨⟨.head _,KFr.cst _ _ _⟩,trivial⟩) trivial ?_;refine bP hc I (fun x=>N - x.1) x0 100 ?_;rintro p ⟨x,hx,hsh⟩ hy;cbv;refine aE hc rfl 9 (fun h=>?_) (fun h=>?_)
 ·have hxN:x<N:=BE.ltn_t h
  obtain⟨a1,a2,a3,b1,b2,b3,d1,d2,d3,e0,e1,e2,e3,e4,e5,e6,e7,e8⟩:=nine hL hxN;have r9:=re9 (hf _ _ e0) (hf _ _ e1) (hf _ _ e2) (hf _ _ e3) (hf _ _ e4) (hf _ _ e5) (hf _ _ e6) (hf _ _ e7) (hf _ _ e8)
  have k1:=aE9 a1 a2 a3
  have k2:=aE9 b1 b2 b3
  have k3:=aE9 d1 d2 d3
  unfold kR at k1 k2 k3;have o1:(Obl.ltE (.n x) (.n N)).ok:=by show _∧_;simp only[IE.den];omega
  have o2:(Obl.ix 0 (.n x) 9 0 9 Q).ok:=by show aX 0 (x:Int) 9 0+9≤Q;simp only[aX,Int.toNat_natCast];omega
  have o3:=o3g x hxN
  obtain⟨x',hx'⟩:=nm (x+1);have hi1:((IE.n x).add (IE.l 1)).den=(IE.n x').den:=by simp only[IE.den,hx'];omega
  have bad1:(sh a1&&sh a2&&sh a3)=false→shS L N=false:=fun hb=>by
   simp only[Bool.and_eq_false_iff]at hb
   rcases hb with((h | h) | h)
   ·exact iH hn e0 h
   ·exact iH hn e1 h
   ·exact iH hn e2 h
  have bad2:(sh b1&&sh b2&&sh b3)=false→shS L N=false:=fun hb=>by
   simp only[Bool.and_eq_false_iff]at hb
   rcases hb with((h | h) | h)
   ·exact iH hn e3 h
   ·exact iH hn e4 h
   ·exact iH hn e5 h
  have bad3:(sh d1&&sh d2&&sh d3)=false→shS L N=false:=fun hb=>by
   simp only[Bool.and_eq_false_iff]at hb
   rcases hb with((h | h) | h)
   ·exact iH hn e6 h
   ·exact iH hn e7 h
   ·exact iH hn e8 h
  have tA:(sh a1&&sh a2&&sh a3)=true→(sh b1&&sh b2&&sh b3)=true→(sh d1&&sh d2&&sh d3)=true→aKw L x':=fun g1 g2 g3=>by
   simp only[Bool.and_eq_true]at g1 g2 g3;obtain⟨⟨h0,h1⟩,h2⟩:=g1;obtain⟨⟨h3,h4⟩,h5⟩:=g2;obtain⟨⟨h6,h7⟩,h8⟩:=g3;intro i a hi ha
   by_cases hix:i<x*9
   ·exact hsh i a hix ha
   ·have aRb:i=x*9+0∨i=x*9+1∨i=x*9+2∨i=x*9+3∨i=x*9+4∨i=x*9+5∨i=x*9+6∨i=x*9+7∨i=x*9+8:=by omega
    rcases aRb with h | h | h | h | h | h | h | h | h<;>subst h
    ·rw[e0]at ha;injection ha with ha;subst ha;exact h0
    ·rw[e1]at ha;injection ha with ha;subst ha;exact h1
    ·rw[e2]at ha;injection ha with ha;subst ha;exact h2
    ·rw[e3]at ha;injection ha with ha;subst ha;exact h3
    ·rw[e4]at ha;injection ha with ha;subst ha;exact h4
    ·rw[e5]at ha;injection ha with ha;subst ha;exact h5
    ·rw[e6]at ha;injection ha with ha;subst ha;exact h6
    ·rw[e7]at ha;injection ha with ha;subst ha;exact h7
    ·rw[e8]at ha;injection ha with ha;subst ha;exact h8
  clear e0 e1 e2 e3 e4 e5 e6 e7 e8;generalize (sh a1&&sh a2&&sh a3)=g1 at *;generalize (sh b1&&sh b2&&sh b3)=g2 at *;generalize (sh d1&&sh d2&&sh d3)=g3 at *;cbv;refine aQ hc ⟨o1,o2,trivial⟩ ?_;refine gM 1 [.s (.v a1),.s (.v a2),.s (.v a3),.s (.v b1),.s (.v b2),.s (.v b3),.s (.v d1),.s (.v d2),.s (.v d3)] rfl rfl r9 ?_;refine zN hc ?_;cbv;cases g1
  ·have h:=bad1 rfl
   refine zC hc (.b (.l false)) k1 lQ ?_;cbv;exact aS hc hR rfl (fun X μ a w v' H hv'=>fin false h (μ:=μ) rfl hv')
  refine zC hc (.b (.l true)) k1 lQ ?_;cbv;cases g2
  ·have h:=bad2 rfl
   refine zC hc (.b (.l false)) k2 lQ ?_;cbv;exact aS hc hR rfl (fun X μ a w v' H hv'=>fin false h (μ:=μ) rfl hv')
  refine zC hc (.b (.l true)) k2 lQ ?_;cbv;cases g3
  ·have h:=bad3 rfl
   refine zC hc (.b (.l false)) k3 lQ ?_;cbv;exact aS hc hR rfl (fun X μ a w v' H hv'=>fin false h (μ:=μ) rfl hv')
  have tA:=tA rfl rfl rfl
  have hyx:=hy ⟨x',by omega,tA⟩ (by show N - x'<N - x;omega)
  clear hy;refine zC hc (.b (.l true)) k3 lQ ?_;cbv;refine aQ hc ⟨o3,trivial⟩ ?_;exact zU 1 (S':=I ⟨x',by omega,tA⟩) (K':=K) ⟨zS rfl rfl,zS rfl rfl,zS rfl rfl,zI rfl rfl hi1,trivial⟩ (by subst hK;exact⟨⟨.head _,KFr.cst _ _ _⟩,trivial⟩) trivial hyx
 ·have hxN:x=N:=by have:=BE.ltn_f h;omega
  have jF:=fend hn (aKx hL (hxN▸hsh))
  clear hy;cbv;refine zN hc ?_;cbv;refine aS hc hR rfl (fun X μ a w v' H hv'=>?_);exact fin _ jF (μ:=μ) rfl hv'
theorem pX {a:ByteArray}(h:sh a=true):a.size≤40:=by have:=of_decide_eq_true h;omega
theorem oD {a:ByteArray}(h:iK a=true)(hs:sh a=true):∃q,a=aA q∧sz q≤40:=by
 obtain⟨q,hq⟩:=Option.isSome_iff_exists.1 h;have e:=mT hq
 have:=pX hs
 rw[e]at this;exact⟨q,e,lTr (fE q) this⟩
theorem eL {n:Nat}{L:List ByteArray}(h:L.length=n+1):∃a L',L=a::L'∧L'.length=n:=by
 match L,h with
 | a::L',h=>exact⟨a,L',rfl,by simpa using h⟩
theorem aS5:∀(N:Nat) (L:List ByteArray),L.length=9*N→(∀a,a∈L→iK a=true∧sh a=true)→∃l,L=gQ l∧∀t,t∈l→t.le 40
 | 0,L,hL,_=>⟨[],List.eq_nil_of_length_eq_zero hL,fun t ht=>by cases ht⟩
 | N+1,L,hL,h=>by
  obtain⟨a1,L1,rfl,h1⟩:=eL (n:=9*N+8) (by omega);obtain⟨a2,L2,rfl,h2⟩:=eL h1;obtain⟨a3,L3,rfl,h3⟩:=eL h2;obtain⟨b1,L4,rfl,h4⟩:=eL h3;obtain⟨b2,L5,rfl,h5⟩:=eL h4;obtain⟨b3,L6,rfl,h6⟩:=eL h5;obtain⟨d1,L7,rfl,h7⟩:=eL h6;obtain⟨d2,L8,rfl,h8⟩:=eL h7;obtain⟨d3,L9,rfl,h9⟩:=eL h8;obtain⟨l,rfl,hl⟩:=aS5 N L9 h9 (fun a ha=>h a (by simp[ha]));obtain⟨x1,rfl,y1⟩:=oD (h a1 (by simp)).1 (h a1 (by simp)).2;obtain⟨x2,rfl,y2⟩:=oD (h a2 (by simp)).1 (h a2 (by simp)).2;obtain⟨x3,rfl,y3⟩:=oD (h a3 (by simp)).1 (h a3 (by simp)).2;obtain⟨x4,rfl,y4⟩:=oD (h b1 (by simp)).1 (h b1 (by simp)).2;obtain⟨x5,rfl,y5⟩:=oD (h b2 (by simp)).1 (h b2 (by simp)).2;obtain⟨x6,rfl,y6⟩:=oD (h b3 (by simp)).1 (h b3 (by simp)).2;obtain⟨x7,rfl,y7⟩:=oD (h d1 (by simp)).1 (h d1 (by simp)).2;obtain⟨x8,rfl,y8⟩:=oD (h d2 (by simp)).1 (h d2 (by simp)).2;obtain⟨x9,rfl,y9⟩:=oD (h d3 (by simp)).1 (h d3 (by simp)).2;refine⟨⟨⟨x1,x2,x3⟩,⟨x4,x5,x6⟩,⟨x7,x8,x9⟩⟩::l,rfl,fun t ht=>?_⟩
  rcases List.mem_cons.1 ht with rfl | ht
  ·exact⟨⟨y1,y2,y3⟩,⟨y4,y5,y6⟩,y7,y8,y9⟩
  ·exact hl t ht
theorem aN9 {l:List Tri}{p:Pl}(hp:p.fit (2^9))(hl:∀t,t∈l→t.le (2^9))(hn:l.length≤32):(aT p l).le (2^29):=by
 have hM:(dB p l).length≤32:=lTr (wF p l) hn
 have sgle:∀g,g∈dB p l→g.a.le 12814∧g.b.le 12814:=fun g hg=>aFu hp hl hg
 have h1:(aSx (dB p l)).le (1+32*345996):=by
  unfold aSx;generalize dB p l=sg at hM sgle;have key:∀f,f=(sg.headD ⟨V3.zero,V3.zero⟩).a→(sg.foldl (fun s g=>s.add (Tri.mass ⟨f,g.a,g.b⟩)) Ms.none).le (1+32*345996):=by
   intro f hf;cases sg with
   | nil=>exact Ms.none_le.mono (by omega)
   | cons g0 sg=>
    have hfl:f.le 12814:=by rw[hf];exact(sgle g0 (.head _)).1
    have bDx:∀(s:Ms) (g:Seg) (k:Nat),g∈g0::sg→s.le k→(s.add (Tri.mass ⟨f,g.a,g.b⟩)).le (k+345996):=fun s g k hg hs=>(Ms.le_add hs (vN (t:=⟨f,g.a,g.b⟩) ⟨hfl,sgle g hg⟩)).mono (by omega)
    have h:=vF (fun(s:Ms) (g:Seg)=>s.add (Tri.mass ⟨f,g.a,g.b⟩)) (l:=g0::sg) (d:=345996) Ms.none_le bDx (g0::sg).length (lRf _)
    rw[List.take_length]at h;exact h.mono (by have:=Nat.mul_le_mul_right 345996 hM;omega)
  exact key _ rfl
 have bD9:∀(s:Ms) (t:Tri) (k:Nat),t∈l→s.le k→(fan (t.low p) s).le (k+691992):=fun s t k ht hs=>(aQ4 hp (hl t ht) hs).mono (by omega)
 have h2:=vF (fun(s:Ms) (t:Tri)=>fan (t.low p) s) (l:=l) (d:=691992) h1 bD9 l.length (lRf _)
 rw[List.take_length]at h2;exact h2.mono (by have:=Nat.mul_le_mul_right 691992 hn;omega)
theorem aQk {t:Rat}(h1:-(1/2)≤t)(h2:t≤1/2):gV t≠0:=by
 unfold gV;have h3:=aFm t
 have h4:(1:Rat) - t*t≠0:=by
  intro h;have h5:(1/2 - t)*(1/2+t)≥0:=Rat.mul_nonneg (by grind) (by grind)
  grind
 intro h;have h5:=Rat.div_mul_cancel (a:=1 - t*t) h3
 rw[h,Rat.zero_mul]at h5;exact h4 h5.symm
theorem bA1 (t:Rat):¬(gV t=0∧gJ t=0):=by
 rintro ⟨h1,h2⟩;have h3:=aFm t
 unfold gV gJ at *;have e:∀x:Rat,x/(1+t*t)=0→x=0:=fun x hx=>by
  have h5:=Rat.div_mul_cancel (a:=x) h3
  rw[hx,Rat.zero_mul]at h5;exact h5.symm
 have h4:=e _ h1
 have h5:=e _ h2
 grind
theorem At.up_ne {a:At}(h:a.ok=true):a.up≠V3.zero:=by
 obtain⟨_,_,h3,h4⟩:=(At.ok_iff a).1 h;have hc:=aQk h3 h4
 intro e;have ey:-(gJ a.h*gV a.t)=0:=congrArg V3.y e
 have ez:gV a.h*gV a.t=0:=congrArg V3.z e
 refine bA1 a.h ⟨?_,?_⟩
 ·rcases Rat.mul_eq_zero.1 ez with h | h
  ·exact h
  ·exact absurd h hc
 ·have ey:gJ a.h*gV a.t=0:=by grind
  rcases Rat.mul_eq_zero.1 ey with h | h
  ·exact h
  ·exact absurd h hc
inductive Out (r:Raw) (l:List Tri):Prop
 | bad (e:Int):r.errs e→Out r l
 | ok (p:Pl):r.good l p→p.fit (2^9)→(∀t,t∈l→t.le (2^9))→l.length≤24→Out r l
end Go.Ai
namespace Go.Ai
open Go Go.Proofs Go.Num
theorem aOt {v:Value}{X:Nat→Prop}{w:World}{l:List Int}(hb:l.length≤2^40)(hX:∀b,X b→b<w.heap.size)(hv:(lE .u32 l).p v X w):Fn PP 120 [v] X w (trimF v l):=by
 obtain⟨R,hRR⟩:=nm (trimF v l);obtain⟨K,hK⟩:=nm ([KF.cst v (lE .u32 l)]);rw[←hRR];refine bE mixed tok [.q v] (K:=K) Tryz.func120 rfl rfl (lbl rfl) rfl hX (by subst hK;simp;exact hv) fun c hc hR=>?_
 refine aSu 0 .u32 l rfl rfl (fun X μ a w H=>H.toP.cst (by simp[hK])) fun f N cap ad hN hf dI hv0=>?_
 obtain⟨K1,hK1⟩:=nm (KF.ext 0 ad::K);show Goal c (KF.ext 0 ad::K) _
 rw[←hK1];have kfo:lC 1 K1 K1:=by subst hK1;subst hK;exact⟨⟨.head _,KFr.ext (by omega) _⟩,⟨.tail _ (.head _),KFr.cst _ _ _⟩,trivial⟩
 refine zN hc ?_;cbv;let ι:={m:Nat//m≤N∧eA (l.take m)=eA l}
 let I:ι→St:=fun x=>⟨[(0,.sl 0 0 (.n x.1) cap)],[.xi .u32 N f],[]⟩
 let x0:ι:=⟨N,lRf _,by rw[hN,List.take_length]⟩
 refine zU 1 (S':=I x0) (K':=K1) ⟨zS rfl rfl,trivial⟩ kfo trivial ?_;refine bP hc I (fun x=>x.1) x0 100 ?_;rintro p ⟨m,hm,ht⟩ hy;have done:l.take m=eA l→∀X μ a w v S,Sim c K1 S X μ a w→S.hp[0]?=some (.xi .u32 N f)→aC μ (.sl 0 0 (.n m) cap)=some v→R.p v X w:=by
  intro h2 X μ a w v S H hk hv;rw[hRR];refine⟨?_,?_⟩
  rotate_left
  ·have h3:μ 0=some (.ext ad):=H.toP.kf (KF.ext 0 ad) (by rw[hK1];exact .head _)
   obtain⟨a',q1,q2,_⟩:=nO hv;simp only[atS,h3,Option.bind_some,MV.atS,Option.some.injEq]at q1;subst q1;rw[q2,hv0,←h2];have hm':(IE.n m).den.toNat=(l.take m).length:=by simp[IE.den];omega
   rw[hm'];simp[aOr]
  rw[←h2];exact H.toP.row hk hv (by simp[IE.den];omega) (fun i x hx=>by
   rw[List.getElem?_take]at hx;split at hx
   ·simpa using hf i x hx
   ·cases hx) (by simp;omega) (by simp;omega)
 cbv;refine bT hc 6 rfl rfl 100 (fun h=>?_) (fun h=>?_)
 ·have h:0<m:=by simpa[BE.den,IE.den]using h
  obtain⟨q,rfl⟩:∃q,m=q+1:=⟨m - 1,by omega⟩;have hq:l[q]?=some l[q]:=by simp
  have hfq:=hf q _ hq
  have htk:l.take (q+1)=l.take q++[l[q]]:=by rw[List.take_add_one,hq];rfl
  cbv;refine aQ hc ⟨?_,?_,?_,trivial⟩ ?_
  ·show _∧_;simp only[lo,hi,IE.den];omega
  ·show _∧_;simp only[IE.den];omega
  ·show _≤_;simp only[IE.den,aX];omega
  refine aE hc rfl 100 (fun h3=>?_) (fun h3=>?_)
  ·have h3:l[q]=0:=by
    have:=of_decide_eq_true h3
    simp only[IE.den,aX]at this;rw[←hfq,←this];congr 1;omega
   cbv;refine aQ hc ⟨?_,?_,trivial⟩ ?_
   ·show _∧_;simp only[lo,hi,IE.den];omega
   ·show _∧_;simp only[IE.den];omega
   refine zU 1 (S':=I ⟨q,by omega,by rw[←ht,htk,h3,uG]⟩) (K':=K1) ⟨⟨_,rfl,rfl,fun μ=>?_⟩,trivial⟩ kfo trivial (hy _ (Nat.lt_succ_self q));have e:((IE.n (q+1)).sub (IE.l 1)).den=(IE.n q).den:=by simp only[IE.den];omega
   simp only[aC,e]
  ·have h3:l[q]≠0:=by
    intro e;have h4:=of_decide_eq_false h3
    refine h4 ?_;simp only[IE.den,aX];rw[←e,←hfq];congr 1;omega
   cbv;refine aS hc hR rfl (fun X μ a w v H hv=>done ?_ X μ a w v _ H rfl hv);rw[←ht,htk,aCc h3]
 ·have h:m=0:=by
   have:=of_decide_eq_false h
   simp only[IE.den]at this;omega
  cbv;refine aS hc hR rfl (fun X μ a w v H hv=>done ?_ X μ a w v _ H rfl hv);rw[←ht,h];rfl
theorem aOu {v:Value}{X:Nat→Prop}{w:World}{l:List Int}(hb:l.length≤2^40)(hX:∀b,X b→b<w.heap.size)(hv:(lE .u32 l).p v X w):Fn PP 120 [v] X w (lE .u32 (eA l)):=
 (aOt hb hX hv).mono fun _ _ _ h=>h.1
theorem iZ {v:Value}{X:Nat→Prop}{w:World}{l:List Int}(hl:Wd l)(hb:l.length≤2^40)(hX:∀b,X b→b<w.heap.size)(hv:(lE .u32 l).p v X w):Fn PP 120 [v] X w (aP (val l).toNat):=by
 have:=aOu hb hX hv
 rwa [nD hl]at this
theorem nN:aB PP 120:=zK
theorem oG:aB PP 75:=zK
theorem xP {X:Nat→Prop}{w:World}{x:Int}(hX:∀b,X b→b<w.heap.size)(h0:0≤x)(h1:x<4294967296):Fn PP 75 [.int .u32 x] X w (aP x.toNat):=by
 obtain⟨R,hRR⟩:=nm (aP x.toNat);rw[←hRR];refine bE mixed tok [.i .u32 (.v x)] (K:=[]) Tryz.func75 rfl rfl (lbl rfl) rfl hX (fun f hf=>by cases hf) fun c hc hR=>?_
 refine zN hc ?_;cbv;refine aQ hc ⟨?_,?_,?_,trivial⟩ ?_
 ·show _≠_;simp[IE.den]
 ·show _≠_;simp[IE.den]
 ·show _∧_;simp only[lo,hi,IE.den,Int.tdiv_eq_ediv_of_nonneg h0];omega
 refine xS 0 .u32 rfl rfl rfl fun f hf=>?_
 have f0:=hf 0 _ rfl
 have f1:=hf 1 _ rfl
 have e1:x.tmod 1000000000=x%1000000000:=Int.tmod_eq_emod_of_nonneg h0
 have e2:x.tdiv 1000000000=x/1000000000:=Int.tdiv_eq_ediv_of_nonneg h0
 simp only[IE.den,e1,e2]at f0 f1;have hl:Wd [x%1000000000,x/1000000000]:=Wd.mk (by omega) (Wd.mk (by omega) Wd.nil)
 have hv:val [x%1000000000,x/1000000000]=x:=by simp only[val];omega
 cbv;refine eE (R:=R) hc nN (fun n0 D X μ a w aL H aJ=>?_) 100 ?_
 ·obtain⟨v,rfl,hv'⟩:=aV aJ;have h3:=H.row (l:=[x%1000000000,x/1000000000]) rfl hv' rfl (fun i y hy=>by
   match i,hy with
   | 0,hy=>simp at hy;subst hy;exact f0
   | 1,hy=>simp at hy;subst hy;exact f1) (lRf _) (lRf _)
  have:=iZ hl (by simp) H.xlt h3
  rw[hv]at this;rw[hRR];exact this
 cbv;exact aS hc hR rfl (fun X μ a w v H hv=>H.toP.val (k:=1) (.head _) hv)
theorem tK:aB PP 76:=zK
theorem aR7 {v u:Value}{X:Nat→Prop}{w:World}{n m:Nat}(hbn:(aF n).length≤2^40)(hbm:(aF m).length≤2^40)(hX:∀b,X b→b<w.heap.size)(hv:(aP n).p v X w)(hu:(aP m).p u X w):
  Fn PP 76 [v,u] X w (dJ (.int .i64 (bS n m))):=by
 obtain⟨R,hRR⟩:=nm (dJ (.int .i64 (bS n m)));obtain⟨K,hK⟩:=nm ([KF.cst v (aP n),KF.cst u (aP m)]);rw[←hRR];have lJ:∀{av:AV} {z:Int} {X μ v w},aC μ av=some v→(aC μ av=some (.int .i64 z))→z=bS n m→R.p v X w:=by
  intro av z X μ v w h1 h2 h3;rw[h2]at h1;injection h1 with h1
  rw[hRR,←h1,h3];rfl
 refine bE mixed tok [.q v,.q u] (K:=K) Tryz.func76 rfl rfl (lbl rfl) rfl hX (by subst hK;simp;exact⟨hv,hu⟩) fun c hc hR=>?_
 refine dQ 0 .u32 (aF n) rfl rfl (fun X μ a w v' H hv'=>cE H (by simp[hK]) hv') fun f N cap hN hf dI=>?_
 refine dQ 1 .u32 (aF m) rfl rfl (fun X μ a w v' H hv'=>cE H (by simp[hK]) hv') fun f' M aZ hM hf' gW=>?_
 refine zN hc ?_;cbv;refine aE hc rfl 100 (fun h=>?_) (fun h=>?_)
 ·have h:(N:Int)≠(M:Int):=BE.eq_f (BE.not_t h)
  have h:(aF n).length≠(aF m).length:=by omega
  have hlen:=aGs h
  have hle:∀z:Int,bS N M=z→z=bS n m:=fun z hz=>by rw[←hz,hN,hM];exact hlen
  have hlt:(N:Int)<(M:Int)→(-1:Int)=bS n m:=fun h=>hle _ (by unfold bS;rw[if_pos h])
  have hgt:¬(N:Int)<(M:Int)→(1:Int)=bS n m:=fun h'=>hle _ (by unfold bS;rw[if_neg h',if_pos (by omega)])
  cbv;refine aE hc rfl 100 (fun h2=>?_) (fun h2=>?_)
  ·have h2:=hlt (BE.lt_t h2)
   cbv;exact aS hc hR rfl (fun X μ a w v H hv=>lJ hv rfl h2)
  ·have h2:=hgt (BE.lt_f h2)
   cbv;exact aS hc hR rfl (fun X μ a w v H hv=>lJ hv rfl h2)
 ·have h:(N:Int)=(M:Int):=BE.eq_t (BE.not_f h)
  have h:M=N:=by omega
  subst h;cbv;refine aQ hc ⟨?_,trivial⟩ ?_
  ·show _∧_;simp only[lo,hi,IE.den];omega
  let ι:={k:Nat//k≤M∧(aF n).drop k=(aF m).drop k}
  let I:ι→St:=fun x=>⟨[(0,.sl 0 0 (.n M) cap),(1,.sl 1 0 (.n M) aZ),(5,.i .i64 (.sub (.n x.1) (.l 1)))],[.xi .u32 M f,.xi .u32 M f'],[]⟩
  let x0:ι:=⟨M,lRf _,by rw[List.drop_of_length_le (by omega),List.drop_of_length_le (by omega)]⟩
  refine zU 2 (S':=I x0) (K':=K) ⟨zS rfl rfl,zS rfl rfl,zS rfl rfl,trivial⟩ (by subst hK;exact⟨⟨.head _,KFr.cst _ _ _⟩,⟨.tail _ (.head _),KFr.cst _ _ _⟩,trivial⟩) trivial ?_;refine bP hc I (fun x=>x.1) x0 100 ?_;rintro p ⟨k,hk,hd⟩ hy;cbv;refine aE hc rfl 100 (fun h=>?_) (fun h=>?_)
  ·have h:(0:Int)≤(k:Int) - 1:=BE.le_t h
   obtain⟨q,rfl⟩:∃q,k=q+1:=⟨k - 1,by omega⟩;have hq:q<(aF n).length:=by omega
   have hq':q<(aF m).length:=by omega
   have gq:=hf q (aF n)[q] (by simp)
   have gq':=hf' q (aF m)[q] (by simp)
   have hwn:=bK n (aF n)[q] (List.getElem_mem _)
   have hwm:=bK m (aF m)[q] (List.getElem_mem _)
   have hix:aX 0 ((IE.n (q+1)).sub (IE.l 1)).den 1 0=q:=by simp only[aX,IE.den];omega
   cbv;have o1:(Obl.ltE ((IE.n (q+1)).sub (IE.l 1)) (IE.n M)).ok:=by show _∧_;simp only[IE.den];omega
   have o2:(Obl.ix 0 ((IE.n (q+1)).sub (IE.l 1)) 1 0 1 M).ok:=by show _≤_;rw[hix];omega
   refine aQ hc ⟨o1,o2,o1,o2,trivial⟩ ?_;have bBu:(aF n)[q]≠(aF m)[q]→bS (aF n)[q] (aF m)[q]=bS n m:=fun h=>by
    rw[aGt (bK n) (bK m) (List.getElem?_eq_getElem hq) (List.getElem?_eq_getElem hq') hd h,cN,cN]
   refine zE hc ?_;cbv;refine aE hc rfl 100 (fun h=>?_) (fun h=>?_)
   ·have h:f (aX 0 ((IE.n (q+1)).sub (IE.l 1)).den 1 0)<f' (aX 0 ((IE.n (q+1)).sub (IE.l 1)).den 1 0):=BE.lt_t h
    rw[hix,gq,gq']at h;have hz:(-1:Int)=bS n m:=by rw[←bBu (by omega)];unfold bS;rw[if_pos h]
    cbv;exact aS hc hR rfl (fun X μ a w v H hv=>lJ hv rfl hz)
   have h1:¬f (aX 0 ((IE.n (q+1)).sub (IE.l 1)).den 1 0)<f' (aX 0 ((IE.n (q+1)).sub (IE.l 1)).den 1 0):=BE.lt_f h
   rw[hix,gq,gq']at h1;clear h;cbv;refine aQ hc ⟨o1,o2,o1,o2,trivial⟩ ?_;refine zE hc ?_;cbv;refine aE hc rfl 100 (fun h=>?_) (fun h=>?_)
   ·have h:f' (aX 0 ((IE.n (q+1)).sub (IE.l 1)).den 1 0)<f (aX 0 ((IE.n (q+1)).sub (IE.l 1)).den 1 0):=BE.lt_t h
    rw[hix,gq,gq']at h;have hz:(1:Int)=bS n m:=by rw[←bBu (by omega)];unfold bS;rw[if_neg h1,if_pos h]
    cbv;exact aS hc hR rfl (fun X μ a w v H hv=>lJ hv rfl hz)
   ·have h:¬f' (aX 0 ((IE.n (q+1)).sub (IE.l 1)).den 1 0)<f (aX 0 ((IE.n (q+1)).sub (IE.l 1)).den 1 0):=BE.lt_f h
    rw[hix,gq,gq']at h;have h:(aF n)[q]=(aF m)[q]:=by omega
    cbv;refine aQ hc ⟨?_,trivial⟩ ?_
    ·show _∧_;simp only[lo,hi,IE.den];omega
    refine zU 2 (S':=I ⟨q,by omega,by rw[List.drop_eq_getElem_cons hq,List.drop_eq_getElem_cons hq',hd,h]⟩) (K':=K) ⟨zS rfl rfl,zS rfl rfl,⟨_,rfl,rfl,fun μ=>?_⟩,trivial⟩ (by subst hK;exact⟨⟨.head _,KFr.cst _ _ _⟩,⟨.tail _ (.head _),KFr.cst _ _ _⟩,trivial⟩) trivial (hy _ (Nat.lt_succ_self q));have e:(((IE.n (q+1)).sub (IE.l 1)).sub (IE.l 1)).den=((IE.n q).sub (IE.l 1)).den:=by simp only[IE.den];omega
    simp only[aC,e]
  ·have h:¬(0:Int)≤(k:Int) - 1:=BE.le_f h
   have h0:k=0:=by omega
   subst h0;cbv;refine aS hc hR rfl (fun X μ a w v H hv=>lJ hv rfl ?_);have:n=m:=aG2 (by simpa using hd)
   subst this;simp[bS,IE.den]
theorem bFa {a b:Nat}(h:a≤b):(1000000000:Int)^a≤1000000000^b:=by
 have e:∀k:Nat,(1000000000:Int)^k=((1000000000^k:Nat):Int):=fun k=>by simp
 rw[e,e];exact Int.ofNat_le.2 (Nat.pow_le_pow_right (by decide) h)
theorem aV9:aB PP 162:=zK
theorem oby {v:Value}{X:Nat→Prop}{w:World}{n m:Nat}(hm0:0<m)(hm1:m<1000000000)(hbn:(aF n).length≤2^39)(hX:∀b,X b→b<w.heap.size)(hv:(aP n).p v X w):
  Fn PP 162 [v,.int .u32 (m:Int)] X w (kB (aP (n/m)) (dJ (.int .u32 (n%m:Nat)))):=by
 have hmI:0<(m:Int)∧(m:Int)<1000000000:=by omega
 obtain⟨R1,hR1⟩:∃R,R=aP (n/m):=⟨_,rfl⟩;obtain⟨R2,hR2⟩:∃R,R=dJ (.int .u32 (n%m:Nat)):=⟨_,rfl⟩;obtain⟨R,hRR⟩:=nm (kB (aP (n/m)) (dJ (.int .u32 (n%m:Nat))));obtain⟨K,hK⟩:=nm ([KF.cst v (aP n)]);rw[←hRR];refine bE mixed tok [.q v,.i .u32 (.n m)] (K:=K) Tryz.func162 rfl rfl (lbl rfl) rfl hX (by subst hK;simp;exact hv) fun c hc hR=>?_
 refine dQ 0 .u32 (aF n) rfl rfl (fun X μ a w v' H hv'=>cE H (by simp[hK]) hv') fun f N cap hN hf dI=>?_
 have hfw:∀i,i<N→f i=(aF n).getD i 0:=fun i hi=>by
  have:=List.getElem?_eq_getElem (l:=aF n) (i:=i) (by omega)
  rw[hf i _ this,List.getD_eq_getElem?_getD,this];rfl
 have hbN:N≤2^39:=by omega
 have kf:∀q,lC q K K:=fun q=>by subst hK;exact⟨⟨.head _,KFr.cst _ _ _⟩,trivial⟩
 have dA:∀(kd:IntKind) (e:IE) (z:Int),e.den=z→lo kd≤z∧z≤hi kd→(Obl.inR kd e).ok:=fun kd e z he hz=>by show _∧_;rw[he];exact hz
 have q0:(Obl.inR .i64 ((IE.n N).sub (IE.l 1))).ok:=dA _ _ ((N:Int) - 1) rfl (by simp only[lo,hi];omega)
 refine zN hc ?_;cbv;refine pW hc _ rfl rfl rfl .u32 rfl rfl rfl rfl rfl rfl rfl dL ?_ ?_ ?_ (fun T z hT hz=>?_)
 ·simp only[IE.den];omega
 ·simp only[IE.den];omega
 ·simp only[IE.den];omega
 have hT:T=N:=by simp only[IE.den]at hT;omega
 subst hT;have hz0:z=List.replicate (aF n).length 0:=by rw[hz,hN]
 have dv0:Dv n m T z 0:=by rw[hz0,hN];exact Dv.init (by omega)
 refine zN hc ?_;cbv;refine aQ hc ⟨q0,trivial⟩ ?_;let ι:={x:Nat × List Int × Int//Dv n m x.1 x.2.1 x.2.2∧x.1≤T}
 let I:ι→St:=fun x=>⟨[(0,.sl 0 0 (.n T) cap),(1,.i .u32 (.n m)),(6,.sl 1 0 (.n T) T),(7,.i .u64 (.v x.1.2.2)),(8,.i .i64 (.sub (.n x.1.1) (.l 1)))],[.xi .u32 T f,.r 138 .u32 x.1.2.1],[]⟩
 let x0:ι:=⟨(T,z,0),dv0,lRf _⟩
 refine zU 2 (S':=I x0) (K':=K) ⟨zS rfl rfl,zS rfl rfl,zS rfl rfl,zS rfl rfl,zS rfl rfl,trivial⟩ (kf _) trivial ?_;refine bP hc I (fun x=>x.1.1) x0 100 ?_;rintro p ⟨⟨k,out,rest⟩,hD,hk⟩ hy;simp only at hD hk;have hlen:=hD.len
 have hrs:=hD.r
 cbv;refine aE hc rfl 100 (fun h=>?_) (fun h=>?_)
 ·have h:(0:Int)≤(k:Int) - 1:=BE.le_t h
  obtain⟨q,hq⟩:∃q,q+1=k:=⟨k - 1,by omega⟩;have hqT:q<T:=by omega
  have hqk:q<k:=by omega
  have hga:=bB (bK n) q
  obtain⟨ga,jY⟩:=nm ((aF n).getD q 0);rw[←jY]at hga;obtain⟨x,hx⟩:=nm (rest*1000000000+ga);obtain⟨x',hx'⟩:=nm (x/(m:Int));obtain⟨r',hr'⟩:=nm (x%(m:Int));obtain⟨hst,hb1,hb2⟩:=Dv.step (x:=x) (q:=q) (by rw[hq];exact hD) hmI.2 (by omega) (by rw[hx,jY]);rw[←hx']at hst hb1 hb2;rw[←hr']at hst;have hxb:0≤x∧x≤1000000000000000000:=by omega
  have hix:aX 0 ((IE.n k).sub (IE.l 1)).den 1 0=q:=by simp only[aX,IE.den];omega
  have g1:(IE.fn f 0 ((IE.n k).sub (IE.l 1)) 1 0).den=ga:=by show f (aX 0 ((IE.n k).sub (IE.l 1)).den 1 0)=ga;rw[hix,hfw q hqT,jY]
  have m1:((IE.v rest).mul (IE.l 1000000000)).den=rest*1000000000:=rfl
  have a1:(((IE.v rest).mul (IE.l 1000000000)).add (IE.fn f 0 ((IE.n k).sub (IE.l 1)) 1 0)).den=x:=by show rest*1000000000+(IE.fn f 0 ((IE.n k).sub (IE.l 1)) 1 0).den=x;rw[g1,hx]
  have d1:((((IE.v rest).mul (IE.l 1000000000)).add (IE.fn f 0 ((IE.n k).sub (IE.l 1)) 1 0)).quo (IE.n m)).den=x':=by
   show(((IE.v rest).mul (IE.l 1000000000)).add (IE.fn f 0 ((IE.n k).sub (IE.l 1)) 1 0)).den.tdiv (m:Int)=x'
   rw[a1,Int.tdiv_eq_ediv_of_nonneg hxb.1,hx']
  have r1:((((IE.v rest).mul (IE.l 1000000000)).add (IE.fn f 0 ((IE.n k).sub (IE.l 1)) 1 0)).rem (IE.n m)).den=r':=by
   show(((IE.v rest).mul (IE.l 1000000000)).add (IE.fn f 0 ((IE.n k).sub (IE.l 1)) 1 0)).den.tmod (m:Int)=r'
   rw[a1,Int.tmod_eq_emod_of_nonneg hxb.1,hr']
  have p1:=dA .u64 _ _ m1 (by simp only[lo,hi];omega)
  have p2:(Obl.ltE ((IE.n k).sub (IE.l 1)) (IE.n T)).ok:=by show _∧_;simp only[IE.den];omega
  have p3:(Obl.ix 0 ((IE.n k).sub (IE.l 1)) 1 0 1 T).ok:=by show _≤_;rw[hix];omega
  have p4:=dA .u64 _ _ g1 (by simp only[lo,hi];omega)
  have p5:=dA .u64 _ _ a1 (by simp only[lo,hi];omega)
  have nzm:(Obl.nz (IE.n m)).ok:=by show(m:Int)≠0;omega
  have pm:(Obl.inR .u64 (.n m)).ok:=dA _ _ (m:Int) rfl (by simp only[lo,hi];omega)
  have p6:=dA .u64 _ _ d1 (by simp only[lo,hi];omega)
  have p7:=dA .u32 _ _ d1 (by simp only[lo,hi];omega)
  have hlt:aX 0 ((IE.n k).sub (IE.l 1)).den 1 0<out.length:=by rw[hix,hlen];omega
  have p8:(Obl.inR .i64 (((IE.n k).sub (IE.l 1)).sub (IE.l 1))).ok:=dA _ _ ((k:Int) - 1 - 1) rfl (by simp only[lo,hi];omega)
  have s1:(((IE.n k).sub (IE.l 1)).sub (IE.l 1)).den=((IE.n q).sub (IE.l 1)).den:=by simp only[IE.den];omega
  have aY7:q≤T:=by omega
  cbv;refine zO hc ?_;refine iU hc _ rfl rfl (r:=(1,138,.u32,out,aX 0 ((IE.n k).sub (IE.l 1)).den 1 0,((((IE.v rest).mul (IE.l 1000000000)).add (IE.fn f 0 ((IE.n k).sub (IE.l 1)) 1 0)).quo (IE.n m)))) rfl hlt (fun l' hl'=>?_);have hl':l'=out.set q x':=by rw[hl',←hix,←d1]
  have hst:Dv n m q l' r':=by rw[hl'];exact hst
  refine zN hc ?_;cbv;refine zO hc ?_;refine zU 2 (S':=I ⟨(q,l',r'),hst,aY7⟩) (K':=K) ⟨zS rfl rfl,zS rfl rfl,zS rfl rfl,zI rfl rfl r1,zI rfl rfl s1,trivial⟩ (kf _) trivial (hy _ hqk)
 ·have h:¬(0:Int)≤(k:Int) - 1:=BE.le_f h
  have hk0:k=0:=by omega
  have hD:Dv n m 0 out rest:=by rw[←hk0];exact hD
  obtain⟨e1,e2⟩:=hD.done;have hlb:out.length≤2^40:=by omega
  have kA:out.length=T:=by rw[hlen,hN]
  have hrm:=Int.lt_trans hrs.2 hmI.2
  have pr:(Obl.inR .u32 (.v rest)).ok:=dA _ _ rest rfl (by simp only[lo,hi];exact⟨hrs.1,by omega⟩)
  have hr2:rest=((n%m:Nat):Int):=by rw[←e2];exact(Int.toNat_of_nonneg hrs.1).symm
  cbv;refine oS 1 rfl rfl (fun g N' hN' hg=>?_);refine eE (R:=R1) hc nN (fun n0 D X μ a w aL H aJ=>?_) 100 ?_
  ·obtain⟨v1,rfl,h1⟩:=aV aJ;have h2:=H.row (l:=out) rfl h1 (by rw[kA];rfl) (fun j y hj=>by rw[Nat.zero_add];exact hg j y hj) (by omega) (by omega)
   rw[hR1,←e1];exact iZ hD.wd hlb H.xlt h2
  cbv;refine zO hc ?_;refine aS hc hR rfl (fun X μ a w v H hv=>?_);simp only[aC]at hv;split at hv
  ·rename_i vs hvs;injection hv with hv
   obtain⟨v1,v2,rfl,h1,h2⟩:=bX hvs;have k1:=H.toP.val (k:=2) (R:=R1) (.head _) h1
   simp only[aC,IE.den]at h2;injection h2 with h2
   rw[hRR,←hv];exact⟨v1,v2,rfl,by rw[hR1]at k1;exact k1,by rw[←h2,hr2];rfl⟩
  ·cases hv
end Go.Ai
