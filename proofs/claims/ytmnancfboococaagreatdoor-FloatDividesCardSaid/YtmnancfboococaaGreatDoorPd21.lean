/- Part 22: lemmas for garboardlaw17.FloatDivides -/
import Derived.WalkKit
import Derived.Deep.LoopGhost
import Derived.Lib.Walk
import Derived.Lib.SliceRun
import Derived.Test.YtmnancfboococaaGreatDoorPd20
set_option linter.all false
namespace Go.Ai
open Go Go.Proofs Go.Num Go.RowKit Go.Lib
theorem nI:aB PP 14:=zK
set_option maxRecDepth 100000 in
theorem aFa:PP.underlying 23=some (.slice 38)/\∃i z,PP.info? 38=some i/\i.size=9/\i.bytes=144/\i.zero=some z/\z.cells.size=9:=by
 obtain⟨ti,hti⟩:∃ti,ty 23=some ti/\ti.kind=.slice 38 9:=⟨_,rfl,rfl⟩;obtain⟨ei,hei⟩:∃ei,ty 38=some ei/\ei.zero.length=9:=⟨_,rfl,rfl⟩;have T:=tok _ ti hti.1;have hu:=T.und;rw[hti.2]at hu;obtain⟨u1,tj,u2,u3⟩:=hu;obtain⟨tj',z,h1,h2,h3,h4,h5⟩:=(tok _ ei hei.1).info;rw[u2]at h1;injection h1 with h1;subst h1
 have hb:(PP.info? 38).map (·.bytes)=some 144:=zG
 rw[u2]at hb;exact⟨u1,tj,z,u2,u3,by simpa using hb,h3,by have:=aW h4;rw[hei.2]at this;simpa using this⟩
set_option maxHeartbeats 2000000 in
set_option maxRecDepth 100000 in
theorem aKi (b off n c:Nat)(xs:List Value)(w:World)(hl:xs.length=n*9)(bFe:n*144<=140737488355328)(h1:∀u∈xs,u.oneCell'=true)(hc:∀j u,xs[j]?=some u->w.cell? ⟨b,off+j,none⟩=some u):
  Calls PP 14 #[.slice (some ⟨b,off,none⟩) n c] w λe w'=>∃v',e=.returned v'/\w'.ownsRow w.heap.size 38 9 v' n xs/\Below w.heap.size w w':=by
 obtain⟨t22,i0,z,hi,hz1,hz2,hz0,hz3⟩:=aFa;have q22:∀(w:World) (a:Option Addr) (n c n' c':Nat),(binOp .eql 23 (.slice a n c) (.slice none n' c')).run PP w=.ok (.bool a.isNone) w:=λw a n c n' c'=>Lib.run_eql_slice_nil w _ _ a n c n' c' t22;have u22:∀w,Sem.run PP (underlying 23) w=.ok (TypeDesc.slice 38) w:=run_underlying t22;have A:Aside (∀j u,xs[j]?=some u->w.cell? ⟨b,off+j,none⟩=some u):=hc;clear hc;go_enter Tryz.func14,Tryz.ntmps14;go_wp2_with (at_builtin;refine wpList_append_own _ rfl _ _ 23 rfl w.heap.size 38 i0 z 9 144 t22 hi hz0 hz1 hz2 hz3 zV _ _ _ rfl (World.ownsRow_made w #[] 0 (lRf _) (Nat.zero_le _) rfl) ⟨b,off,none⟩ n c xs rfl ?qc1 ?qc2 ?qc3 ?qc4 ?qc5 ?qc6 ?_)
 case qc1=>exact hl
 case qc2=>
  intro j u hj;rw[Addr.add_lit];refine Lib.cell?_alloc_some _ ?_;exact A.out j u hj
 case qc3=>exact h1
 case qc4=>unfold maxLen;omega
 case qc5=>omega
 case qc6=>simp
 intro v' w1 eE aIc bDi;go_wp2;go_ret;refine⟨v',rfl,by simpa using eE,?_⟩;exact((Below.refl _ w).alloc (lRf _) _).grown aIc zA (by intro k hk;simp[Value.ownBlock]at hk;omega)
set_option maxHeartbeats 1000000 in
theorem aOk (n c:Nat)(w:World):
  Calls PP 14 #[.slice none n c] w λe w'=>e=.returned (.slice none 0 0)/\w'=w:=by
 obtain⟨t22,_⟩:=aFa;have q22:∀(w:World) (a:Option Addr) (n c n' c':Nat),(binOp .eql 23 (.slice a n c) (.slice none n' c')).run PP w=.ok (.bool a.isNone) w:=λw a n c n' c'=>Lib.run_eql_slice_nil w _ _ a n c n' c' t22;go_enter Tryz.func14,Tryz.ntmps14;go_wp2;go_ret;exact⟨rfl,rfl⟩
theorem aLn {L:List ByteArray}{N:Nat}(hL:L.length=9*N)(hN:N*144<=140737488355328){X:Nat->Prop}{w:World}{v:Value}(hv:(rowS N L).p v X w):
  Fn PP 14 [v] X w (rowS N L):=by
 intro _;obtain⟨ad,cap,rfl,cR,h3⟩:=hv;cases ad with
 | none=>
  obtain⟨e1,e2,e3⟩:=h3;refine Calls.mono (aOk N cap w) ?_;rintro e w' ⟨rfl,rfl⟩;refine⟨.slice none 0 0,X,rfl,Below.refl _ _,λ_ h=>h,λ_ h=>.inl h,none,0,?_,zW,e1,rfl,e3⟩;rw[e1];rfl
 | some x=>
  obtain⟨b,o⟩:=x;obtain⟨hb,cs,ty',rB,hcs⟩:=h3;refine Calls.mono (aKi b o N cap (L.map Value.string) w (by rw[List.length_map,hL];omega) hN (λu hu=>by obtain⟨x,_,rfl⟩:=List.mem_map.1 hu;rfl) (λj u hj=>?_)) ?_
  ·simp only[World.cell?,rB];have:=hcs j u hj;simp[this]
  ·rintro e w' ⟨v',rfl,eE,aR5⟩;have aM7:=eE;obtain⟨hlen,h2⟩:=eE;refine⟨v',λb=>X b\/v'.ownBlock=some b,rfl,aR5,λ_ h=>.inl h,λb' h=>h.imp id (λh=>World.ownsRow.lt aM7 b' h),?_⟩;rcases h2 with⟨rfl,h2⟩ | ⟨g,aS,cur,rfl,_,hg,hnc,_,bHh,htk⟩
   ·subst h2;have hLn:L=[]:=List.eq_nil_of_length_eq_zero (by simpa using hL);subst hLn;exact⟨none,0,rfl,lRf _,rfl,rfl,rfl⟩
   ·refine⟨some (g,0),aS,rfl,hnc,.inr rfl,cur,(38,(0,0)),hg,λi x hx=>?_⟩;have h3:(cur.toList.take (N*9))[i]?=some x:=by rw[htk];exact hx
    rw[List.getElem?_take]at h3;split at h3
    ·simpa using h3
    ·cases h3
end Go.Ai
namespace Go.Ai
open Go Go.Proofs Go.Num V3
theorem aYu:aB PP 44:=zK
theorem oF:aB PP 95:=zK
theorem aQo:aB PP 11:=zK
theorem aAa (a b d:ByteArray):Pure PP 95 [.string a,.string b,.string d] (lE a b d):=by
 unfold lE;refine aH mixed tok [.s (.v a),.s (.v b),.s (.v d)] Tryz.func95 rfl rfl rfl λc hc hR=>?_;apply zN hc;cbv;exact zR
def bx (a b c d:Rat):List Tri:=
 let p0:V3:=⟨a,-b,0⟩
 let p1:V3:=⟨c,-b,0⟩
 let p2:V3:=⟨c,b,0⟩
 let p3:V3:=⟨a,b,0⟩
 let q0:V3:=⟨a,-b,d⟩
 let q1:V3:=⟨c,-b,d⟩
 let q2:V3:=⟨c,b,d⟩
 let q3:V3:=⟨a,b,d⟩
 [⟨p0,p2,p1⟩,⟨p0,p3,p2⟩,⟨q0,q1,q2⟩,⟨q0,q2,q3⟩,⟨p0,p1,q1⟩,⟨p0,q1,q0⟩,⟨p1,p2,q2⟩,⟨p1,q2,q1⟩,⟨p2,p3,q3⟩,⟨p2,q3,q2⟩,⟨p3,p0,q0⟩,⟨p3,q0,q3⟩]
def nC:List Tri:=bx 0 2 10 3
def bB6:List ByteArray:=[⟨#[48]⟩,⟨#[45,50]⟩,⟨#[48]⟩,⟨#[49,48]⟩,⟨#[50]⟩,⟨#[48]⟩,⟨#[49,48]⟩,⟨#[45,50]⟩,⟨#[48]⟩,⟨#[48]⟩,⟨#[45,50]⟩,⟨#[48]⟩,⟨#[48]⟩,⟨#[50]⟩,⟨#[48]⟩,⟨#[49,48]⟩,⟨#[50]⟩,⟨#[48]⟩,⟨#[48]⟩,⟨#[45,50]⟩,⟨#[51]⟩,⟨#[49,48]⟩,⟨#[45,50]⟩,⟨#[51]⟩,⟨#[49,48]⟩,⟨#[50]⟩,⟨#[51]⟩,⟨#[48]⟩,⟨#[45,50]⟩,⟨#[51]⟩,⟨#[49,48]⟩,⟨#[50]⟩,⟨#[51]⟩,⟨#[48]⟩,⟨#[50]⟩,⟨#[51]⟩,⟨#[48]⟩,⟨#[45,50]⟩,⟨#[48]⟩,⟨#[49,48]⟩,⟨#[45,50]⟩,⟨#[48]⟩,⟨#[49,48]⟩,⟨#[45,50]⟩,⟨#[51]⟩,⟨#[48]⟩,⟨#[45,50]⟩,⟨#[48]⟩,⟨#[49,48]⟩,⟨#[45,50]⟩,⟨#[51]⟩,⟨#[48]⟩,⟨#[45,50]⟩,⟨#[51]⟩,⟨#[49,48]⟩,⟨#[45,50]⟩,⟨#[48]⟩,⟨#[49,48]⟩,⟨#[50]⟩,⟨#[48]⟩,⟨#[49,48]⟩,⟨#[50]⟩,⟨#[51]⟩,⟨#[49,48]⟩,⟨#[45,50]⟩,⟨#[48]⟩,⟨#[49,48]⟩,⟨#[50]⟩,⟨#[51]⟩,⟨#[49,48]⟩,⟨#[45,50]⟩,⟨#[51]⟩,⟨#[49,48]⟩,⟨#[50]⟩,⟨#[48]⟩,⟨#[48]⟩,⟨#[50]⟩,⟨#[48]⟩,⟨#[48]⟩,⟨#[50]⟩,⟨#[51]⟩,⟨#[49,48]⟩,⟨#[50]⟩,⟨#[48]⟩,⟨#[48]⟩,⟨#[50]⟩,⟨#[51]⟩,⟨#[49,48]⟩,⟨#[50]⟩,⟨#[51]⟩,⟨#[48]⟩,⟨#[50]⟩,⟨#[48]⟩,⟨#[48]⟩,⟨#[45,50]⟩,⟨#[48]⟩,⟨#[48]⟩,⟨#[45,50]⟩,⟨#[51]⟩,⟨#[48]⟩,⟨#[50]⟩,⟨#[48]⟩,⟨#[48]⟩,⟨#[45,50]⟩,⟨#[51]⟩,⟨#[48]⟩,⟨#[50]⟩,⟨#[51]⟩]
set_option maxRecDepth 100000 in
theorem aU5:dR nC=bB6:=by decide+kernel
set_option maxRecDepth 100000 in
theorem bGm {X:Nat->Prop}{w:World}(hX:∀b,X b->b<w.heap.size):Fn PP 44 [.string ⟨#[48]⟩,.string ⟨#[50]⟩,.string ⟨#[49,48]⟩,.string ⟨#[51]⟩] X w (rowS 12 (dR nC)):=by
 rw[aU5];obtain⟨R,hRR⟩:=nm (rowS 12 bB6);rw[<-hRR];obtain⟨K,hK⟩:∃K:List KF,K=[]:=⟨_,rfl⟩;refine bE mixed tok [.s (.v ⟨#[48]⟩),.s (.v ⟨#[50]⟩),.s (.v ⟨#[49,48]⟩),.s (.v ⟨#[51]⟩)] (K:=K) Tryz.func44 rfl rfl (lbl rfl) rfl hX (by rw[hK];simp) λc hc hR=>?_;apply zN hc;cbv;refine aP hc ⟨by show _<=_;decide,trivial⟩ ?_;refine gJ hc (iU ⟨#[48]⟩ ⟨#[45,50]⟩ ⟨#[48]⟩) (aAa ⟨#[48]⟩ ⟨#[45,50]⟩ ⟨#[48]⟩) oF zG zG 100 ?_;cbv;refine gJ hc (iU ⟨#[49,48]⟩ ⟨#[45,50]⟩ ⟨#[48]⟩) (aAa ⟨#[49,48]⟩ ⟨#[45,50]⟩ ⟨#[48]⟩) oF zG zG 100 ?_;cbv;refine gJ hc (iU ⟨#[49,48]⟩ ⟨#[50]⟩ ⟨#[48]⟩) (aAa ⟨#[49,48]⟩ ⟨#[50]⟩ ⟨#[48]⟩) oF zG zG 100 ?_;cbv;refine gJ hc (iU ⟨#[48]⟩ ⟨#[50]⟩ ⟨#[48]⟩) (aAa ⟨#[48]⟩ ⟨#[50]⟩ ⟨#[48]⟩) oF zG zG 100 ?_;cbv;refine gJ hc (iU ⟨#[48]⟩ ⟨#[45,50]⟩ ⟨#[51]⟩) (aAa ⟨#[48]⟩ ⟨#[45,50]⟩ ⟨#[51]⟩) oF zG zG 100 ?_;cbv;refine gJ hc (iU ⟨#[49,48]⟩ ⟨#[45,50]⟩ ⟨#[51]⟩) (aAa ⟨#[49,48]⟩ ⟨#[45,50]⟩ ⟨#[51]⟩) oF zG zG 100 ?_;cbv;refine gJ hc (iU ⟨#[49,48]⟩ ⟨#[50]⟩ ⟨#[51]⟩) (aAa ⟨#[49,48]⟩ ⟨#[50]⟩ ⟨#[51]⟩) oF zG zG 100 ?_;cbv;refine gJ hc (iU ⟨#[48]⟩ ⟨#[50]⟩ ⟨#[51]⟩) (aAa ⟨#[48]⟩ ⟨#[50]⟩ ⟨#[51]⟩) oF zG zG 100 ?_;cbv;obtain⟨E,hE⟩:∃E:Option Addr->Nat->Nat->List Value->OF,∀a n cap l,E a n cap l=OF.rv (.slice a n cap) c.B.heap.size 38 9 n l:=⟨_,λ_ _ _ _=>rfl⟩;refine aTp 8 8 (n:=12) (sz:=9) hE (K':=K) (l:=[]) rfl rfl rfl rfl rfl zV rfl trivial rfl (by subst hK;trivial) trivial (λb0=>?_);cbv;refine dW (sz:=9) (hE _ _ _ _) (pre:=[]) ?_;cbv;refine aR hc hR rfl (λX μ a w v' Hs hv'=>?_);have:=Hs.toP.cst (.head _);simp only[aD]at hv';injection hv' with hv'
 rw[hRR,<-hv'];exact this
def at0:At:=⟨0,0⟩
def pl0:Pl:=at0.water 1
def aPg:Raw:=⟨dR nC,12,⟨#[48]⟩,⟨#[48]⟩,⟨#[49]⟩⟩
theorem pX:∀t,t∈nC->t.le (2^9):=by
 unfold Tri.le V3.le;decide+kernel
theorem aGk:pl0.fit (2^9):=⟨λh=>by have:=congrArg V3.z h;revert this;decide+kernel,by unfold V3.le;decide+kernel,by decide+kernel⟩
theorem jR (l:List Tri):rL (dR l)=false:=by
 unfold rL;rw[Bool.not_eq_false',List.all_eq_true];intro a ha;obtain⟨t,_,h⟩:=List.mem_flatMap.1 ha;unfold aDn at h;simp only[List.mem_cons,List.not_mem_nil,or_false]at h;rcases h with h | h | h | h | h | h | h | h | h<;>rw[h]<;>exact aA0 _
theorem aLv {l:List Tri}{k:Nat}(hk:2*k+2<=2^31)(hl:∀t,t∈l->t.le k):∀a,a∈dR l->a.size<=2^31:=by
 intro a ha;obtain⟨t,ht,h⟩:=List.mem_flatMap.1 ha;have:=hl t ht;obtain⟨⟨a1,a2,a3⟩,⟨b1,b2,b3⟩,c1,c2,c3⟩:=this;unfold aDn at h;simp only[List.mem_cons,List.not_mem_nil,or_false]at h;rcases h with h | h | h | h | h | h | h | h | h<;>rw[h]<;>exact lTr (bP _) zW
theorem aR2:aPg.good nC pl0:=by
 refine⟨rfl,jR _,aLv (k:=2^9) zV pX,rfl,λt ht=>⟨(pX t ht).1.mono zV,(pX t ht).2.1.mono zV,(pX t ht).2.2.mono zV⟩,?_,by decide+kernel⟩;have k:=aUa (a:=at0) (d:=1) ⟨by decide+kernel,by decide+kernel⟩ (by decide+kernel);rw[if_pos (show at0.ok=true by decide+kernel)]at k;unfold atV at k;rw[show aA at0.h=⟨#[48]⟩ from gC,show aA at0.t=⟨#[48]⟩ from gC,rF]at k;exact k
theorem bGz:aA (aU pl0 nC).v=⟨#[52,48]⟩:=by decide+kernel
theorem bEt:gE ((aU pl0 nC).f.scale (1/(aU pl0 nC).v))=.agg #[.string ⟨#[53]⟩,.string ⟨#[48]⟩,.string ⟨#[49,47,50]⟩]:=by
 unfold gE lE;rw[show aA ((aU pl0 nC).f.scale (1/(aU pl0 nC).v)).x=⟨#[53]⟩ by decide+kernel,show aA ((aU pl0 nC).f.scale (1/(aU pl0 nC).v)).y=⟨#[48]⟩ by decide+kernel,show aA ((aU pl0 nC).f.scale (1/(aU pl0 nC).v)).z=⟨#[49,47,50]⟩ by decide+kernel]
theorem wp0:wpV (wpS at0.ahead at0.side (dT pl0 nC))=.agg #[.string ⟨#[52,48]⟩,.string ⟨#[50,48,48]⟩,.string ⟨#[48]⟩,.string ⟨#[52,48,48,48,47,51]⟩,.string ⟨#[49,54,48,47,51]⟩,.string ⟨#[48]⟩]:=by
 unfold wpV;rw[show aA (wpS at0.ahead at0.side (dT pl0 nC)).a=⟨#[52,48]⟩ by decide+kernel,show aA (wpS at0.ahead at0.side (dT pl0 nC)).x=⟨#[50,48,48]⟩ by decide+kernel,show aA (wpS at0.ahead at0.side (dT pl0 nC)).y=⟨#[48]⟩ by decide+kernel,show aA (wpS at0.ahead at0.side (dT pl0 nC)).xx=⟨#[52,48,48,48,47,51]⟩ by decide+kernel,show aA (wpS at0.ahead at0.side (dT pl0 nC)).yy=⟨#[49,54,48,47,51]⟩ by decide+kernel,show aA (wpS at0.ahead at0.side (dT pl0 nC)).xy=⟨#[48]⟩ by decide+kernel]
theorem bAs {X:Nat->Prop}{w:World}(hX:∀b,X b->b<w.heap.size):Fn PP 11 [] X w (dN (.bool true)):=by
 have hL:aPg.L.length=9*aPg.N:=by show(dR nC).length=9*12;rw[fM];rfl
 obtain⟨RS,hRS⟩:=nm (rowS 12 (dR nC));have kb:∀{X:Nat->Prop} {w:World},(∀b,X b->b<w.heap.size)->Fn PP 44 [.string ⟨#[48]⟩,.string ⟨#[50]⟩,.string ⟨#[49,48]⟩,.string ⟨#[51]⟩] X w RS:=λhX=>by rw[hRS];exact bGm hX
 have kc:∀{X:Nat->Prop} {w:World} {v:Value},RS.p v X w->Fn PP 14 [v] X w RS:=λ{X} {w} {v} hv=>by
  rw[hRS]at hv |-;exact aLn (by rw[fM];rfl) zV hv
 have kv:∀{X:Nat->Prop} {w:World} {v:Value},(∀b,X b->b<w.heap.size)->RS.p v X w->Fn PP 19 [v,.agg #[.string ⟨#[48]⟩,.string ⟨#[48]⟩],.string ⟨#[49]⟩] X w (dN (.tuple #[.string ⟨#[52,48]⟩,.int .i64 0])):=λ{X} {w} {v} hX hv=>by
  rw[hRS]at hv;have:=uT (r:=aPg) aR2 aGk pX zV hL hX hv;rw[bGz]at this;exact this
 have ke:∀{X:Nat->Prop} {w:World} {v:Value},(∀b,X b->b<w.heap.size)->RS.p v X w->Fn PP 26 [v,.agg #[.string ⟨#[48]⟩,.string ⟨#[48]⟩],.string ⟨#[49]⟩] X w (dN (.tuple #[.agg #[.string ⟨#[53]⟩,.string ⟨#[48]⟩,.string ⟨#[49,47,50]⟩],.int .i64 0])):=λ{X} {w} {v} hX hv=>by
  rw[hRS]at hv;have:=aKo (r:=aPg) aR2 aGk pX zV hL (by unfold Ms.le V3.le;decide+kernel) (by decide+kernel) hX hv;rw[bEt]at this;exact this
 have kp:∀{X:Nat->Prop} {w:World} {v:Value},(∀b,X b->b<w.heap.size)->RS.p v X w->Fn PP 13 [v,.agg #[.string ⟨#[48]⟩,.string ⟨#[48]⟩],.string ⟨#[49]⟩] X w (dN (.tuple #[.agg #[.string ⟨#[52,48]⟩,.string ⟨#[50,48,48]⟩,.string ⟨#[48]⟩,.string ⟨#[52,48,48,48,47,51]⟩,.string ⟨#[49,54,48,47,51]⟩,.string ⟨#[48]⟩],.int .i64 0])):=λ{X} {w} {v} hX hv=>by
  rw[hRS]at hv;have:=aB0 (r:=aPg) (a:=at0) aR2 aGk pX zV hL ⟨by decide+kernel,by decide+kernel⟩ (by decide+kernel) (by unfold Raw.attV atV;rw[show aA at0.h=⟨#[48]⟩ from gC,show aA at0.t=⟨#[48]⟩ from gC];rfl) (by decide+kernel) hX hv;rw[wp0]at this;exact this
 obtain⟨R,hRR⟩:=nm (dN (.bool true));rw[<-hRR];obtain⟨K,hK⟩:∃K:List KF,K=[]:=⟨_,rfl⟩;refine bE mixed tok [] (K:=K) Tryz.func11 rfl rfl (lbl rfl) rfl hX (by rw[hK];simp) λc hc hR=>?_;apply zN hc;cbv;refine dO hc (R:=RS) aYu (λn0 D X μ a w aK H hv=>?_) 100 ?_
 ·rw[<-(Option.some.inj hv)];exact kb H.xlt
 cbv;refine iK hc (R:=RS) nI (λD X μ a w aK H hv=>?_) 100 ?_
 ·obtain⟨u,rfl,e⟩:=aX hv;exact kc (H.val (R:=RS) zM e)
 cbv;refine qQ hc (.t [.s (.v ⟨#[52,48]⟩),.i .i64 (.l 0)]) xR (λD X μ a w aK H hv=>?_) 100 ?_
 ·obtain⟨u1,u2,u3,rfl,e1,e2,e3⟩:=eS hv;rw[show u2=_ from(Option.some.inj e2).symm,show u3=_ from(Option.some.inj e3).symm];exact kv H.xlt (H.val (R:=RS) zM e1)
 cbv;refine cM hc _ 0 ?_;cbv;refine cM hc _ 0 ?_;cbv;refine zE ?_;cbv;refine iK hc (R:=RS) nI (λD X μ a w aK H hv=>?_) 100 ?_
 ·obtain⟨u,rfl,e⟩:=aX hv;exact kc (H.val (R:=RS) zM e)
 cbv;refine qQ hc (.t [iU ⟨#[53]⟩ ⟨#[48]⟩ ⟨#[49,47,50]⟩,.i .i64 (.l 0)]) aOb (λD X μ a w aK H hv=>?_) 3 ?_
 ·obtain⟨u1,u2,u3,rfl,e1,e2,e3⟩:=eS hv;rw[show u2=_ from(Option.some.inj e2).symm,show u3=_ from(Option.some.inj e3).symm];exact ke H.xlt (H.val (R:=RS) zM e1)
 cbv;refine fJ hc _ ?_;cbv;refine aA6 hc 9 zG zV zV rfl 100 ?_;cbv;refine iK hc (R:=RS) nI (λD X μ a w aK H hv=>?_) 100 ?_
 ·obtain⟨u,rfl,e⟩:=aX hv;exact kc (H.val (R:=RS) zM e)
 cbv;refine qQ hc (.t [.g [.s (.v ⟨#[52,48]⟩),.s (.v ⟨#[50,48,48]⟩),.s (.v ⟨#[48]⟩),.s (.v ⟨#[52,48,48,48,47,51]⟩),.s (.v ⟨#[49,54,48,47,51]⟩),.s (.v ⟨#[48]⟩)],.i .i64 (.l 0)]) aDb (λD X μ a w aK H hv=>?_) 3 ?_
 ·obtain⟨u1,u2,u3,rfl,e1,e2,e3⟩:=eS hv;rw[show u2=_ from(Option.some.inj e2).symm,show u3=_ from(Option.some.inj e3).symm];exact kp H.xlt (H.val (R:=RS) zM e1)
 cbv;refine fJ hc _ ?_;cbv;refine aA6 hc 9 zG zV zV rfl 100 ?_;cbv;refine bV 34 rfl rfl 100 (λh=>?_) (λh=>absurd h (by decide+kernel));cbv;refine bV 39 rfl rfl 100 (λh=>?_) (λh=>absurd h (by decide+kernel));cbv;refine bV 44 rfl rfl 100 (λh=>?_) (λh=>absurd h (by decide+kernel));cbv;refine aR hc hR rfl (λX μ a w v' H hv'=>?_);rw[hRR];simp only[aD]at hv';injection hv' with hv'
 rw[<-hv'];show Value.bool _=Value.bool true
 first | rfl | exact congrArg Value.bool (by decide+kernel)
theorem fV:aB PP 45:=zK
theorem mO:aB PP 96:=zK
theorem aOc:aB PP 47:=zK
theorem aOd:aB PP 46:=zK
theorem aYv:aB PP 12:=zK
def sh (s:ByteArray):Bool:=decide ((s.size:Int)<=40)
theorem sF (s:ByteArray):Pure PP 45 [.string s] (.bool (sh s)):=by
 unfold sh;refine aH mixed tok [.s (.v s)] Tryz.func45 rfl rfl rfl λc hc hR=>?_;apply zN hc;cbv;exact zR
theorem aV3 (h t:ByteArray):Pure PP 47 [.agg #[.string h,.string t]] (.bool (sh h&&sh t)):=by
 have k1:=sF h
 have k2:=sF t
 generalize sh h=b1,sh t=b2 at *;refine aH mixed tok [.g [.s (.v h),.s (.v t)]] Tryz.func47 rfl rfl rfl λc hc hR=>?_;apply zN hc;cbv;cases b1
 ·refine zC (.b (.l false)) k1 fV ?_;cbv;exact zR
 ·refine zC (.b (.l true)) k1 fV ?_;cbv;cases b2
  ·refine zC (.b (.l false)) k2 fV ?_;cbv;exact zR
  ·refine zC (.b (.l true)) k2 fV ?_;cbv;exact zR
theorem aF7 (a b d:ByteArray):Pure PP 96 [lE a b d] (.bool (sh a&&sh b&&sh d)):=by
 have k1:=sF a
 have k2:=sF b
 have k3:=sF d
 unfold lE;generalize sh a=b1,sh b=b2,sh d=b3 at *;refine aH mixed tok [iU a b d] Tryz.func96 rfl rfl rfl λc hc hR=>?_;apply zN hc;cbv;cases b1
 ·refine zC (.b (.l false)) k1 fV ?_;cbv;exact zR
 ·refine zC (.b (.l true)) k1 fV ?_;cbv;cases b2
  ·refine zC (.b (.l false)) k2 fV ?_;cbv;exact zR
  ·refine zC (.b (.l true)) k2 fV ?_;cbv;cases b3
   ·refine zC (.b (.l false)) k3 fV ?_;cbv;exact zR
   ·refine zC (.b (.l true)) k3 fV ?_;cbv;exact zR
def aLt (L:List ByteArray)(x:Nat):Prop:=∀i a,i<x*9->L[i]?=some a->sh a=true
def shS (L:List ByteArray)(n:Nat):Bool:=decide (n=513)||(L.all sh&&decide (n<=24))
theorem aLu {L:List ByteArray}{N:Nat}(hL:L.length=9*N)(h:aLt L N):L.all sh=true:=by
 rw[List.all_eq_true];intro a ha;obtain⟨i,hi⟩:=List.getElem?_of_mem ha;exact h i a (by have:=(List.getElem?_eq_some_iff.1 hi).1;omega) hi
theorem iQ {L:List ByteArray}{i n:Nat}{a:ByteArray}(hn:n≠513)(h:L[i]?=some a)(hb:sh a=false):shS L n=false:=by
 unfold shS;have:L.all sh=false:=by
  rw[<-Bool.not_eq_true,List.all_eq_true];intro h2;have:=h2 a (List.mem_of_getElem? h);rw[hb]at this;cases this
 rw[this];simp[hn]
theorem aV4 {L:List ByteArray}{N:Nat}(hL:L.length=9*N)(hN:N<=2^62){X:Nat->Prop}{w:World}{v:Value}(hX:∀b,X b->b<w.heap.size)(hv:(rowS N L).p v X w):
  Fn PP 46 [v] X w (dN (.bool (shS L N))):=by
 obtain⟨R,hRR⟩:=nm (dN (.bool (shS L N)));obtain⟨Q,hQ⟩:=nm (9*N);obtain⟨K,hK⟩:=nm ([KF.cst v (rowS N L)]);rw[<-hRR];have fin:∀k:Bool,shS L N=k->∀{v':Value} {X:Nat->Prop} {w:World} {μ:Mu} {e:BE},e.den=k->aD μ (.b e)=some v'->R.p v' X w:=λk hk v' X w μ e he hv'=>by
  rw[hRR,hk];simp only[aD,he]at hv';injection hv' with hv'
  exact hv'.symm
 have f513:decide ((N:Int)=513)=true->shS L N=true:=λh=>by
  have:N=513:=by have:=of_decide_eq_true h;omega
  unfold shS;rw[this];rfl
 have n513:decide ((N:Int)=513)=false->N≠513:=λh=>by have:=of_decide_eq_false h;omega
 have fend:N≠513->L.all sh=true->shS L N=decide ((N:Int)<=24):=λh1 h2=>by
  unfold shS;rw[h2];simp only[h1,decide_false,Bool.true_and,Bool.false_or];exact decide_eq_decide.2 zW
 have o3g:∀x:Nat,x<N->(Obl.inR .i64 (.add (.n x) (.l 1))).ok:=λx hx=>by show lo _<=_/\_<=hi _;simp only[lo,hi,IE.den];omega
 refine bE mixed tok [.q v] (K:=K) Tryz.func46 rfl rfl (lbl rfl) rfl hX (by rw[hK];simp;exact hv) λc hc hR=>?_;refine gY 0 N Q L (by rw[hL,hQ]) rfl rfl (λX μ a w v' H hv'=>bZ H (by rw[hK];exact .head _) hv') (λf cap hf cR=>?_);apply zN hc;cbv;refine aE rfl 100 (λh=>?_) (λh=>?_)
 ·have h:=f513 h
  cbv;exact aR hc hR rfl (λX μ a w v' H hv'=>fin true h (μ:=μ) rfl hv')
 have hn:=n513 h
 cbv;let ι:={x:Nat//x<=N/\aLt L x};let I:ι->St:=λx=>⟨[(0,.sl 0 0 (.n N) cap),(8,.sl 0 0 (.n N) cap),(9,.i .i64 (.n N)),(10,.i .i64 (.n x.1))],[.xs Q f],[]⟩
 let x0:ι:=⟨0,Nat.zero_le _,λi a hi=>zW⟩
 refine zU 1 (S':=I x0) (K':=K) zL (by subst hK;exact⟨⟨.head _,KFr.cst _ _ _⟩,trivial⟩) trivial ?_;refine bQ hc I (λx=>N - x.1) x0 100 ?_;rintro p ⟨x,hx,hsh⟩ hy;cbv;refine aE rfl 9 (λh=>?_) (λh=>?_)
 ·have hxN:x<N:=BE.ltn_t h
  obtain⟨a1,a2,a3,b1,b2,b3,d1,d2,d3,e0,e1,e2,e3,e4,e5,e6,e7,e8⟩:=nine hL hxN;have r9:=re9 (hf _ _ e0) (hf _ _ e1) (hf _ _ e2) (hf _ _ e3) (hf _ _ e4) (hf _ _ e5) (hf _ _ e6) (hf _ _ e7) (hf _ _ e8);have k1:=aF7 a1 a2 a3;have k2:=aF7 b1 b2 b3;have k3:=aF7 d1 d2 d3;unfold lE at k1 k2 k3;have o1:(Obl.ltE (.n x) (.n N)).ok:=by show _/\_;simp only[IE.den];omega
  have o2:(Obl.ix 0 (.n x) 9 0 9 Q).ok:=by show aV 0 (x:Int) 9 0+9<=Q;simp only[aV,Int.toNat_natCast];omega
  have o3:=o3g x hxN
  obtain⟨x',hx'⟩:=nm (x+1);have hi1:((IE.n x).add (IE.l 1)).den=(IE.n x').den:=by simp only[IE.den,hx'];omega
  have bad1:(sh a1&&sh a2&&sh a3)=false->shS L N=false:=λhb=>by
   simp only[Bool.and_eq_false_iff]at hb;rcases hb with((h | h) | h)
   ·exact iQ hn e0 h
   ·exact iQ hn e1 h
   ·exact iQ hn e2 h
  have bad2:(sh b1&&sh b2&&sh b3)=false->shS L N=false:=λhb=>by
   simp only[Bool.and_eq_false_iff]at hb;rcases hb with((h | h) | h)
   ·exact iQ hn e3 h
   ·exact iQ hn e4 h
   ·exact iQ hn e5 h
  have bad3:(sh d1&&sh d2&&sh d3)=false->shS L N=false:=λhb=>by
   simp only[Bool.and_eq_false_iff]at hb;rcases hb with((h | h) | h)
   ·exact iQ hn e6 h
   ·exact iQ hn e7 h
   ·exact iQ hn e8 h
  have tZ:(sh a1&&sh a2&&sh a3)=true->(sh b1&&sh b2&&sh b3)=true->(sh d1&&sh d2&&sh d3)=true->aLt L x':=λg1 g2 g3=>by
   simp only[Bool.and_eq_true]at g1 g2 g3;obtain⟨⟨h0,h1⟩,h2⟩:=g1;obtain⟨⟨h3,h4⟩,h5⟩:=g2;obtain⟨⟨h6,h7⟩,h8⟩:=g3;intro i a hi ha;by_cases hix:i<x*9
   ·exact hsh i a hix ha
   ·have aR8:i=x*9+0\/i=x*9+1\/i=x*9+2\/i=x*9+3\/i=x*9+4\/i=x*9+5\/i=x*9+6\/i=x*9+7\/i=x*9+8:=zW
    rcases aR8 with h | h | h | h | h | h | h | h | h<;>subst h
    ·rw[e0]at ha;injection ha with ha;subst ha;exact h0
    ·rw[e1]at ha;injection ha with ha;subst ha;exact h1
    ·rw[e2]at ha;injection ha with ha;subst ha;exact h2
    ·rw[e3]at ha;injection ha with ha;subst ha;exact h3
    ·rw[e4]at ha;injection ha with ha;subst ha;exact h4
    ·rw[e5]at ha;injection ha with ha;subst ha;exact h5
    ·rw[e6]at ha;injection ha with ha;subst ha;exact h6
    ·rw[e7]at ha;injection ha with ha;subst ha;exact h7
    ·rw[e8]at ha;injection ha with ha;subst ha;exact h8
  clear e0 e1 e2 e3 e4 e5 e6 e7 e8;generalize (sh a1&&sh a2&&sh a3)=g1,(sh b1&&sh b2&&sh b3)=g2,(sh d1&&sh d2&&sh d3)=g3 at *;cbv;refine aP hc ⟨o1,o2,trivial⟩ ?_;refine iA 1 [.s (.v a1),.s (.v a2),.s (.v a3),.s (.v b1),.s (.v b2),.s (.v b3),.s (.v d1),.s (.v d2),.s (.v d3)] rfl rfl r9 ?_;apply zN hc;cbv;cases g1
  ·have h:=bad1 rfl
   refine zC (.b (.l false)) k1 mO ?_;cbv;exact aR hc hR rfl (λX μ a w v' H hv'=>fin false h (μ:=μ) rfl hv')
  refine zC (.b (.l true)) k1 mO ?_;cbv;cases g2
  ·have h:=bad2 rfl
   refine zC (.b (.l false)) k2 mO ?_;cbv;exact aR hc hR rfl (λX μ a w v' H hv'=>fin false h (μ:=μ) rfl hv')
  refine zC (.b (.l true)) k2 mO ?_;cbv;cases g3
  ·have h:=bad3 rfl
   refine zC (.b (.l false)) k3 mO ?_;cbv;exact aR hc hR rfl (λX μ a w v' H hv'=>fin false h (μ:=μ) rfl hv')
  have tZ:=tZ rfl rfl rfl
  have hyx:=hy ⟨x',zW,tZ⟩ (by show N - x'<N - x;omega)
  clear hy;refine zC (.b (.l true)) k3 mO ?_;cbv;refine aP hc ⟨o3,trivial⟩ ?_;exact zU 1 (S':=I ⟨x',zW,tZ⟩) (K':=K) ⟨zS,zS,zS,zI rfl rfl hi1,trivial⟩ (by subst hK;exact⟨⟨.head _,KFr.cst _ _ _⟩,trivial⟩) trivial hyx
 ·have hxN:x=N:=by have:=BE.ltn_f h;omega
  have lS:=fend hn (aLu hL (hxN▸hsh))
  clear hy;cbv;apply zN hc;cbv;refine aR hc hR rfl (λX μ a w v' H hv'=>?_);exact fin _ lS (μ:=μ) rfl hv'
theorem tS {a:ByteArray}(h:sh a=true):a.size<=40:=by have:=of_decide_eq_true h;omega
theorem lA {a:ByteArray}(h:gQ a=true)(hs:sh a=true):∃q,a=aA q/\sz q<=40:=by
 obtain⟨q,hq⟩:=Option.isSome_iff_exists.1 h;have e:=sR hq;have:=tS hs;rw[e]at this;exact⟨q,e,lTr (iY q) this⟩
theorem fD {n:Nat}{L:List ByteArray}(h:L.length=n+1):∃a L',L=a::L'/\L'.length=n:=by
 match L,h with
 | a::L',h=>exact⟨a,L',rfl,by simpa using h⟩
theorem aT5:∀(N:Nat) (L:List ByteArray),L.length=9*N->(∀a,a∈L->gQ a=true/\sh a=true)->∃l,L=dR l/\∀t,t∈l->t.le 40
 | 0,L,hL,_=>⟨[],List.eq_nil_of_length_eq_zero hL,λt ht=>by cases ht⟩
 | N+1,L,hL,h=>by
  obtain⟨a1,L1,rfl,h1⟩:=fD (n:=9*N+8) zW;obtain⟨a2,L2,rfl,h2⟩:=fD h1;obtain⟨a3,L3,rfl,h3⟩:=fD h2;obtain⟨b1,L4,rfl,h4⟩:=fD h3;obtain⟨b2,L5,rfl,h5⟩:=fD h4;obtain⟨b3,L6,rfl,h6⟩:=fD h5;obtain⟨d1,L7,rfl,h7⟩:=fD h6;obtain⟨d2,L8,rfl,h8⟩:=fD h7;obtain⟨d3,L9,rfl,h9⟩:=fD h8;obtain⟨l,rfl,hl⟩:=aT5 N L9 h9 (λa ha=>h a (by simp[ha]));obtain⟨x1,rfl,y1⟩:=lA (h a1 zA).1 (h a1 zA).2;obtain⟨x2,rfl,y2⟩:=lA (h a2 zA).1 (h a2 zA).2;obtain⟨x3,rfl,y3⟩:=lA (h a3 zA).1 (h a3 zA).2;obtain⟨x4,rfl,y4⟩:=lA (h b1 zA).1 (h b1 zA).2;obtain⟨x5,rfl,y5⟩:=lA (h b2 zA).1 (h b2 zA).2;obtain⟨x6,rfl,y6⟩:=lA (h b3 zA).1 (h b3 zA).2;obtain⟨x7,rfl,y7⟩:=lA (h d1 zA).1 (h d1 zA).2;obtain⟨x8,rfl,y8⟩:=lA (h d2 zA).1 (h d2 zA).2;obtain⟨x9,rfl,y9⟩:=lA (h d3 zA).1 (h d3 zA).2;refine⟨⟨⟨x1,x2,x3⟩,⟨x4,x5,x6⟩,⟨x7,x8,x9⟩⟩::l,rfl,λt ht=>?_⟩;rcases List.mem_cons.1 ht with rfl | ht
  ·exact⟨⟨y1,y2,y3⟩,⟨y4,y5,y6⟩,y7,y8,y9⟩
  ·exact hl t ht
theorem aRe {t:Rat}(h1:-(1/2)<=t)(h2:t<=1/2):jA t≠0:=by
 unfold jA;have h3:=aGj t;have h4:(1:Rat) - t*t≠0:=by
  intro h;have h5:(1/2 - t)*(1/2+t)≥0:=Rat.mul_nonneg (by grind) (by grind);grind
 intro h;have h5:=Rat.div_mul_cancel (a:=1 - t*t) h3;rw[h,Rat.zero_mul]at h5;exact h4 h5.symm
theorem bCd (t:Rat):¬(jA t=0/\iR t=0):=by
 rintro ⟨h1,h2⟩;have h3:=aGj t;unfold jA iR at *;have e:∀x:Rat,x/(1+t*t)=0->x=0:=λx hx=>by
  have h5:=Rat.div_mul_cancel (a:=x) h3
  rw[hx,Rat.zero_mul]at h5;exact h5.symm
 have h4:=e _ h1
 have h5:=e _ h2
 grind
theorem At.up_ne {a:At}(h:a.ok=true):a.up≠V3.zero:=by
 obtain⟨_,_,h3,h4⟩:=(At.ok_iff a).1 h;have hc:=aRe h3 h4;intro e;have ey:-(iR a.h*jA a.t)=0:=congrArg V3.y e;have ez:jA a.h*jA a.t=0:=congrArg V3.z e;refine bCd a.h ⟨?_,?_⟩
 ·rcases Rat.mul_eq_zero.1 ez with h | h
  ·exact h
  ·exact absurd h hc
 ·have ey:iR a.h*jA a.t=0:=by grind
  rcases Rat.mul_eq_zero.1 ey with h | h
  ·exact h
  ·exact absurd h hc
inductive Out (r:Raw) (l:List Tri):Prop
 | bad (e:Int):r.errs e->Out r l
 | ok (p:Pl):r.good l p->p.fit (2^9)->(∀t,t∈l->t.le (2^9))->l.length<=24->Out r l
end Go.Ai
namespace Go.Ai
open Go Go.Proofs Go.Num
theorem aPm {v:Value}{X:Nat->Prop}{w:World}{l:List Int}(hb:l.length<=2^40)(hX:∀b,X b->b<w.heap.size)(hv:(lX .u32 l).p v X w):Fn PP 120 [v] X w (trimF v l):=by
 obtain⟨R,hRR⟩:=nm (trimF v l);obtain⟨K,hK⟩:=nm ([KF.cst v (lX .u32 l)]);rw[<-hRR];refine bE mixed tok [.q v] (K:=K) Tryz.func120 rfl rfl (lbl rfl) rfl hX (by subst hK;simp;exact hv) λc hc hR=>?_;refine aTv 0 .u32 l rfl rfl (λX μ a w H=>H.toP.cst (by simp[hK])) λf N cap ad hN hf cR hv0=>?_;obtain⟨K1,hK1⟩:=nm (KF.ext 0 ad::K);show Goal c (KF.ext 0 ad::K) _
 rw[<-hK1];have kfo:kQ 1 K1 K1:=by subst hK1;subst hK;exact⟨⟨.head _,KFr.ext zW _⟩,⟨.tail _ (.head _),KFr.cst _ _ _⟩,trivial⟩
 apply zN hc;cbv;let ι:={m:Nat//m<=N/\eH (l.take m)=eH l};let I:ι->St:=λx=>⟨[(0,.sl 0 0 (.n x.1) cap)],[.xi .u32 N f],[]⟩
 let x0:ι:=⟨N,lRf _,by rw[hN,List.take_length]⟩
 refine zU 1 (S':=I x0) (K':=K1) zL kfo trivial ?_;refine bQ hc I (λx=>x.1) x0 100 ?_;rintro p ⟨m,hm,ht⟩ hy;have done:l.take m=eH l->∀X μ a w v S,Sim c K1 S X μ a w->S.hp[0]?=some (.xi .u32 N f)->aD μ (.sl 0 0 (.n m) cap)=some v->R.p v X w:=by
  intro h2 X μ a w v S H hk hv;rw[hRR];refine⟨?_,?_⟩
  rotate_left
  ·have h3:μ 0=some (.ext ad):=H.toP.kf (KF.ext 0 ad) (by rw[hK1];exact .head _)
   obtain⟨a',q1,q2,_⟩:=mE hv;simp only[atS,h3,Option.bind_some,MV.atS,Option.some.injEq]at q1;subst q1;rw[q2,hv0,<-h2];have hm':(IE.n m).den.toNat=(l.take m).length:=by simp[IE.den];omega
   rw[hm'];simp[aPk]
  rw[<-h2];exact H.toP.row hk hv (by simp[IE.den];omega) (λi x hx=>by
   rw[List.getElem?_take]at hx;split at hx
   ·simpa using hf i x hx
   ·cases hx) (by simp;omega) (by simp;omega)
 cbv;refine bV 6 rfl rfl 100 (λh=>?_) (λh=>?_)
 ·have h:0<m:=by simpa[BE.den,IE.den]using h
  obtain⟨q,rfl⟩:∃q,m=q+1:=⟨m - 1,zW⟩;have hq:l[q]?=some l[q]:=zA;have hfq:=hf q _ hq;have htk:l.take (q+1)=l.take q++[l[q]]:=by rw[List.take_add_one,hq];rfl
  cbv;refine aP hc ⟨?_,?_,?_,trivial⟩ ?_
  ·show _/\_;simp only[lo,hi,IE.den];omega
  ·show _/\_;simp only[IE.den];omega
  ·show _<=_;simp only[IE.den,aV];omega
  refine aE rfl 100 (λh3=>?_) (λh3=>?_)
  ·have h3:l[q]=0:=by
    have:=of_decide_eq_true h3
    simp only[IE.den,aV]at this;rw[<-hfq,<-this];congr 1;omega
   cbv;refine aP hc ⟨?_,?_,trivial⟩ ?_
   ·show _/\_;simp only[lo,hi,IE.den];omega
   ·show _/\_;simp only[IE.den];omega
   refine zU 1 (S':=I ⟨q,zW,by rw[<-ht,htk,h3,vM]⟩) (K':=K1) ⟨⟨_,rfl,rfl,λμ=>?_⟩,trivial⟩ kfo trivial (hy _ (Nat.lt_succ_self q));have e:((IE.n (q+1)).sub (IE.l 1)).den=(IE.n q).den:=by simp only[IE.den];omega
   simp only[aD,e]
  ·have h3:l[q]≠0:=by
    intro e;have h4:=of_decide_eq_false h3;refine h4 ?_;simp only[IE.den,aV];rw[<-e,<-hfq];congr 1;omega
   cbv;refine aR hc hR rfl (λX μ a w v H hv=>done ?_ X μ a w v _ H rfl hv);rw[<-ht,htk,aC6 h3]
 ·have h:m=0:=by
   have:=of_decide_eq_false h
   simp only[IE.den]at this;omega
  cbv;refine aR hc hR rfl (λX μ a w v H hv=>done ?_ X μ a w v _ H rfl hv);rw[<-ht,h];rfl
theorem aPn {v:Value}{X:Nat->Prop}{w:World}{l:List Int}(hb:l.length<=2^40)(hX:∀b,X b->b<w.heap.size)(hv:(lX .u32 l).p v X w):Fn PP 120 [v] X w (lX .u32 (eH l)):=
 (aPm hb hX hv).mono λ_ _ _ h=>h.1
theorem gI {v:Value}{X:Nat->Prop}{w:World}{l:List Int}(hl:Wd l)(hb:l.length<=2^40)(hX:∀b,X b->b<w.heap.size)(hv:(lX .u32 l).p v X w):Fn PP 120 [v] X w (aJ (val l).toNat):=by
 have:=aPn hb hX hv
 rwa [nX hl]at this
theorem lH:aB PP 120:=zK
theorem pA:aB PP 75:=zK
theorem yH {X:Nat->Prop}{w:World}{x:Int}(hX:∀b,X b->b<w.heap.size)(h0:0<=x)(h1:x<4294967296):Fn PP 75 [.int .u32 x] X w (aJ x.toNat):=by
 obtain⟨R,hRR⟩:=nm (aJ x.toNat);rw[<-hRR];refine bE mixed tok [.i .u32 (.v x)] (K:=[]) Tryz.func75 rfl rfl (lbl rfl) rfl hX (λf hf=>by cases hf) λc hc hR=>?_;apply zN hc;cbv;refine aP hc ⟨?_,?_,?_,trivial⟩ ?_
 ·show _≠_;simp[IE.den]
 ·show _≠_;simp[IE.den]
 ·show _/\_;simp only[lo,hi,IE.den,Int.tdiv_eq_ediv_of_nonneg h0];omega
 refine yJ 0 .u32 rfl rfl rfl λf hf=>?_;have f0:=hf 0 _ rfl;have f1:=hf 1 _ rfl;have e1:x.tmod 1000000000=x%1000000000:=Int.tmod_eq_emod_of_nonneg h0;have e2:x.tdiv 1000000000=x/1000000000:=Int.tdiv_eq_ediv_of_nonneg h0;simp only[IE.den,e1,e2]at f0 f1;have hl:Wd [x%1000000000,x/1000000000]:=Wd.mk zW (Wd.mk zW Wd.nil);have hv:val [x%1000000000,x/1000000000]=x:=by simp only[val];omega
 cbv;refine dO (R:=R) hc lH (λn0 D X μ a w aK H aI=>?_) 100 ?_
 ·obtain⟨v,rfl,hv'⟩:=aX aI;have h3:=H.row (l:=[x%1000000000,x/1000000000]) rfl hv' rfl (λi y hy=>by
   match i,hy with
   | 0,hy=>simp at hy;subst hy;exact f0
   | 1,hy=>simp at hy;subst hy;exact f1) (lRf _) (lRf _)
  have:=gI hl zA H.xlt h3
  rw[hv]at this;rw[hRR];exact this
 cbv;exact aR hc hR rfl (λX μ a w v H hv=>H.toP.val (k:=1) (.head _) hv)
theorem oP:aB PP 76:=zK
theorem aIv {v u:Value}{X:Nat->Prop}{w:World}{n m:Nat}(hbn:(aC n).length<=2^40)(hbm:(aC m).length<=2^40)(hX:∀b,X b->b<w.heap.size)(hv:(aJ n).p v X w)(hu:(aJ m).p u X w):
  Fn PP 76 [v,u] X w (dN (.int .i64 (bW n m))):=by
 obtain⟨R,hRR⟩:=nm (dN (.int .i64 (bW n m)));obtain⟨K,hK⟩:=nm ([KF.cst v (aJ n),KF.cst u (aJ m)]);rw[<-hRR];have kH:∀{av:AV} {z:Int} {X μ v w},aD μ av=some v->(aD μ av=some (.int .i64 z))->z=bW n m->R.p v X w:=by
  intro av z X μ v w h1 h2 h3;rw[h2]at h1;injection h1 with h1
  rw[hRR,<-h1,h3];rfl
 refine bE mixed tok [.q v,.q u] (K:=K) Tryz.func76 rfl rfl (lbl rfl) rfl hX (by subst hK;simp;exact⟨hv,hu⟩) λc hc hR=>?_;refine cV 0 .u32 (aC n) rfl rfl (λX μ a w v' H hv'=>bZ H (by simp[hK]) hv') λf N cap hN hf cR=>?_;refine cV 1 .u32 (aC m) rfl rfl (λX μ a w v' H hv'=>bZ H (by simp[hK]) hv') λf' M aS hM hf' gO=>?_;apply zN hc;cbv;refine aE rfl 100 (λh=>?_) (λh=>?_)
 ·have h:(N:Int)≠(M:Int):=BE.eq_f (BE.not_t h)
  have h:(aC n).length≠(aC m).length:=zW
  have hlen:=aHs h
  have hle:∀z:Int,bW N M=z->z=bW n m:=λz hz=>by rw[<-hz,hN,hM];exact hlen
  have hlt:(N:Int)<(M:Int)->(-1:Int)=bW n m:=λh=>hle _ (by unfold bW;rw[if_pos h])
  have hgt:¬(N:Int)<(M:Int)->(1:Int)=bW n m:=λh'=>hle _ (by unfold bW;rw[if_neg h',if_pos zW])
  cbv;refine aE rfl 100 (λh2=>?_) (λh2=>?_)
  ·have h2:=hlt (BE.lt_t h2)
   cbv;exact aR hc hR rfl (λX μ a w v H hv=>kH hv rfl h2)
  ·have h2:=hgt (BE.lt_f h2)
   cbv;exact aR hc hR rfl (λX μ a w v H hv=>kH hv rfl h2)
 ·have h:(N:Int)=(M:Int):=BE.eq_t (BE.not_f h)
  have h:M=N:=zW
  subst h;cbv;refine aP hc ⟨?_,trivial⟩ ?_
  ·show _/\_;simp only[lo,hi,IE.den];omega
  let ι:={k:Nat//k<=M/\(aC n).drop k=(aC m).drop k}
  let I:ι->St:=λx=>⟨[(0,.sl 0 0 (.n M) cap),(1,.sl 1 0 (.n M) aS),(5,.i .i64 (.sub (.n x.1) (.l 1)))],[.xi .u32 M f,.xi .u32 M f'],[]⟩
  let x0:ι:=⟨M,lRf _,by rw[List.drop_of_length_le zW,List.drop_of_length_le zW]⟩
  refine zU 2 (S':=I x0) (K':=K) zL (by subst hK;exact⟨⟨.head _,KFr.cst _ _ _⟩,⟨.tail _ (.head _),KFr.cst _ _ _⟩,trivial⟩) trivial ?_;refine bQ hc I (λx=>x.1) x0 100 ?_;rintro p ⟨k,hk,hd⟩ hy;cbv;refine aE rfl 100 (λh=>?_) (λh=>?_)
  ·have h:(0:Int)<=(k:Int) - 1:=BE.le_t h
   obtain⟨q,rfl⟩:∃q,k=q+1:=⟨k - 1,zW⟩;have hq:q<(aC n).length:=zW;have hq':q<(aC m).length:=zW;have gq:=hf q (aC n)[q] zA;have gq':=hf' q (aC m)[q] zA;have hwn:=bF n (aC n)[q] (List.getElem_mem _);have hwm:=bF m (aC m)[q] (List.getElem_mem _);have hix:aV 0 ((IE.n (q+1)).sub (IE.l 1)).den 1 0=q:=by simp only[aV,IE.den];omega
   cbv;have o1:(Obl.ltE ((IE.n (q+1)).sub (IE.l 1)) (IE.n M)).ok:=by show _/\_;simp only[IE.den];omega
   have o2:(Obl.ix 0 ((IE.n (q+1)).sub (IE.l 1)) 1 0 1 M).ok:=by show _<=_;rw[hix];omega
   refine aP hc ⟨o1,o2,o1,o2,trivial⟩ ?_;have aH8:(aC n)[q]≠(aC m)[q]->bW (aC n)[q] (aC m)[q]=bW n m:=λh=>by
    rw[aHt (bF n) (bF m) (List.getElem?_eq_getElem hq) (List.getElem?_eq_getElem hq') hd h,cQ,cQ]
   refine zE ?_;cbv;refine aE rfl 100 (λh=>?_) (λh=>?_)
   ·have h:f (aV 0 ((IE.n (q+1)).sub (IE.l 1)).den 1 0)<f' (aV 0 ((IE.n (q+1)).sub (IE.l 1)).den 1 0):=BE.lt_t h
    rw[hix,gq,gq']at h;have hz:(-1:Int)=bW n m:=by rw[<-aH8 zW];unfold bW;rw[if_pos h]
    cbv;exact aR hc hR rfl (λX μ a w v H hv=>kH hv rfl hz)
   have h1:¬f (aV 0 ((IE.n (q+1)).sub (IE.l 1)).den 1 0)<f' (aV 0 ((IE.n (q+1)).sub (IE.l 1)).den 1 0):=BE.lt_f h
   rw[hix,gq,gq']at h1;clear h;cbv;refine aP hc ⟨o1,o2,o1,o2,trivial⟩ ?_;refine zE ?_;cbv;refine aE rfl 100 (λh=>?_) (λh=>?_)
   ·have h:f' (aV 0 ((IE.n (q+1)).sub (IE.l 1)).den 1 0)<f (aV 0 ((IE.n (q+1)).sub (IE.l 1)).den 1 0):=BE.lt_t h
    rw[hix,gq,gq']at h;have hz:(1:Int)=bW n m:=by rw[<-aH8 zW];unfold bW;rw[if_neg h1,if_pos h]
    cbv;exact aR hc hR rfl (λX μ a w v H hv=>kH hv rfl hz)
   ·have h:¬f' (aV 0 ((IE.n (q+1)).sub (IE.l 1)).den 1 0)<f (aV 0 ((IE.n (q+1)).sub (IE.l 1)).den 1 0):=BE.lt_f h
    rw[hix,gq,gq']at h;have h:(aC n)[q]=(aC m)[q]:=zW;cbv;refine aP hc ⟨?_,trivial⟩ ?_
    ·show _/\_;simp only[lo,hi,IE.den];omega
    refine zU 2 (S':=I ⟨q,zW,by rw[List.drop_eq_getElem_cons hq,List.drop_eq_getElem_cons hq',hd,h]⟩) (K':=K) ⟨zS,zS,⟨_,rfl,rfl,λμ=>?_⟩,trivial⟩ (by subst hK;exact⟨⟨.head _,KFr.cst _ _ _⟩,⟨.tail _ (.head _),KFr.cst _ _ _⟩,trivial⟩) trivial (hy _ (Nat.lt_succ_self q));have e:(((IE.n (q+1)).sub (IE.l 1)).sub (IE.l 1)).den=((IE.n q).sub (IE.l 1)).den:=by simp only[IE.den];omega
    simp only[aD,e]
  ·have h:¬(0:Int)<=(k:Int) - 1:=BE.le_f h
   have h0:k=0:=zW
   subst h0;cbv;refine aR hc hR rfl (λX μ a w v H hv=>kH hv rfl ?_);have:n=m:=aH2 (by simpa using hd);subst this;simp[bW,IE.den]
theorem aWj {a b:Nat}(h:a<=b):(1000000000:Int)^a<=1000000000^b:=by
 have e:∀k:Nat,(1000000000:Int)^k=((1000000000^k:Nat):Int):=λk=>zA
 rw[e,e];exact Int.ofNat_le.2 (Nat.pow_le_pow_right zV h)
theorem aVb:aB PP 160:=zK
theorem bD5 {v u:Value}{X:Nat->Prop}{w:World}{n m:Nat}(hbn:(aC n).length<2^39)(hbm:(aC m).length<2^39)(hX:∀b,X b->b<w.heap.size)(hv:(aJ n).p v X w)(hu:(aJ m).p u X w):
  Fn PP 160 [v,u] X w (aJ (n+m)):=by
 obtain⟨R,hRR⟩:=nm (aJ (n+m));obtain⟨K,hK⟩:=nm ([KF.cst v (aJ n),KF.cst u (aJ m)]);rw[<-hRR];refine bE mixed tok [.q v,.q u] (K:=K) Tryz.func160 rfl rfl (lbl rfl) rfl hX (by subst hK;simp;exact⟨hv,hu⟩) λc hc hR=>?_;refine cV 0 .u32 (aC n) rfl rfl (λX μ a w v' H hv'=>bZ H (by simp[hK]) hv') λf N cap hN hf cR=>?_;refine cV 1 .u32 (aC m) rfl rfl (λX μ a w v' H hv'=>bZ H (by simp[hK]) hv') λf' M aS hM hf' gO=>?_;have hfw:∀i,i<N->f i=(aC n).getD i 0:=λi hi=>by
  have:=List.getElem?_eq_getElem (l:=aC n) (i:=i) zW
  rw[hf i _ this,List.getD_eq_getElem?_getD,this];rfl
 have aB6:∀i,i<M->f' i=(aC m).getD i 0:=λi hi=>by
  have:=List.getElem?_eq_getElem (l:=aC m) (i:=i) zW
  rw[hf' i _ this,List.getD_eq_getElem?_getD,this];rfl
 have hge:∀i,N<=i->(aC n).getD i 0=0:=λi hi=>by rw[List.getD_eq_getElem?_getD,List.getElem?_eq_none zW];rfl
 have aSc:∀i,M<=i->(aC m).getD i 0=0:=λi hi=>by rw[List.getD_eq_getElem?_getD,List.getElem?_eq_none zW];rfl
 have hNb:N<2^39:=zW
 have hMb:M<2^39:=zW
 have kf:kQ 2 K K:=by subst hK;exact⟨⟨.head _,KFr.cst _ _ _⟩,⟨.tail _ (.head _),KFr.cst _ _ _⟩,trivial⟩
 apply zN hc;cbv;obtain⟨G,hG⟩:∃G:Option Addr->Nat->Nat->List Int->OF,∀a n cap l,G a n cap l=OF.row (.slice a n cap) c.B.heap.size 138 .u32 l:=⟨λa n cap l=>OF.row (.slice a n cap) c.B.heap.size 138 .u32 l,λ_ _ _ _=>rfl⟩;have kof:∀a i cp out,aA9 2 [G a i cp out]:=λa i cp out=>⟨by rw[hG];exact OFr.row _ _ _ _ _ _,trivial⟩
 refine sU hG rfl ?_;cbv;let ι:={x:Nat × Option Addr × Nat × List Int × Int//Mrg n m 1 x.1 x.2.2.2.1 x.2.2.2.2/\x.1<=max N M+1};let I:ι->St:=λx=>⟨[(0,.sl 0 0 (.n N) cap),(1,.sl 1 0 (.n M) aS),(5,.xs x.1.2.1 x.1.1 x.1.2.2.1),(6,.i .u32 (.v x.1.2.2.2.2)),(7,.i .i64 (.n x.1.1))],[.xi .u32 N f,.xi .u32 M f'],[G x.1.2.1 x.1.1 x.1.2.2.1 x.1.2.2.2.1]⟩
 let x0:ι:=⟨(0,none,0,[],0),Mrg.init (.inl rfl),Nat.zero_le _⟩
 refine zU 2 (S':=I x0) (K':=K) zL kf (kof _ _ _ _) ?_;refine bQ hc I (λx=>max N M+1 - x.1.1) x0 100 ?_;rintro pp ⟨⟨i,a,cp,out,cr⟩,hM',hi⟩ hy;have hcr:=hM'.c;have hlen:=hM'.len;simp only at hM' hi hcr hlen;have hga:=bA (bF n) i;have hgb:=bA (bF m) i;obtain⟨ga,gW⟩:=nm ((aC n).getD i 0);obtain⟨gb,lQ⟩:=nm ((aC m).getD i 0);rw[<-gW]at hga;rw[<-lQ]at hgb;obtain⟨x,hx⟩:=nm (cr+ga+gb);have hxb:x=cr+(aC n).getD i 0+1*(aC m).getD i 0:=by rw[hx,gW,lQ];omega
 have aSb:0<=cr/\cr<=1:=zW
 have hx0:0<=x/\x<2000000001:=zW
 have cJ:=hM'.step hxb
 obtain⟨w0,hw0⟩:=nm (x%1000000000);obtain⟨c0,hc0⟩:=nm (x/1000000000);rw[<-hw0,<-hc0]at cJ;have ew0:x.tmod 1000000000=w0:=by rw[hw0,Int.tmod_eq_emod_of_nonneg hx0.1]
 have ec0:x.tdiv 1000000000=c0:=by rw[hc0,Int.tdiv_eq_ediv_of_nonneg hx0.1]
 have hix:aV 0 (IE.n i).den 1 0=i:=by simp only[aV,IE.den];omega
 have g1:i<N->(IE.fn f 0 (.n i) 1 0).den=ga:=λh=>by show f (aV 0 (IE.n i).den 1 0)=ga;rw[hix,hfw i h,gW]
 have g2:i<M->(IE.fn f' 0 (.n i) 1 0).den=gb:=λh=>by show f' (aV 0 (IE.n i).den 1 0)=gb;rw[hix,aB6 i h,lQ]
 have z1:¬i<N->ga=0:=λh=>by rw[gW,hge i zW]
 have z2:¬i<M->gb=0:=λh=>by rw[lQ,aSc i zW]
 have o1:i<N->(Obl.ltE (IE.n i) (IE.n N)).ok:=λh=>by show _/\_;simp only[IE.den];omega
 have o2:i<N->(Obl.ix 0 (IE.n i) 1 0 1 N).ok:=λh=>by show _<=_;rw[hix];omega
 have o1':i<M->(Obl.ltE (IE.n i) (IE.n M)).ok:=λh=>by show _/\_;simp only[IE.den];omega
 have o2':i<M->(Obl.ix 0 (IE.n i) 1 0 1 M).ok:=λh=>by show _<=_;rw[hix];omega
 have cS:∀(e:IE) (z:Int),e.den=z->0<=z/\z<=4294967295->(Obl.inR .u32 e).ok:=λe z he hz=>by show _/\_;rw[he];exact hz
 have rg1:0<=ga/\ga<=4294967295:=zW
 have rg2:0<=gb/\gb<=4294967295:=zW
 have rx1:0<=cr+ga/\cr+ga<=4294967295:=zW
 have rx2:0<=cr+gb/\cr+gb<=4294967295:=zW
 have rx:0<=x/\x<=4294967295:=zW
 have rc:0<=c0/\c0<=4294967295:=zW
 have nz:(Obl.nz (IE.l 1000000000)).ok:=by show _≠_;simp[IE.den]
 have bFe:i<=2^40:=zW
 have hlb:(out.length+1)*4<=140737488355328:=zW
 have pI:out.length+1<=9223372036854775807:=zW
 have q6:-9223372036854775808<=(i:Int)+1/\(i:Int)+1<=9223372036854775807:=zW
 have hin:∀n',n'=out.length+1->(i:Int)+1=(n':Int):=λn' h=>zW
 have hni:out.length+1=i+1:=zW
 have zY:i<N\/i<M\/0<cr->∀n',n'=out.length+1->n'<=max N M+1/\max N M+1 - n'<max N M+1 - i:=λh n' hn'=>by
  have hin:i<max N M+1:=by
   rcases h with h | h | h
   ·omega
   ·omega
   ·rcases Nat.lt_or_ge i (max N M+1)with h1 | h1
    ·exact h1
    ·exfalso
     have hl:=hM'.last zW zW
     have hv1:=jL (bF n)
     have hv2:=jL (bF m)
     rw[cQ]at hv1 hv2;have hv0:=cH hM'.wd;have e1:(1000000000:Int)^(aC n).length<=1000000000^(max N M):=aWj zW;have e2:(1000000000:Int)^(aC m).length<=1000000000^(max N M):=aWj zW;have e3:(1000000000:Int)^(max N M+1)<=1000000000^i:=aWj zW;have e4:(1000000000:Int)^i*1<=1000000000^i*cr:=Int.mul_le_mul_of_nonneg_left zW (Int.pow_nonneg zV);have e5:(1000000000:Int)^(max N M+1)=1000000000^(max N M)*1000000000:=Int.pow_succ _ _;have e6:(0:Int)<1000000000^(max N M):=Int.pow_pos zV;rw[Int.one_mul]at hl;omega
  omega
 have kH:¬i<N->¬i<M->¬0<cr->(val out).toNat=n+m:=λh1 h2 h3=>by
  have hl:=hM'.last zW zW
  rw[show cr=0 by omega]at hl;omega
 have hlo:out.length<=2^40:=zW
 cbv;refine bV 13 rfl rfl 100 (λh=>?_) (λh=>?_)
 ·have hA:i<N:=Int.ofNat_lt.1 (BE.lt_t h)
  cbv;refine aE rfl 100 (λh=>?_) (λh=>?_)
  ·skip
   have ra1:=cS (.add (.v cr) (.fn f 0 (.n i) 1 0)) _ (by show cr+(IE.fn f 0 (.n i) 1 0).den=cr+ga;rw[g1 hA]) rx1;have pa1:=o1 hA;have pa2:=o2 hA
   cbv;refine zO ?_;refine aE rfl 100 (λh=>?_) (λh=>?_)
   ·skip
    have hB:i<M:=Int.ofNat_lt.1 (BE.lt_t h)
    have ex:(IE.den (.add (.add (.v cr) (.fn f 0 (.n i) 1 0)) (.fn f' 0 (.n i) 1 0)))=x:=by show((cr+(IE.fn f 0 (.n i) 1 0).den)+(IE.fn f' 0 (.n i) 1 0).den)=x;rw[hx,g1 hA,g2 hB]
    have er:(IE.den (.rem (.add (.add (.v cr) (.fn f 0 (.n i) 1 0)) (.fn f' 0 (.n i) 1 0)) (.l 1000000000)))=w0:=by show(IE.den (.add (.add (.v cr) (.fn f 0 (.n i) 1 0)) (.fn f' 0 (.n i) 1 0))).tmod 1000000000=w0;rw[ex,ew0]
    have eq:(IE.den (.quo (.add (.add (.v cr) (.fn f 0 (.n i) 1 0)) (.fn f' 0 (.n i) 1 0)) (.l 1000000000)))=c0:=by show(IE.den (.add (.add (.v cr) (.fn f 0 (.n i) 1 0)) (.fn f' 0 (.n i) 1 0))).tdiv 1000000000=c0;rw[ex,ec0]
    have rq:=cS _ _ eq rc
    have rr:=cS _ _ ex rx;have p1:=o1' hB;have p2:=o2' hB
    have hmx:=λn' h=>(zY (.inl hA) n' h).1
    have hms:=λn' h=>(zY (.inl hA) n' h).2
    cbv;refine zO ?_;refine eX hc _ rfl rfl rfl hG rfl rfl rfl rfl rfl rfl rfl rfl rfl cF hlb pI (λa' n' aS l' hn' hl'=>?_);have hl':l'=out++[w0]:=hl'.trans (congrArg (λz=>out++[z]) er);apply zN hc;cbv;refine aP hc (by repeat (first | exact trivial | exact q6 | refine⟨by first | assumption | exact q6,?_⟩)) ?_;exact zU 2 (S':=I ⟨(n',a',aS,l',c0),by rw[hn',hl',hni];exact cJ,hmx n' hn'⟩) (K':=K) ⟨zS,zS,zS,zI rfl rfl eq,zI rfl rfl (hin n' hn'),trivial⟩ kf (kof _ _ _ _) (hy _ (hms n' hn'))
   ·skip
    have hB:¬i<M:=λh'=>BE.lt_f h (Int.ofNat_lt.2 h')
    have ex:(IE.den (.add (.v cr) (.fn f 0 (.n i) 1 0)))=x:=by show(cr+(IE.fn f 0 (.n i) 1 0).den)=x;rw[hx,g1 hA,z2 hB];omega
    have er:(IE.den (.rem (.add (.v cr) (.fn f 0 (.n i) 1 0)) (.l 1000000000)))=w0:=by show(IE.den (.add (.v cr) (.fn f 0 (.n i) 1 0))).tmod 1000000000=w0;rw[ex,ew0]
    have eq:(IE.den (.quo (.add (.v cr) (.fn f 0 (.n i) 1 0)) (.l 1000000000)))=c0:=by show(IE.den (.add (.v cr) (.fn f 0 (.n i) 1 0))).tdiv 1000000000=c0;rw[ex,ec0]
    have rq:=cS _ _ eq rc
    have hmx:=λn' h=>(zY (.inl hA) n' h).1
    have hms:=λn' h=>(zY (.inl hA) n' h).2
    cbv;refine zO ?_;refine eX hc _ rfl rfl rfl hG rfl rfl rfl rfl rfl rfl rfl rfl rfl cF hlb pI (λa' n' aS l' hn' hl'=>?_);have hl':l'=out++[w0]:=hl'.trans (congrArg (λz=>out++[z]) er);apply zN hc;cbv;refine aP hc (by repeat (first | exact trivial | exact q6 | refine⟨by first | assumption | exact q6,?_⟩)) ?_;exact zU 2 (S':=I ⟨(n',a',aS,l',c0),by rw[hn',hl',hni];exact cJ,hmx n' hn'⟩) (K':=K) ⟨zS,zS,zS,zI rfl rfl eq,zI rfl rfl (hin n' hn'),trivial⟩ kf (kof _ _ _ _) (hy _ (hms n' hn'))
  ·exact absurd (Int.ofNat_lt.2 hA) (BE.lt_f h)
 ·have hA:¬i<N:=λh'=>BE.lt_f h (Int.ofNat_lt.2 h')
  cbv;refine bV 19 rfl rfl 100 (λh=>?_) (λh=>?_)
  ·have hB:i<M:=Int.ofNat_lt.1 (BE.lt_t h)
   cbv;refine aE rfl 100 (λh=>?_) (λh=>?_)
   ·exact absurd (Int.ofNat_lt.1 (BE.lt_t h)) hA
   ·skip
    cbv;refine aE rfl 100 (λh=>?_) (λh=>?_)
    ·skip
     have ex:(IE.den (.add (.v cr) (.fn f' 0 (.n i) 1 0)))=x:=by show(cr+(IE.fn f' 0 (.n i) 1 0).den)=x;rw[hx,z1 hA,g2 hB];omega
     have er:(IE.den (.rem (.add (.v cr) (.fn f' 0 (.n i) 1 0)) (.l 1000000000)))=w0:=by show(IE.den (.add (.v cr) (.fn f' 0 (.n i) 1 0))).tmod 1000000000=w0;rw[ex,ew0]
     have eq:(IE.den (.quo (.add (.v cr) (.fn f' 0 (.n i) 1 0)) (.l 1000000000)))=c0:=by show(IE.den (.add (.v cr) (.fn f' 0 (.n i) 1 0))).tdiv 1000000000=c0;rw[ex,ec0]
     have rq:=cS _ _ eq rc
     have rr:=cS _ _ ex rx;have p1:=o1' hB;have p2:=o2' hB
     have hmx:=λn' h=>(zY (.inr (.inl hB)) n' h).1
     have hms:=λn' h=>(zY (.inr (.inl hB)) n' h).2
     cbv;refine zO ?_;refine eX hc _ rfl rfl rfl hG rfl rfl rfl rfl rfl rfl rfl rfl rfl cF hlb pI (λa' n' aS l' hn' hl'=>?_);have hl':l'=out++[w0]:=hl'.trans (congrArg (λz=>out++[z]) er);apply zN hc;cbv;refine aP hc (by repeat (first | exact trivial | exact q6 | refine⟨by first | assumption | exact q6,?_⟩)) ?_;exact zU 2 (S':=I ⟨(n',a',aS,l',c0),by rw[hn',hl',hni];exact cJ,hmx n' hn'⟩) (K':=K) ⟨zS,zS,zS,zI rfl rfl eq,zI rfl rfl (hin n' hn'),trivial⟩ kf (kof _ _ _ _) (hy _ (hms n' hn'))
    ·exfalso
     exact BE.lt_f h (Int.ofNat_lt.2 hB)
  ·have hB:¬i<M:=λh'=>BE.lt_f h (Int.ofNat_lt.2 h')
   cbv;refine aE rfl 100 (λh=>?_) (λh=>?_)
   ·have hC:0<cr:=BE.lt_t h
    cbv;refine aE rfl 100 (λh=>?_) (λh=>?_)
    ·exact absurd (Int.ofNat_lt.1 (BE.lt_t h)) hA
    ·skip
     cbv;refine aE rfl 100 (λh=>?_) (λh=>?_)
     ·exfalso
      exact hB (Int.ofNat_lt.1 (BE.lt_t h))
     ·skip
      have ex:(IE.den (.v cr))=x:=by show cr=x;rw[hx,z1 hA,z2 hB];omega
      have er:(IE.den (.rem (.v cr) (.l 1000000000)))=w0:=by show(IE.den (.v cr)).tmod 1000000000=w0;rw[ex,ew0]
      have eq:(IE.den (.quo (.v cr) (.l 1000000000)))=c0:=by show(IE.den (.v cr)).tdiv 1000000000=c0;rw[ex,ec0]
      have rq:=cS _ _ eq rc
      have hmx:=λn' h=>(zY (.inr (.inr hC)) n' h).1
      have hms:=λn' h=>(zY (.inr (.inr hC)) n' h).2
      cbv;refine zO ?_;refine eX hc _ rfl rfl rfl hG rfl rfl rfl rfl rfl rfl rfl rfl rfl cF hlb pI (λa' n' aS l' hn' hl'=>?_);have hl':l'=out++[w0]:=hl'.trans (congrArg (λz=>out++[z]) er);apply zN hc;cbv;refine aP hc (by repeat (first | exact trivial | exact q6 | refine⟨by first | assumption | exact q6,?_⟩)) ?_;exact zU 2 (S':=I ⟨(n',a',aS,l',c0),by rw[hn',hl',hni];exact cJ,hmx n' hn'⟩) (K':=K) ⟨zS,zS,zS,zI rfl rfl eq,zI rfl rfl (hin n' hn'),trivial⟩ kf (kof _ _ _ _) (hy _ (hms n' hn'))
   ·have hC:¬0<cr:=BE.lt_f h
    have he:=kH hA hB hC
    have hwd:=hM'.wd
    cbv;refine mZ (hG _ _ _ _) ?_;cbv;refine dO (R:=R) hc lH (λn0 D X μ a w aK H aI=>?_) 100 ?_
    ·obtain⟨v1,rfl,h1⟩:=aX aI;simp only[aD]at h1;injection h1 with h1
     rw[<-h1,hRR,<-he];exact gI hwd hlo H.xlt (H.cst (.head _))
    cbv;exact aR hc hR rfl (λX μ a w v H hv=>H.toP.val (k:=2) (R:=R) (.head _) hv)
theorem aHf:aB PP 161:=zK
theorem aS6 {v u:Value}{X:Nat->Prop}{w:World}{n m:Nat}(hnm:m<=n)(hbn:(aC n).length<2^39)(hX:∀b,X b->b<w.heap.size)(hv:(aJ n).p v X w)(hu:(aJ m).p u X w):
  Fn PP 161 [v,u] X w (aJ (n - m)):=by
 obtain⟨R,hRR⟩:=nm (aJ (n - m));have hlm:=bN hnm;obtain⟨K,hK⟩:=nm ([KF.cst v (aJ n),KF.cst u (aJ m)]);rw[<-hRR];refine bE mixed tok [.q v,.q u] (K:=K) Tryz.func161 rfl rfl (lbl rfl) rfl hX (by subst hK;simp;exact⟨hv,hu⟩) λc hc hR=>?_;refine cV 0 .u32 (aC n) rfl rfl (λX μ a w v' H hv'=>bZ H (by simp[hK]) hv') λf N cap hN hf cR=>?_;refine cV 1 .u32 (aC m) rfl rfl (λX μ a w v' H hv'=>bZ H (by simp[hK]) hv') λf' M aS hM hf' gO=>?_;have hfw:∀i,i<N->f i=(aC n).getD i 0:=λi hi=>by
  have:=List.getElem?_eq_getElem (l:=aC n) (i:=i) zW
  rw[hf i _ this,List.getD_eq_getElem?_getD,this];rfl
 have aB6:∀i,i<M->f' i=(aC m).getD i 0:=λi hi=>by
  have:=List.getElem?_eq_getElem (l:=aC m) (i:=i) zW
  rw[hf' i _ this,List.getD_eq_getElem?_getD,this];rfl
 have hge:∀i,N<=i->(aC n).getD i 0=0:=λi hi=>by rw[List.getD_eq_getElem?_getD,List.getElem?_eq_none zW];rfl
 have aSc:∀i,M<=i->(aC m).getD i 0=0:=λi hi=>by rw[List.getD_eq_getElem?_getD,List.getElem?_eq_none zW];rfl
 have hNb:N<2^39:=zW
 have hMb:M<2^39:=zW
 have kf:kQ 2 K K:=by subst hK;exact⟨⟨.head _,KFr.cst _ _ _⟩,⟨.tail _ (.head _),KFr.cst _ _ _⟩,trivial⟩
 apply zN hc;cbv;obtain⟨G,hG⟩:∃G:Option Addr->Nat->Nat->List Int->OF,∀a n cap l,G a n cap l=OF.row (.slice a n cap) c.B.heap.size 138 .u32 l:=⟨λa n cap l=>OF.row (.slice a n cap) c.B.heap.size 138 .u32 l,λ_ _ _ _=>rfl⟩;have kof:∀a i cp out,aA9 2 [G a i cp out]:=λa i cp out=>⟨by rw[hG];exact OFr.row _ _ _ _ _ _,trivial⟩
 refine sU hG rfl ?_;cbv;let ι:={x:Nat × Option Addr × Nat × List Int × Int//Mrg n m (-1) x.1 x.2.2.2.1 x.2.2.2.2/\x.1<=N};let I:ι->St:=λx=>⟨[(0,.sl 0 0 (.n N) cap),(1,.sl 1 0 (.n M) aS),(5,.xs x.1.2.1 x.1.1 x.1.2.2.1),(6,.i .i64 (.sub (.l 0) (.v x.1.2.2.2.2))),(7,.i .i64 (.n x.1.1))],[.xi .u32 N f,.xi .u32 M f'],[G x.1.2.1 x.1.1 x.1.2.2.1 x.1.2.2.2.1]⟩
 let x0:ι:=⟨(0,none,0,[],0),Mrg.init (.inr rfl),Nat.zero_le _⟩
 refine zU 2 (S':=I x0) (K':=K) zL kf (kof _ _ _ _) ?_;refine bQ hc I (λx=>N - x.1.1) x0 100 ?_;rintro pp ⟨⟨i,a,cp,out,cr⟩,hM',hiN⟩ hy;have hcr:=hM'.c;have hlen:=hM'.len;simp only at hM' hiN hcr hlen;have hga:=bA (bF n) i;have hgb:=bA (bF m) i;obtain⟨ga,gW⟩:=nm ((aC n).getD i 0);obtain⟨gb,lQ⟩:=nm ((aC m).getD i 0);rw[<-gW]at hga;rw[<-lQ]at hgb;obtain⟨x,hx⟩:=nm (cr+ga - gb);have hxb:x=cr+(aC n).getD i 0+(-1)*(aC m).getD i 0:=by rw[hx,gW,lQ];omega
 have aSb:-1<=cr/\cr<=0:=zW
 have hx0:-1000000000<=x/\x<1000000000:=zW
 have cJ:=hM'.step hxb
 have aF9:x<0->x%1000000000=x+1000000000/\x/1000000000=-1:=λh=>zW
 have yD:¬x<0->x%1000000000=x/\x/1000000000=0:=λh=>zW
 have hix:aV 0 (IE.n i).den 1 0=i:=by simp only[aV,IE.den];omega
 have g1:i<N->(IE.fn f 0 (.n i) 1 0).den=ga:=λh=>by show f (aV 0 (IE.n i).den 1 0)=ga;rw[hix,hfw i h,gW]
 have g2:i<M->(IE.fn f' 0 (.n i) 1 0).den=gb:=λh=>by show f' (aV 0 (IE.n i).den 1 0)=gb;rw[hix,aB6 i h,lQ]
 have z2:¬i<M->gb=0:=λh=>by rw[lQ,aSc i zW]
 have o1:i<N->(Obl.ltE (IE.n i) (IE.n N)).ok:=λh=>by show _/\_;simp only[IE.den];omega
 have o2:i<N->(Obl.ix 0 (IE.n i) 1 0 1 N).ok:=λh=>by show _<=_;rw[hix];omega
 have o1':i<M->(Obl.ltE (IE.n i) (IE.n M)).ok:=λh=>by show _/\_;simp only[IE.den];omega
 have o2':i<M->(Obl.ix 0 (IE.n i) 1 0 1 M).ok:=λh=>by show _<=_;rw[hix];omega
 have cS:∀(k:IntKind) (e:IE) (z:Int),e.den=z->lo k<=z/\z<=hi k->(Obl.inR k e).ok:=λk e z he hz=>by show _/\_;rw[he];exact hz
 have r0:lo .i64<=ga/\ga<=hi .i64:=by simp only[lo,hi];omega
 have r1:lo .i64<=cr+ga/\cr+ga<=hi .i64:=by simp only[lo,hi];omega
 have r2:lo .i64<=gb/\gb<=hi .i64:=by simp only[lo,hi];omega
 have r3:lo .i64<=x/\x<=hi .i64:=by simp only[lo,hi];omega
 have r4:lo .i64<=x+1000000000/\x+1000000000<=hi .i64:=by simp only[lo,hi];omega
 have r5:x<0->lo .u32<=x+1000000000/\x+1000000000<=hi .u32:=λh=>by simp only[lo,hi];omega
 have r6:¬x<0->lo .u32<=x/\x<=hi .u32:=λh=>by simp only[lo,hi];omega
 have hlb:(out.length+1)*4<=140737488355328:=zW
 have pI:out.length+1<=9223372036854775807:=zW
 have q6:lo .i64<=(i:Int)+1/\(i:Int)+1<=hi .i64:=by simp only[lo,hi];omega
 have hin:∀n',n'=out.length+1->(i:Int)+1=(n':Int):=λn' h=>zW
 have hni:out.length+1=i+1:=zW
 have hmx:i<N->∀n',n'=out.length+1->n'<=N:=λh n' hn'=>zW
 have hms:i<N->∀n',n'=out.length+1->N - n'<N - i:=λh n' hn'=>zW
 have kH:¬i<N->(val out).toNat=n - m:=λh1=>by
  obtain⟨d1,d2,_⟩:=hM'.done zW zW;have:=d2 zW;omega
 have hlo:out.length<=2^40:=zW
 cbv;refine aE rfl 100 (λh=>?_) (λh=>?_)
 ·have hA:i<N:=Int.ofNat_lt.1 (BE.lt_t h)
  have e0:(IE.sub (.fn f 0 (.n i) 1 0) (.sub (.l 0) (.v cr))).den=cr+ga:=by show(IE.fn f 0 (.n i) 1 0).den - (0 - cr)=_;rw[g1 hA];omega
  have p0:=cS .i64 _ _ (g1 hA) r0
  have p1:=cS .i64 _ _ e0 r1
  have p2:=o1 hA
  have p3:=o2 hA
  have q6':(Obl.inR .i64 (.add (.n i) (.l 1))).ok:=q6
  have hmx:=hmx hA
  have hms:=hms hA
  cbv;refine zO ?_;refine aE rfl 100 (λh=>?_) (λh=>?_)
  ·skip
   have hB:i<M:=Int.ofNat_lt.1 (BE.lt_t h)
   have ex:(IE.den (.sub (.sub (.fn f 0 (.n i) 1 0) (.sub (.l 0) (.v cr))) (.fn f' 0 (.n i) 1 0)))=x:=by show(IE.den (.sub (.fn f 0 (.n i) 1 0) (.sub (.l 0) (.v cr)))) - (IE.fn f' 0 (.n i) 1 0).den=x;rw[e0,g2 hB,hx]
   have p4:=o1' hB;have p5:=o2' hB;have p6:=cS .i64 _ _ (g2 hB) r2;have p7:=cS .i64 _ _ ex r3
   cbv;refine zO ?_;refine aE rfl 100 (λh=>?_) (λh=>?_)
   ·have hx2:x<0:=by have:=BE.lt_t h;rwa [ex]at this
    have hs:=cJ
    rw[(aF9 hx2).1,(aF9 hx2).2]at hs;have ew:(IE.den (.add (.sub (.sub (.fn f 0 (.n i) 1 0) (.sub (.l 0) (.v cr))) (.fn f' 0 (.n i) 1 0)) (.l 1000000000)))=x+1000000000:=by show(IE.den (.sub (.sub (.fn f 0 (.n i) 1 0) (.sub (.l 0) (.v cr))) (.fn f' 0 (.n i) 1 0)))+1000000000=_;rw[ex]
    have p8:=cS .i64 _ _ ew r4;have p9:=cS .u32 _ _ ew (r5 hx2)
    cbv;refine zO ?_;refine eX hc _ rfl rfl rfl hG rfl rfl rfl rfl rfl rfl rfl rfl rfl cF hlb pI (λa' n' aS l' hn' hl'=>?_);have hl':l'=out++[x+1000000000]:=hl'.trans (congrArg (λz=>out++[z]) ew);apply zN hc;cbv;refine zO ?_;exact zU 2 (S':=I ⟨(n',a',aS,l',-1),by rw[hn',hl',hni];exact hs,hmx n' hn'⟩) (K':=K) ⟨zS,zS,zS,zS,zI rfl rfl (hin n' hn'),trivial⟩ kf (kof _ _ _ _) (hy _ (hms n' hn'))
   ·have hx2:¬x<0:=by have:=BE.lt_f h;rwa [ex]at this
    have hs:=cJ
    rw[(yD hx2).1,(yD hx2).2]at hs;have ew:(IE.den (.sub (.sub (.fn f 0 (.n i) 1 0) (.sub (.l 0) (.v cr))) (.fn f' 0 (.n i) 1 0)))=x:=ex;have p9:=cS .u32 _ _ ew (r6 hx2);cbv;refine zO ?_;refine eX hc _ rfl rfl rfl hG rfl rfl rfl rfl rfl rfl rfl rfl rfl cF hlb pI (λa' n' aS l' hn' hl'=>?_);have hl':l'=out++[x]:=hl'.trans (congrArg (λz=>out++[z]) ew);apply zN hc;cbv;refine zO ?_;exact zU 2 (S':=I ⟨(n',a',aS,l',0),by rw[hn',hl',hni];exact hs,hmx n' hn'⟩) (K':=K) ⟨zS,zS,zS,zS,zI rfl rfl (hin n' hn'),trivial⟩ kf (kof _ _ _ _) (hy _ (hms n' hn'))
  ·skip
   have hB:¬i<M:=λh'=>BE.lt_f h (Int.ofNat_lt.2 h')
   have ex:(IE.den (.sub (.fn f 0 (.n i) 1 0) (.sub (.l 0) (.v cr))))=x:=by rw[e0,hx,z2 hB];omega
   cbv;refine aE rfl 100 (λh=>?_) (λh=>?_)
   ·have hx2:x<0:=by have:=BE.lt_t h;rwa [ex]at this
    have hs:=cJ
    rw[(aF9 hx2).1,(aF9 hx2).2]at hs;have ew:(IE.den (.add (.sub (.fn f 0 (.n i) 1 0) (.sub (.l 0) (.v cr))) (.l 1000000000)))=x+1000000000:=by show(IE.den (.sub (.fn f 0 (.n i) 1 0) (.sub (.l 0) (.v cr))))+1000000000=_;rw[ex]
    have p8:=cS .i64 _ _ ew r4;have p9:=cS .u32 _ _ ew (r5 hx2)
    cbv;refine zO ?_;refine eX hc _ rfl rfl rfl hG rfl rfl rfl rfl rfl rfl rfl rfl rfl cF hlb pI (λa' n' aS l' hn' hl'=>?_);have hl':l'=out++[x+1000000000]:=hl'.trans (congrArg (λz=>out++[z]) ew);apply zN hc;cbv;refine zO ?_;exact zU 2 (S':=I ⟨(n',a',aS,l',-1),by rw[hn',hl',hni];exact hs,hmx n' hn'⟩) (K':=K) ⟨zS,zS,zS,zS,zI rfl rfl (hin n' hn'),trivial⟩ kf (kof _ _ _ _) (hy _ (hms n' hn'))
   ·have hx2:¬x<0:=by have:=BE.lt_f h;rwa [ex]at this
    have hs:=cJ
    rw[(yD hx2).1,(yD hx2).2]at hs;have ew:(IE.den (.sub (.fn f 0 (.n i) 1 0) (.sub (.l 0) (.v cr))))=x:=ex;have p9:=cS .u32 _ _ ew (r6 hx2);cbv;refine zO ?_;refine eX hc _ rfl rfl rfl hG rfl rfl rfl rfl rfl rfl rfl rfl rfl cF hlb pI (λa' n' aS l' hn' hl'=>?_);have hl':l'=out++[x]:=hl'.trans (congrArg (λz=>out++[z]) ew);apply zN hc;cbv;refine zO ?_;exact zU 2 (S':=I ⟨(n',a',aS,l',0),by rw[hn',hl',hni];exact hs,hmx n' hn'⟩) (K':=K) ⟨zS,zS,zS,zS,zI rfl rfl (hin n' hn'),trivial⟩ kf (kof _ _ _ _) (hy _ (hms n' hn'))
 ·have hA:¬i<N:=λh'=>BE.lt_f h (Int.ofNat_lt.2 h')
  have he:=kH hA
  have hwd:=hM'.wd
  cbv;refine mZ (hG _ _ _ _) ?_;cbv;refine dO (R:=R) hc lH (λn0 D X μ a w aK H aI=>?_) 100 ?_
  ·obtain⟨v1,rfl,h1⟩:=aX aI;simp only[aD]at h1;injection h1 with h1
   rw[<-h1,hRR,<-he];exact gI hwd hlo H.xlt (H.cst (.head _))
  cbv;exact aR hc hR rfl (λX μ a w v H hv=>H.toP.val (k:=2) (R:=R) (.head _) hv)
end Go.Ai
