/- Part 29: garboardlaw17.FloatDivides returns true, whatever the input. -/
import Derived.Test.YtmnancfboococaaGreatDoorRows
import Derived.Test.YtmnancfboococaaGreatDoorTie
import Derived.Test.YtmnancfboococaaGreatDoorCards
import Derived.ProofKit
import Derived.LaidMore
import Derived.OpenShut
import Derived.Handed
import Derived.Deep.Strs
import Derived.Stop.Joined
import Derived.Shelf.Vars
import Derived.Lib.LaidTab
import Derived.Stop.LaidErr
import Derived.Test.YtmnancfboococaaGreatDoorPd27
set_option linter.all false
namespace Go.Ai
open Go Go.Proofs Go.Num V3
theorem aNp (q:Rat):rK (aA q)=q:=by unfold rK;rw[dA];rfl
theorem aHm:∀{l:List Tri} {k:Nat} {t:Tri},l[k]?=some t->(pC (dR l)).drop (27*k)=qC t.a.x++(qC t.a.y++(qC t.a.z++(qC t.b.x++(qC t.b.y++(qC t.b.z++(pC [aA t.c.x,aA t.c.y,aA t.c.z]++pC (dR (l.drop (k+1)))))))))
 | [],k,t,h=>by simp at h
 | u::l,0,t,h=>by
  simp at h;subst h;show pC (aDn u++dR l)=_
  rw[aBi];show qC (rK (aA u.a.x))++(qC (rK (aA u.a.y))++(qC (rK (aA u.a.z))++(qC (rK (aA u.b.x))++(qC (rK (aA u.b.y))++(qC (rK (aA u.b.z))++pC [aA u.c.x,aA u.c.y,aA u.c.z])))))++pC (dR l)=_
  simp only[aNp,List.append_assoc,List.drop_succ_cons,List.drop_zero]
 | u::l,k+1,t,h=>by
  have:=aHm (l:=l) (k:=k) (t:=t) (by simpa using h)
  show(pC (aDn u++dR l)).drop _=_
  rw[aBi,show 27*(k+1)=(pC (aDn u)).length+27*k by rw[aBj];show _=3*9+_;omega,List.drop_append];rw[List.drop_of_length_le zW,show(pC (aDn u)).length+27*k - (pC (aDn u)).length=27*k by omega,List.nil_append,this];rfl
theorem kK {α:Type}{n:Nat}:∀{l:List α},n+1<=l.length->∃a m,l=a::m/\n<=m.length
 | a::m,h=>⟨a,m,rfl,Nat.le_of_succ_le_succ h⟩
theorem aRv {α:Type}{l:List α}(h0:18<=l.length):∃a b c d e f g h i j k m n o p q r s t,l=a::b::c::d::e::f::g::h::i::j::k::m::n::o::p::q::r::s::t:=by
 obtain⟨a,l0,rfl,h1⟩:=kK h0;obtain⟨b,l1,rfl,h2⟩:=kK h1;obtain⟨c,l2,rfl,h3⟩:=kK h2;obtain⟨d,l3,rfl,h4⟩:=kK h3;obtain⟨e,l4,rfl,h5⟩:=kK h4;obtain⟨f,l5,rfl,h6⟩:=kK h5;obtain⟨g,l6,rfl,h7⟩:=kK h6;obtain⟨h,l7,rfl,h8⟩:=kK h7;obtain⟨i,l8,rfl,h9⟩:=kK h8;obtain⟨j,l9,rfl,h10⟩:=kK h9;obtain⟨k,l10,rfl,h11⟩:=kK h10;obtain⟨m,l11,rfl,h12⟩:=kK h11;obtain⟨n,l12,rfl,h13⟩:=kK h12;obtain⟨o,l13,rfl,h14⟩:=kK h13;obtain⟨p,l14,rfl,h15⟩:=kK h14;obtain⟨q,l15,rfl,h16⟩:=kK h15;obtain⟨r,l16,rfl,h17⟩:=kK h16;obtain⟨s,l17,rfl,h18⟩:=kK h17;exact⟨_,_,_,_,_,_,_,_,_,_,_,_,_,_,_,_,_,_,_,rfl⟩
def DL (l:List Tri)(k:Nat)(t:Tri)(P:V3)(m:Nat):List Tri:=if k<m then(l.drop m).reverse else(l.drop (k+1)).reverse++[⟨P,t.b,t.c⟩,⟨t.a,P,t.c⟩,⟨t.a,t.b,P⟩]++((l.take k).drop m).reverse
theorem aXe {l:List Tri}{k i:Nat}{t u:Tri}{P:V3}(hu:l[i]?=some u)(h:i≠k):DL l k t P i=DL l k t P (i+1)++[u]:=by
 obtain⟨h1,h2⟩:=List.getElem?_eq_some_iff.1 hu;unfold DL;by_cases hk:k<i
 ·rw[if_pos hk,if_pos zW,List.drop_eq_getElem_cons h1,h2,List.reverse_cons]
 ·rw[if_neg hk,if_neg zW];have h3:i<(l.take k).length:=by rw[List.length_take];omega
  have h4:(l.take k)[i]=u:=by rw[List.getElem_take];exact h2
  rw[List.drop_eq_getElem_cons h3,h4,List.reverse_cons,List.append_assoc,List.append_assoc,List.append_assoc]
theorem aXd {l:List Tri}{k:Nat}{t:Tri}{P:V3}:DL l k t P k=DL l k t P (k+1)++[⟨P,t.b,t.c⟩,⟨t.a,P,t.c⟩,⟨t.a,t.b,P⟩]:=by
 unfold DL;rw[if_neg zW,if_pos zW,List.drop_of_length_le (l:=l.take k) (by rw[List.length_take];omega),List.reverse_nil,List.append_nil]
theorem aYk {l:List Tri}{k m:Nat}{t:Tri}{P:V3}(hk:k<l.length):(DL l k t P m).length+m<=l.length+m+2:=by
 unfold DL;split
 ·simp only[List.length_reverse,List.length_drop];omega
 ·simp only[List.length_append,List.length_reverse,List.length_drop,List.length_take,List.length_cons,List.length_nil];omega
structure DivI where
 x:Nat
 a:Option Addr
 n:Nat
 c:Nat
set_option maxHeartbeats 0 in
theorem lDivides {L:List ByteArray}{N:Nat}(hL:L.length=9*N)(hN:N<=2^62)(h0 t0 x0 x1 x2:ByteArray){X:Nat->Prop}{w:World}{v:Value}(hX:∀b,X b->b<w.heap.size)(hv:(rowS N L).p v X w):
  Fn PP 6 [v,.agg #[.string h0,.string t0],.agg #[.string x0,.string x1,.string x2]] X w (dN (.bool true)):=by
 have kS:∀{X:Nat->Prop} {w:World} {v:Value},(∀b,X b->b<w.heap.size)->(rowS N L).p v X w->Fn PP 46 [v] X w (dN (.bool (shS L N))):=λhX hv=>aV4 hL hN hX hv
 have ks0:=sF x0
 have ks1:=sF x1
 have ks2:=sF x2
 have ka0:=aV3 h0 t0
 obtain⟨R,hRR⟩:=nm (dN (.bool true));rw[<-hRR];obtain⟨K,hK⟩:=nm ([KF.cst v (rowS N L)]);refine bE mixed tok [.q v,.g [.s (.v h0),.s (.v t0)],.g [.s (.v x0),.s (.v x1),.s (.v x2)]] (K:=K) Tryz.func6 rfl rfl (lbl rfl) rfl hX (by rw[hK];simp;exact hv) λc hc hR=>?_;obtain⟨Q,hQ⟩:=nm (9*N);obtain⟨RS,hRS⟩:=nm (rowS N L);have aAh:∀{K':List KF} {S:St} {X:Nat->Prop} {μ:Mu} {a:Act} {w:World} {v:Value},Sim c K' S X μ a w->aD μ (.b (.l true))=some v->R.p v X w:=λH hv=>by
  rw[hRR];exact fW hv
 refine gY 0 N Q L (by rw[hL,hQ]) rfl rfl (λX μ a w v' H hv'=>bZ H (by rw[hK];exact .head _) hv') (λf cap hf cR=>?_);apply zN hc;cbv;refine bK hc (.b (.l true)) aQo (λn0 D X μ a w aK H hv=>?_) 100 ?_
 ·rw[<-(Option.some.inj hv)];exact bAs H.xlt
 cbv;refine cM hc _ 0 ?_;cbv;refine cM hc _ 0 ?_;cbv;refine zE ?_;cbv;obtain⟨q0,hq0⟩:∃q,q=sh x0:=⟨_,rfl⟩;obtain⟨q1,hq1⟩:∃q,q=sh x1:=⟨_,rfl⟩;obtain⟨q2,hq2⟩:∃q,q=sh x2:=⟨_,rfl⟩;obtain⟨a0,ha0⟩:∃q,q=(sh h0&&sh t0):=⟨_,rfl⟩;obtain⟨sS,hsS⟩:∃q,q=shS L N:=⟨_,rfl⟩;rw[<-hq0]at ks0;rw[<-hq1]at ks1;rw[<-hq2]at ks2;rw[<-ha0]at ka0;rw[<-hsS]at kS;have hQL:Q=L.length:=by rw[hQ,hL]
 refine cP hc Tryz.func12 aYv (λc' tm' FR hFR hc' Lk=>?_);apply zN hc';cbv;refine aZ 4 (λp hp=>?_);refine hp _ _ _ ?_;apply zN hc';cbv;refine zC (hc:=hc') (.b (.l q0)) ks0 fV ?_;cbv;cases q0 with
 | false=>
  apply zN hc';cbv;refine cK hc' Lk hFR zM ?_;apply zN hc;cbv;exact aR hc hR rfl (λX μ a w v H hv=>aAh H hv)
 | true=>
 apply zN hc';cbv;refine hp _ _ _ ?_;apply zN hc';cbv;refine zC (hc:=hc') (.b (.l q1)) ks1 fV ?_;cbv;cases q1 with
 | false=>
  apply zN hc';cbv;refine cK hc' Lk hFR zM ?_;apply zN hc;cbv;exact aR hc hR rfl (λX μ a w v H hv=>aAh H hv)
 | true=>
 apply zN hc';cbv;refine hp _ _ _ ?_;apply zN hc';cbv;refine zC (hc:=hc') (.b (.l q2)) ks2 fV ?_;cbv;cases q2 with
 | false=>
  apply zN hc';cbv;refine cK hc' Lk hFR zM ?_;apply zN hc;cbv;exact aR hc hR rfl (λX μ a w v H hv=>aAh H hv)
 | true=>
 apply zN hc';cbv;refine hp _ _ _ ?_;apply zN hc';cbv;refine bK hc' (.b (.l sS)) aOd (λn0 D X μ a w aK H aI=>?_) 100 ?_
 ·obtain⟨u,rfl,e'⟩:=aX aI;exact kS H.xlt (H.rowT rfl e' hQL hf cR)
 cbv;cases sS with
 | false=>
  apply zN hc';cbv;refine cK hc' Lk hFR zM ?_;apply zN hc;cbv;exact aR hc hR rfl (λX μ a w v H hv=>aAh H hv)
 | true=>
 apply zN hc';cbv;refine zC (hc:=hc') (.b (.l a0)) ka0 aOc ?_;cbv;cases a0 with
 | false=>
  apply zN hc';cbv;refine cK hc' Lk hFR zM ?_;apply zN hc;cbv;exact aR hc hR rfl (λX μ a w v H hv=>aAh H hv)
 | true=>
 apply zN hc';cbv;refine cK hc' Lk hFR zM ?_;apply zN hc;cbv;refine bV 45 rfl rfl 100 (λ_=>?_) (λhz=>?_)
 ·cbv;exact aR hc hR rfl (λX μ a w v H hv=>aAh H hv)
 have hN0:N≠0:=λe=>by rw[e]at hz;cases hz
 cbv;refine aE rfl 100 (λ_=>?_) (λhz=>?_)
 ·cbv;exact aR hc hR rfl (λX μ a w v H hv=>aAh H hv)
 have bCj:N<=24:=Int.ofNat_le.1 (Int.not_lt.1 (BE.lt_f hz))
 clear hz;cbv;have cI:L.all sh=true:=by
  have h:=hsS.symm
  unfold shS at h;rcases Bool.or_eq_true_iff.1 h with h | h
  ·have:=of_decide_eq_true h;omega
  ·exact(Bool.and_eq_true_iff.1 h).1
 have bGf:∀a,a∈L->a.size<=2^34:=λa ha=>lTr (tS (List.all_eq_true.1 cI a ha)) zV
 obtain⟨okT,bDm⟩:∃b,b=L.all gQ:=⟨_,rfl⟩;obtain⟨CL,hCL⟩:=nm (pC L);obtain⟨RT,hRT⟩:=nm (if okT=true then aWv N CL else dN (.slice none 0 0));obtain⟨RK,hRK⟩:=nm (aWg okT RT);have kT:∀{X:Nat->Prop} {w:World} {v:Value},(∀b,X b->b<w.heap.size)->(rowS N L).p v X w->Fn PP 28 [v] X w RK:=λhX hv=>by
  rw[hRK,hRT,bDm,hCL];exact bCp hL bGf zW hX hv
 have kq:=aGl (a:=x1) (lTr (tS hq1.symm) zV)
 obtain⟨oq,hoq⟩:∃b,b=gQ x1:=⟨_,rfl⟩;rw[<-hoq]at kq;obtain⟨bq,Q1,Q2,eq⟩:=fF (rK x1);rw[eq]at kq;refine dO hc (R:=RK) aU8 (λn0 D X μ a w aK H hv=>?_) 0 ?_
 ·obtain⟨u,rfl,e⟩:=aX hv;exact kT H.xlt (H.rowT rfl e hQL hf cR)
 cbv;refine bEg 52 5 rfl rfl (.head _) hRK (λz=>?_);apply zN hc;cbv;refine fG hc aAo kq ⟨.s rfl,trivial⟩ (.t [.g [.b (.l bq),.ec 6 1,.ec 6 2],.b (.l oq)]) 100 (λFQ hFQ=>?_);cbv;cases okT with
 | false=>
  apply zN hc;cbv;exact aR hc hR rfl (λX μ a w v H hv=>aAh H hv)
 | true=>
 cases oq with
 | false=>
  apply zN hc;cbv;exact aR hc hR rfl (λX μ a w v H hv=>aAh H hv)
 | true=>
 rw[if_pos rfl]at hRT;refine bBf (R:=RT) rfl (.tail _ (.head _)) hRT zW (λtb tof tcap xs hz hxl=>?_);subst hz;cbv;refine bBe hc _ rfl rfl rfl rfl rfl rfl rfl ?_;obtain⟨k,hk⟩:=nm (x2.size%N);have hkN:k<N:=by rw[hk];exact Nat.mod_lt _ zW
 refine jC hc 2 ?_;cbv;refine aP hc ⟨by show(N:Int)≠0;exact λe=>hN0 (Int.ofNat_eq_zero.1 e),trivial⟩ ?_;refine aW3 13 (.i .i64 (.n k)) rfl rfl (λμ=>congrArg (λz=>some (Value.int .i64 z)) ?_) ?_
 ·show Int.tmod (x2.size:Int) (N:Int)=(k:Int)
  rw[hk];exact(Int.ofNat_tmod _ _).symm
 obtain⟨l,hLl,hle⟩:=aT5 N L hL λa ha=>⟨List.all_eq_true.1 bDm.symm a ha,List.all_eq_true.1 cI a ha⟩
 have hlen:l.length=N:=by rw[hLl,fM]at hL;omega
 obtain⟨t,htk⟩:∃t,l[k]?=some t:=⟨l[k]'zW,zA⟩;have hcd:=aHm htk;rw[<-hLl,<-hCL]at hcd;have bHp:xs.length=27*N:=by rw[hxl,hCL,aBj,hL];omega
 obtain⟨u0,u1,u2,u3,u4,u5,u6,u7,u8,w0,w1,w2,w3,w4,w5,w6,w7,w8,ys,hxd⟩:=aRv (l:=xs.drop (27*k)) (by rw[List.length_drop];omega);have bAj:(xs.drop (27*k)).take 9=[u0,u1,u2,u3,u4,u5,u6,u7,u8]:=by rw[hxd];rfl
 have bAk:(xs.drop (27*k+9)).take 9=[w0,w1,w2,w3,w4,w5,w6,w7,w8]:=by rw[<-List.drop_drop,hxd];rfl
 obtain⟨aa1,A1,A2,aa2,A3,A4,aa3,A5,A6,ea⟩:=aAd t.a.x t.a.y t.a.z;obtain⟨bb1,B1,B2,bb2,B3,B4,bb3,B5,B6,eb⟩:=aAd t.b.x t.b.y t.b.z;have bC2:(CL.drop (27*k)).take 9=[.b (.l aa1),.x A1,.x A2,.b (.l aa2),.x A3,.x A4,.b (.l aa3),.x A5,.x A6]:=by
  rw[hcd,<-ea];rfl
 have bC3:(CL.drop (27*k+9)).take 9=[.b (.l bb1),.x B1,.x B2,.b (.l bb2),.x B3,.x B4,.b (.l bb3),.x B5,.x B6]:=by
  rw[<-List.drop_drop,hcd,<-eb];rfl
 obtain⟨pk,hpk⟩:∃p,p=tof+k*27:=⟨_,rfl⟩;obtain⟨pl,hpl⟩:∃p,p=tof+k*27+9:=⟨_,rfl⟩;refine aPq (KF.mem tb pk [u0,u1,u2,u3,u4,u5,u6,u7,u8]) rfl (λX μ w hk'=>?_) ?_
 ·have:=aNf (off:=27*k) (m:=9) (hk' (KF.mem tb tof xs) zM) bAj.symm
  rwa [show tof+27*k=pk by omega]at this
 refine aPq (KF.mem tb pl [w0,w1,w2,w3,w4,w5,w6,w7,w8]) rfl (λX μ w hk'=>?_) ?_
 ·have:=aNf (off:=27*k+9) (m:=9) (hk' (KF.mem tb tof xs) zM) bAk.symm
  rwa [show tof+(27*k+9)=pl by omega]at this
 refine aPq (KF.cp [u0,u1,u2,u3,u4,u5,u6,u7,u8] [.b (.l aa1),.x A1,.x A2,.b (.l aa2),.x A3,.x A4,.b (.l aa3),.x A5,.x A6]) rfl (λX μ w hk'=>?_) ?_
 ·rw[<-bAj,<-bC2];exact rZ 9 (rY (27*k) (hk' (KF.cp xs CL) zM))
 refine aPq (KF.cp [w0,w1,w2,w3,w4,w5,w6,w7,w8] [.b (.l bb1),.x B1,.x B2,.b (.l bb2),.x B3,.x B4,.b (.l bb3),.x B5,.x B6]) rfl (λX μ w hk'=>?_) ?_
 ·rw[<-bAk,<-bC3];exact rZ 9 (rY (27*k+9) (hk' (KF.cp xs CL) zM))
 obtain⟨q,hq⟩:=nm (rK x1);rw[<-hq]at eq;have hqs:sz q<=40:=by
  obtain⟨y,e1,e2⟩:=lA hoq.symm hq1.symm;rw[hq,e1,aNp];exact e2
 have htl:=hle t (List.mem_of_getElem? htk)
 have s1:sz (1 - q)<=42:=lTr (V3.sz_ss aGw hqs) zV
 have kI:oC PP 32 [.one (.i .i64 (.v 1))] (.sg (.agg (qC 1))):=bEa (x:=1) zV zV
 have kSb:=bGt (a:=1) (b:=q) (lTr aGw zV) (lTr hqs zV)
 have kT1:=aR3 (k:=1 - q) (a:=t.a) (lTr s1 zV) (htl.1.mono zV)
 have kT2:=aR3 (k:=q) (a:=t.b) (lTr hqs zV) (htl.2.1.mono zV)
 obtain⟨U,hU⟩:∃U:V3,U=⟨(1 - q)*t.a.x,(1 - q)*t.a.y,(1 - q)*t.a.z⟩:=⟨_,rfl⟩;obtain⟨V,hV⟩:∃U:V3,U=⟨q*t.b.x,q*t.b.y,q*t.b.z⟩:=⟨_,rfl⟩;rw[<-hU]at kT1;rw[<-hV]at kT2;have hUl:U.le 82:=by rw[hU];exact⟨lTr (V3.sz_mm s1 htl.1.1) zV,lTr (V3.sz_mm s1 htl.1.2.1) zV,lTr (V3.sz_mm s1 htl.1.2.2) zV⟩
 have hVl:V.le 80:=by rw[hV];exact⟨lTr (V3.sz_mm hqs htl.2.1.1) zV,lTr (V3.sz_mm hqs htl.2.1.2.1) zV,lTr (V3.sz_mm hqs htl.2.1.2.2) zV⟩
 have kP:=bCn (u:=U) (v:=V) (hUl.mono zV) (hVl.mono zV)
 obtain⟨P,hPd⟩:=nm (U.add V);rw[<-hPd]at kP;have hPl:P.le 512:=by rw[hPd];exact(V3.le_add hUl hVl).mono zV
 have hPs:oO t.a (t.b.sub t.a) (t.c.sub t.a) P:=by
  refine⟨q,0,?_⟩;rw[hPd,hU,hV];simp only[V3.add,V3.sub,V3.scale,V3.mk.injEq];refine⟨?_,?_,?_⟩<;>grind
 have kO:=hOut (u:=P) (hPl.mono zV)
 obtain⟨c0,I1,I2,e1⟩:=fF 1;obtain⟨s0,S1,S2,es⟩:=fF (1 - q);obtain⟨cc1,C1,C2,cc2,C3,C4,cc3,C5,C6,eu⟩:=aAd U.x U.y U.z;obtain⟨dd1,D1,D2,dd2,D3,D4,dd3,D5,D6,ev⟩:=aAd V.x V.y V.z;obtain⟨pp1,P1,P2,pp2,P3,P4,pp3,P5,P6,ep⟩:=aAd P.x P.y P.z;unfold vI at kT1 kT2 kP kO;rw[e1]at kI;rw[e1,eq,es]at kSb;rw[es,ea,eu]at kT1;rw[eq,eb,ev]at kT2;rw[eu,ev,ep]at kP;rw[ep]at kO;clear hU hV hUl hVl e1 es eu ev ep ea eb eq bC2 bC3 bAj bAk hxd hcd;apply zN hc;cbv;refine cY hc uL kI ⟨.i rfl,trivial⟩ (.g [.b (.l c0),.ec 8 1,.ec 8 2]) 100 (λF1 hF1=>?_);cbv;refine cY hc aY2 kSb ⟨⟨.b rfl,.ec (.head _) hF1 rfl,.ec (.head _) hF1 rfl,trivial⟩,⟨.b rfl,.ec zM hFQ rfl,.ec zM hFQ rfl,trivial⟩,trivial⟩ (.g [.b (.l s0),.ec 9 1,.ec 9 2]) 100 (λF2 hF2=>?_);cbv;refine aTl hc _ rfl rfl rfl k pk hpk.symm rfl rfl rfl rfl rfl rfl hkN ?_;refine aTk hc _ rfl rfl rfl 0 pk zW rfl rfl rfl rfl rfl rfl zV ?_;refine aTm hc _ rfl rfl rfl (us:=[u0,u1,u2,u3,u4,u5,u6,u7,u8]) (.g [.q u0,.q u1,.q u2,.q u3,.q u4,.q u5,.q u6,.q u7,.q u8]) rfl rfl rfl rfl rfl zM rfl ?_;apply zN hc;cbv;refine cY hc aHd kT1 ⟨⟨.b rfl,.ec zM hF2 rfl,.ec zM hF2 rfl,trivial⟩,⟨.cp (us:=[u0,u1,u2,u3,u4,u5,u6,u7,u8]) (cs:=[.b (.l aa1),.x A1,.x A2,.b (.l aa2),.x A3,.x A4,.b (.l aa3),.x A5,.x A6]) (j:=0) zM rfl rfl,.cp (us:=[u0,u1,u2,u3,u4,u5,u6,u7,u8]) (cs:=[.b (.l aa1),.x A1,.x A2,.b (.l aa2),.x A3,.x A4,.b (.l aa3),.x A5,.x A6]) (j:=1) zM rfl rfl,.cp (us:=[u0,u1,u2,u3,u4,u5,u6,u7,u8]) (cs:=[.b (.l aa1),.x A1,.x A2,.b (.l aa2),.x A3,.x A4,.b (.l aa3),.x A5,.x A6]) (j:=2) zM rfl rfl,.cp (us:=[u0,u1,u2,u3,u4,u5,u6,u7,u8]) (cs:=[.b (.l aa1),.x A1,.x A2,.b (.l aa2),.x A3,.x A4,.b (.l aa3),.x A5,.x A6]) (j:=3) zM rfl rfl,.cp (us:=[u0,u1,u2,u3,u4,u5,u6,u7,u8]) (cs:=[.b (.l aa1),.x A1,.x A2,.b (.l aa2),.x A3,.x A4,.b (.l aa3),.x A5,.x A6]) (j:=4) zM rfl rfl,.cp (us:=[u0,u1,u2,u3,u4,u5,u6,u7,u8]) (cs:=[.b (.l aa1),.x A1,.x A2,.b (.l aa2),.x A3,.x A4,.b (.l aa3),.x A5,.x A6]) (j:=5) zM rfl rfl,.cp (us:=[u0,u1,u2,u3,u4,u5,u6,u7,u8]) (cs:=[.b (.l aa1),.x A1,.x A2,.b (.l aa2),.x A3,.x A4,.b (.l aa3),.x A5,.x A6]) (j:=6) zM rfl rfl,.cp (us:=[u0,u1,u2,u3,u4,u5,u6,u7,u8]) (cs:=[.b (.l aa1),.x A1,.x A2,.b (.l aa2),.x A3,.x A4,.b (.l aa3),.x A5,.x A6]) (j:=7) zM rfl rfl,.cp (us:=[u0,u1,u2,u3,u4,u5,u6,u7,u8]) (cs:=[.b (.l aa1),.x A1,.x A2,.b (.l aa2),.x A3,.x A4,.b (.l aa3),.x A5,.x A6]) (j:=8) zM rfl rfl,trivial⟩,trivial⟩ (.g [.b (.l cc1),.ec 10 1,.ec 10 2,.b (.l cc2),.ec 10 4,.ec 10 5,.b (.l cc3),.ec 10 7,.ec 10 8]) 100 (λF3 hF3=>?_);cbv;refine aTl hc _ rfl rfl rfl k pk hpk.symm rfl rfl rfl rfl rfl rfl hkN ?_;refine aTk hc _ rfl rfl rfl 1 pl zW rfl rfl rfl rfl rfl rfl zV ?_;refine aTm hc _ rfl rfl rfl (us:=[w0,w1,w2,w3,w4,w5,w6,w7,w8]) (.g [.q w0,.q w1,.q w2,.q w3,.q w4,.q w5,.q w6,.q w7,.q w8]) rfl rfl rfl rfl rfl zM rfl ?_;apply zN hc;cbv;refine cY hc aHd kT2 ⟨⟨.b rfl,.ec zM hFQ rfl,.ec zM hFQ rfl,trivial⟩,⟨.cp (us:=[w0,w1,w2,w3,w4,w5,w6,w7,w8]) (cs:=[.b (.l bb1),.x B1,.x B2,.b (.l bb2),.x B3,.x B4,.b (.l bb3),.x B5,.x B6]) (j:=0) zM rfl rfl,.cp (us:=[w0,w1,w2,w3,w4,w5,w6,w7,w8]) (cs:=[.b (.l bb1),.x B1,.x B2,.b (.l bb2),.x B3,.x B4,.b (.l bb3),.x B5,.x B6]) (j:=1) zM rfl rfl,.cp (us:=[w0,w1,w2,w3,w4,w5,w6,w7,w8]) (cs:=[.b (.l bb1),.x B1,.x B2,.b (.l bb2),.x B3,.x B4,.b (.l bb3),.x B5,.x B6]) (j:=2) zM rfl rfl,.cp (us:=[w0,w1,w2,w3,w4,w5,w6,w7,w8]) (cs:=[.b (.l bb1),.x B1,.x B2,.b (.l bb2),.x B3,.x B4,.b (.l bb3),.x B5,.x B6]) (j:=3) zM rfl rfl,.cp (us:=[w0,w1,w2,w3,w4,w5,w6,w7,w8]) (cs:=[.b (.l bb1),.x B1,.x B2,.b (.l bb2),.x B3,.x B4,.b (.l bb3),.x B5,.x B6]) (j:=4) zM rfl rfl,.cp (us:=[w0,w1,w2,w3,w4,w5,w6,w7,w8]) (cs:=[.b (.l bb1),.x B1,.x B2,.b (.l bb2),.x B3,.x B4,.b (.l bb3),.x B5,.x B6]) (j:=5) zM rfl rfl,.cp (us:=[w0,w1,w2,w3,w4,w5,w6,w7,w8]) (cs:=[.b (.l bb1),.x B1,.x B2,.b (.l bb2),.x B3,.x B4,.b (.l bb3),.x B5,.x B6]) (j:=6) zM rfl rfl,.cp (us:=[w0,w1,w2,w3,w4,w5,w6,w7,w8]) (cs:=[.b (.l bb1),.x B1,.x B2,.b (.l bb2),.x B3,.x B4,.b (.l bb3),.x B5,.x B6]) (j:=7) zM rfl rfl,.cp (us:=[w0,w1,w2,w3,w4,w5,w6,w7,w8]) (cs:=[.b (.l bb1),.x B1,.x B2,.b (.l bb2),.x B3,.x B4,.b (.l bb3),.x B5,.x B6]) (j:=8) zM rfl rfl,trivial⟩,trivial⟩ (.g [.b (.l dd1),.ec 11 1,.ec 11 2,.b (.l dd2),.ec 11 4,.ec 11 5,.b (.l dd3),.ec 11 7,.ec 11 8]) 100 (λF4 hF4=>?_);cbv;refine cY hc aU7 kP ⟨⟨.b rfl,.ec zM hF3 rfl,.ec zM hF3 rfl,.b rfl,.ec zM hF3 rfl,.ec zM hF3 rfl,.b rfl,.ec zM hF3 rfl,.ec zM hF3 rfl,trivial⟩,⟨.b rfl,.ec zM hF4 rfl,.ec zM hF4 rfl,.b rfl,.ec zM hF4 rfl,.ec zM hF4 rfl,.b rfl,.ec zM hF4 rfl,.ec zM hF4 rfl,trivial⟩,trivial⟩ (.g [.b (.l pp1),.ec 12 1,.ec 12 2,.b (.l pp2),.ec 12 4,.ec 12 5,.b (.l pp3),.ec 12 7,.ec 12 8]) 0 (λF5 hF5=>?_);cbv;refine fJ hc _ ?_;cbv;refine aA5 hc zG zV rfl 100 ?_;cbv;refine aP hc ⟨by show _/\_;simp only[lo,hi,IE.den];omega,trivial⟩ ?_;obtain⟨px,hpx⟩:∃y,y=aA P.x:=⟨_,rfl⟩;obtain⟨py,hpy⟩:∃y,y=aA P.y:=⟨_,rfl⟩;obtain⟨pz,hpz⟩:∃y,y=aA P.z:=⟨_,rfl⟩;rw[<-hpx,<-hpy,<-hpz]at kO;obtain⟨W,hW⟩:∃W:Nat->List Value,∀m,W m=(dR (DL l k t P m)).map Value.string:=⟨_,λ_=>rfl⟩;obtain⟨nD,hnD⟩:∃nD:Nat->Nat,∀m,nD m=(DL l k t P m).length:=⟨_,λ_=>rfl⟩;have hWN:([]:List Value)=W N:=by rw[hW];unfold DL;rw[if_pos hkN,List.drop_of_length_le zW];rfl
 have hnN:0=nD N:=by rw[hnD];unfold DL;rw[if_pos hkN,List.drop_of_length_le zW];rfl
 have bAe:∀m,nD m<=N+2:=λm=>by rw[hnD];have:=aYk (l:=l) (k:=k) (m:=m) (t:=t) (P:=P) zW;omega
 obtain⟨G,hG⟩:∃G:Option Addr->Nat->Nat->List Value->OF,∀a n cap l,G a n cap l=OF.rv (.slice a n cap) c.B.heap.size 38 9 n l:=⟨_,λ_ _ _ _=>rfl⟩;obtain⟨GK,hGK⟩:∃GK:Nat->Nat->List Value->OF,∀q n l,GK q n l=OF.rk q c.B.heap.size 38 9 n l:=⟨_,λ_ _ _=>rfl⟩;refine eQ hG ?_;obtain⟨K1,hK1⟩:=nm ([KF.at 12 F5]);have mF:KF.at 12 F5∈K1:=by rw[hK1];exact .head _
 let ι:={s:DivI//s.x<=N}
 let I:ι->St:=λs=>⟨[(0,.sl 0 0 (.n N) cap),(4,.p 1 0),(7,.s (.v x0)),(13,.i .i64 (.n k)),(14,.p 13 0),(15,.xs s.1.a (nD s.1.x) s.1.c),(16,.i .i64 (.sub (.n s.1.x) (.l 1)))],
  [.xs Q f,.c 26 [.s (.v h0),.s (.v t0)],.c 58 [.s (.v x0),.s (.v x1),.s (.v x2)],.c 24 [.s (.v x0),.s (.v x1),.s (.v x2)],.c 26 [.s (.v h0),.s (.v t0)],.e,.e,.c 47 [.b (.l bq),.ec 6 1,.ec 6 2],.e,.e,.e,.e,.e,.c 65 [.b (.l pp1),.ec 12 1,.ec 12 2,.b (.l pp2),.ec 12 4,.ec 12 5,.b (.l pp3),.ec 12 7,.ec 12 8]],
  [G s.1.a (nD s.1.x) s.1.c (W s.1.x)]⟩
 let i0:ι:=⟨⟨N,none,0,0⟩,lRf _⟩
 refine eO 14 (S':=I i0) (K':=K1) rfl (by show _=_;rfl) (lRf 14) rfl (by show _=_;simp only[I,i0];rw[<-hWN,<-hnN]) ⟨zS,zS,zS,zS,zS,⟨_,rfl,rfl,λμ=>by rw[<-hnN]⟩,⟨_,rfl,rfl,λμ=>rfl⟩,trivial⟩ (by rw[hK1];exact⟨⟨.head _,KFr.at zV _⟩,trivial⟩) ⟨by rw[hG];exact OFr.rv _ _ _ _ _ _ _,trivial⟩ ?_;refine bQ hc I (λs=>s.1.x) i0 100 ?_;rintro pp ⟨⟨m,a,nu,cc⟩,hx⟩ hy;dsimp only at hx;cbv;dsimp only;refine aE rfl 0 (λh=>?_) (λh=>?_)
 ·have hm:1<=m:=by
   have h:=BE.le_t h
   simp only[IE.den]at h;omega
  obtain⟨i,hmi⟩:∃i,m=i+1:=⟨m - 1,zW⟩;have hiN:i<N:=zW;have hui:l[i]?=some (l[i]'zW):=zA;obtain⟨u,huu⟩:=nm (l[i]'zW);rw[<-huu]at hui;refine aW3 16 (.i .i64 (.n i)) rfl rfl (λμ=>congrArg (λz=>some (Value.int .i64 z)) (by simp only[IE.den];omega)) ?_;obtain⟨g0,g1,g2,g3,g4,g5,g6,g7,g8⟩:=aUd (by rw[<-hLl];exact hf) hui;have hnm:=bAe i;have bHl:=bAe m;have o1:(Obl.ltE (.n i) (.n N)).ok:=by show _/\_;simp only[IE.den];omega
  have o2:(Obl.ix 0 (.n i) 9 0 9 Q).ok:=by show aV 0 (i:Int) 9 0+9<=Q;simp only[aV,Int.toNat_natCast];omega
  have o3:(Obl.inR .i64 (.sub (.n i) (.l 1))).ok:=by show lo _<=_/\_<=hi _;simp only[lo,hi,IE.den];omega
  apply zN hc;cbv;refine aE rfl 100 (λhe=>?_) (λhe=>?_)
  ·have he:i=k:=Int.ofNat.inj (of_decide_eq_true he)
   cbv;refine cY hc aJ2 kO ⟨⟨.b rfl,.ec zM hF5 rfl,.ec zM hF5 rfl,.b rfl,.ec zM hF5 rfl,.ec zM hF5 rfl,.b rfl,.ec zM hF5 rfl,.ec zM hF5 rfl,trivial⟩,trivial⟩ (.g [.s (.v px),.s (.v py),.s (.v pz)]) 100 (λFO1 hO1=>?_);cbv;have p0:(Obl.ix 0 (.n i) 9 0 3 Q).ok:=by show aV 0 (i:Int) 9 0+3<=Q;simp only[aV,Int.toNat_natCast];omega
   have p3:(Obl.ix 0 (.n i) 9 3 3 Q).ok:=by show aV 0 (i:Int) 9 3+3<=Q;simp only[aV,Int.toNat_natCast];omega
   have p6:(Obl.ix 0 (.n i) 9 6 3 Q).ok:=by show aV 0 (i:Int) 9 6+3<=Q;simp only[aV,Int.toNat_natCast];omega
   refine aP hc ⟨o1,p3,o1,p6,o1,p0,trivial⟩ ?_;refine cY hc aJ2 kO ⟨⟨.b rfl,.ec zM hF5 rfl,.ec zM hF5 rfl,.b rfl,.ec zM hF5 rfl,.ec zM hF5 rfl,.b rfl,.ec zM hF5 rfl,.ec zM hF5 rfl,trivial⟩,trivial⟩ (.g [.s (.v px),.s (.v py),.s (.v pz)]) 100 (λFO2 hO2=>?_);cbv;refine aP hc ⟨o1,p6,o1,p0,o1,p3,trivial⟩ ?_;refine cY hc aJ2 kO ⟨⟨.b rfl,.ec zM hF5 rfl,.ec zM hF5 rfl,.b rfl,.ec zM hF5 rfl,.ec zM hF5 rfl,.b rfl,.ec zM hF5 rfl,.ec zM hF5 rfl,trivial⟩,trivial⟩ (.g [.s (.v px),.s (.v py),.s (.v pz)]) 100 (λFO3 hO3=>?_);cbv;refine dC hc _ rfl rfl rfl [] (m:=3) (bytes:=144) (G:=G) (GK:=GK) hG hGK rfl rfl rfl rfl rfl rfl rfl rfl rfl rfl rfl rfl rfl rfl 1 (λne le hne hle=>?_);cbv;refine gX hc zG zV 0 ?_;cbv;refine gK 140 (G:=G) (GK:=GK) (e:=38) (sz:=9) rfl rfl hG hGK [] rfl (λae ce=>?_);apply zN hc;cbv;refine aP hc ⟨o3,trivial⟩ ?_;have hut:u=t:=by rw[he,htk]at hui;exact(Option.some.inj hui).symm
   have eN:ne=nD i:=by rw[hne,hnD,hnD,hmi,he,aXd,List.length_append];rfl
   have eW:le=W i:=by
    rw[hle,hW,hW,hmi,he,aXd,aJg,List.map_append];congr 1;show _=[Value.string (aA P.x),.string (aA P.y),.string (aA P.z),.string (aA t.b.x),.string (aA t.b.y),.string (aA t.b.z),.string (aA t.c.x),.string (aA t.c.y),.string (aA t.c.z),.string (aA t.a.x),.string (aA t.a.y),.string (aA t.a.z),.string (aA P.x),.string (aA P.y),.string (aA P.z),.string (aA t.c.x),.string (aA t.c.y),.string (aA t.c.z),.string (aA t.a.x),.string (aA t.a.y),.string (aA t.a.z),.string (aA t.b.x),.string (aA t.b.y),.string (aA t.b.z),.string (aA P.x),.string (aA P.y),.string (aA P.z)]
    rw[hut]at g0 g1 g2 g3 g4 g5 g6 g7 g8;simp only[SE.den,IE.den,aV,Int.toNat_natCast,Nat.zero_add,<-he,g0,g1,g2,g3,g4,g5,g6,g7,g8,hpx,hpy,hpz]
   subst eN;subst eW;let y:ι:=⟨⟨i,ae,0,ce⟩,by show i<=N;omega⟩;refine zU 14 (S':=I y) (K':=K1) zL (by rw[hK1];exact⟨⟨zM,KFr.at zV _⟩,trivial⟩) ⟨by rw[hG];exact OFr.rv _ _ _ _ _ _ _,trivial⟩ (hy y (by show i<m;omega))
  ·have he:i≠k:=λe=>absurd (show(BE.eq (.n i) (.n k)).den=true from decide_eq_true (congrArg Int.ofNat e)) (by rw[he];decide)
   cbv;refine aP hc ⟨o1,o2,trivial⟩ ?_;refine bT hc _ rfl rfl rfl (pre:=[]) (m:=1) (bytes:=144) (G:=G) hG rfl rfl rfl rfl rfl rfl rfl rfl rfl rfl rfl rfl rfl rfl zW zW (λae ne ce le hne hle=>?_);cbv;apply zN hc;cbv;refine aP hc ⟨o3,trivial⟩ ?_;have eN:ne=nD i:=by rw[hne,hnD,hnD,hmi,aXe hui he,List.length_append];rfl
   have eW:le=W i:=by
    rw[hle,hW,hW,hmi,aXe hui he,aJg,List.map_append];congr 1;show _=[Value.string (aA u.a.x),.string (aA u.a.y),.string (aA u.a.z),.string (aA u.b.x),.string (aA u.b.y),.string (aA u.b.z),.string (aA u.c.x),.string (aA u.c.y),.string (aA u.c.z)]
    simp only[SE.den,IE.den,aV,Int.toNat_natCast,Nat.zero_add,g0,g1,g2,g3,g4,g5,g6,g7,g8]
   subst eN;subst eW;let y:ι:=⟨⟨i,ae,0,ce⟩,by show i<=N;omega⟩;refine zU 14 (S':=I y) (K':=K1) zL (by rw[hK1];exact⟨⟨zM,KFr.at zV _⟩,trivial⟩) ⟨by rw[hG];exact OFr.rv _ _ _ _ _ _ _,trivial⟩ (hy y (by show i<m;omega))
 ·have hm0:m=0:=by
   have h:=BE.le_f h
   simp only[IE.den]at h;omega
  subst hm0;have hd0:DL l k t P 0=lO l k t P:=by unfold DL lO;rw[if_neg (Nat.not_lt_zero _)];rfl
  have hn0:nD 0=N+2:=by
   rw[hnD,hd0];unfold lO;simp only[List.length_append,List.length_reverse,List.length_drop,List.length_take,List.length_cons,List.length_nil];omega
  have hw0:W 0=(dR (lO l k t P)).map Value.string:=by rw[hW,hd0]
  have sa:=Bool.and_eq_true_iff.1 ha0.symm
  obtain⟨tv,e,fx,fy,fz,r1,r2⟩:=aRl (hh:=h0) (tt:=t0) (d:=x0) hle hlen hN0 bCj htk hPs hPl sa.1 sa.2 hq0.symm;obtain⟨RM,hRM⟩:=nm (rowS (N+2) (dR (lO l k t P)));have bCo:∀{v:Value} {X:Nat->Prop} {w:World},(aLm (nD 0) (W 0)).p v X w->RM.p v X w:=λh=>by rw[hn0,hw0]at h;rw[hRM];exact h
  have kv1:∀{X:Nat->Prop} {w:World} {v:Value},(∀b,X b->b<w.heap.size)->RS.p v X w->Fn PP 19 [v,.agg #[.string h0,.string t0],.string x0] X w (dN (.tuple #[.string tv,.int .i64 e])):=λhX hv=>by rw[hRS,hLl]at hv;exact r1.vol hX hv
  have km1:∀{X:Nat->Prop} {w:World} {v:Value},(∀b,X b->b<w.heap.size)->RS.p v X w->Fn PP 24 [v,.agg #[.string h0,.string t0],.string x0] X w (dN (.tuple #[.agg #[.string fx,.string fy,.string fz],.int .i64 e])):=λhX hv=>by rw[hRS,hLl]at hv;exact r1.mom hX hv
  have kv2:∀{X:Nat->Prop} {w:World} {v:Value},(∀b,X b->b<w.heap.size)->RM.p v X w->Fn PP 19 [v,.agg #[.string h0,.string t0],.string x0] X w (dN (.tuple #[.string tv,.int .i64 e])):=λhX hv=>by rw[hRM]at hv;exact r2.vol hX hv
  have km2:∀{X:Nat->Prop} {w:World} {v:Value},(∀b,X b->b<w.heap.size)->RM.p v X w->Fn PP 24 [v,.agg #[.string h0,.string t0],.string x0] X w (dN (.tuple #[.agg #[.string fx,.string fy,.string fz],.int .i64 e])):=λhX hv=>by rw[hRM]at hv;exact r2.mom hX hv
  have kc1:∀{X:Nat->Prop} {w:World} {v:Value},RS.p v X w->Fn PP 14 [v] X w RS:=λ{X} {w} {v} hv=>by
   rw[hRS]at hv |-;exact aLn hL zW hv
  have kc2:∀{X:Nat->Prop} {w:World} {v:Value},RM.p v X w->Fn PP 14 [v] X w RM:=λ{X} {w} {v} hv=>by
   rw[hRM]at hv |-;exact aLn (by rw[fM,<-hd0,<-hnD,hn0]) zW hv
  clear r1 r2 hRM;refine dW (sz:=9) (hG _ _ _ _) (pre:=[]) ?_;apply zN hc;cbv;refine iK hc (R:=RS) nI (λD X μ a w aK H hv=>?_) 100 ?_
  ·obtain⟨u,rfl,e⟩:=aX hv;exact kc1 (by rw[hRS];exact H.rowT rfl e hQL hf cR)
  cbv;refine qQ hc (.t [.s (.v tv),.i .i64 (.v e)]) xR (λD X μ a w aK H hv=>?_) 100 ?_
  ·obtain⟨w1,w2,w3,rfl,e1,e2,e3⟩:=eS hv;rw[show w2=_ from(Option.some.inj e2).symm,show w3=_ from(Option.some.inj e3).symm];exact kv1 H.xlt (H.val (R:=RS) (.head _) e1)
  cbv;refine cM hc _ 0 ?_;cbv;refine cM hc _ 0 ?_;cbv;refine zE ?_;cbv;refine iK hc (R:=RM) nI (λD X μ a w aK H hv=>?_) 100 ?_
  ·obtain⟨u,rfl,e⟩:=aX hv;rw[jH e];exact kc2 (bCo (H.cst zM))
  cbv;refine qQ hc (.t [.s (.v tv),.i .i64 (.v e)]) xR (λD X μ a w aK H hv=>?_) 100 ?_
  ·obtain⟨w1,w2,w3,rfl,e1,e2,e3⟩:=eS hv;rw[show w2=_ from(Option.some.inj e2).symm,show w3=_ from(Option.some.inj e3).symm];exact kv2 H.xlt (H.val (R:=RM) (.head _) e1)
  cbv;refine cM hc _ 0 ?_;cbv;refine cM hc _ 0 ?_;cbv;refine zE ?_;cbv;refine iK hc (R:=RS) nI (λD X μ a w aK H hv=>?_) 100 ?_
  ·obtain⟨u,rfl,e⟩:=aX hv;exact kc1 (by rw[hRS];exact H.rowT rfl e hQL hf cR)
  cbv;refine qQ hc (.t [.g [.s (.v fx),.s (.v fy),.s (.v fz)],.i .i64 (.v e)]) aBb (λD X μ a w aK H hv=>?_) 3 ?_
  ·obtain⟨w1,w2,w3,rfl,e1,e2,e3⟩:=eS hv;rw[show w2=_ from(Option.some.inj e2).symm,show w3=_ from(Option.some.inj e3).symm];exact km1 H.xlt (H.val (R:=RS) (.head _) e1)
  cbv;refine fJ hc _ ?_;cbv;refine aA6 hc 10 zG zV zV rfl 100 ?_;cbv;refine iK hc (R:=RM) nI (λD X μ a w aK H hv=>?_) 100 ?_
  ·obtain⟨u,rfl,e⟩:=aX hv;rw[jH e];exact kc2 (bCo (H.cst zM))
  cbv;refine qQ hc (.t [.g [.s (.v fx),.s (.v fy),.s (.v fz)],.i .i64 (.v e)]) aBb (λD X μ a w aK H hv=>?_) 3 ?_
  ·obtain⟨w1,w2,w3,rfl,e1,e2,e3⟩:=eS hv;rw[show w2=_ from(Option.some.inj e2).symm,show w3=_ from(Option.some.inj e3).symm];exact km2 H.xlt (H.val (R:=RM) (.head _) e1)
  cbv;refine fJ hc _ ?_;cbv;refine aA6 hc 10 zG zV zV rfl 100 ?_;cbv;have y1:(BE.eq (.v e) (.v e)).den=true:=decide_eq_true rfl;have y2:∀s:ByteArray,(BE.seq (.v s) (.v s)).den=true:=λs=>by rw[xC];simp
  have y3:((BE.seq (.v fx) (.v fx)).and ((BE.seq (.v fy) (.v fy)).and (BE.seq (.v fz) (.v fz)))).den=true:=by
   show((BE.seq (.v fx) (.v fx)).den&&((BE.seq (.v fy) (.v fy)).den&&(BE.seq (.v fz) (.v fz)).den))=true
   rw[y2,y2,y2];rfl
  refine bV 183 rfl rfl 100 (λ_=>?_) (λh=>absurd ((y2 _).symm.trans h) zV);cbv;refine bV 188 rfl rfl 100 (λ_=>?_) (λh=>absurd (y1.symm.trans h) zV);cbv;refine bV 193 rfl rfl 100 (λ_=>?_) (λh=>absurd (y3.symm.trans h) zV);cbv;refine aR hc hR rfl (λX μ a w v' H hv'=>?_);rw[hRR,fW hv'];exact congrArg Value.bool y1
end Go.Ai
namespace Go.Proofs.YtmnancfboococaaGreatDoor
open Go Go.ChangeShapes Go.WideShapes Go.ChangeAt Go.WideElems Go.RowKit
section
variable {H:Type}{enc:TypeId × Value->H}
variable {w:World}{base:Nat}{sp:Nat->Bool}{held:Bool}{n:Nat}{cs:List Value}{x:DataW H × List MemPlace}
theorem c58:Tryz.prog.cellsOf 58=3:=zG
theorem aQa (h:DataW.trod enc Tryz.prog w base sp held n 26 cs=some x):∃a b:ByteArray,cs=[.string a,.string b]:=by
 obtain⟨y0,y1,k,_,hl,e0,e1⟩:=trod_struct2 Tryz.underlying26 h;dsimp only at e0 e1;rw[c24]at e0 e1;rw[c26]at hl;obtain⟨a,ea,_⟩:=DataW.trod_string Tryz.underlying24 e0;obtain⟨b,eb,_⟩:=DataW.trod_string Tryz.underlying24 e1;refine⟨a,b,?_⟩;rcases cs with _ | ⟨x0,_ | ⟨x1,_ | ⟨x2,l⟩⟩⟩<;>simp at hl ea eb
 rw[ea,eb]
theorem aJp (h:DataW.trod enc Tryz.prog w base sp held n 58 cs=some x):∃a b c:ByteArray,cs=[.string a,.string b,.string c]:=by
 obtain⟨xs,m,_,_,hl,hn,hel⟩:=DataW.trod_array Tryz.underlying58 h;rw[c58]at hl;have one:∀i,i<3->∃s:ByteArray,cs[i]?=some (.string s):=by
  intro i hi;have h1:=hel i hi;rw[List.getElem?_eq_getElem (show i<xs.length by omega),c24]at h1;obtain⟨s,e,_⟩:=DataW.trod_string Tryz.underlying24 h1;have:=congrArg (·[0]?) e;exact⟨s,by simpa[List.getElem?_take,List.getElem?_drop]using this⟩
 obtain⟨a,ha⟩:=one 0 zV;obtain⟨b,hb⟩:=one 1 zV;obtain⟨c,hc⟩:=one 2 zV;clear one hel;rcases cs with _ | ⟨x0,_ | ⟨x1,_ | ⟨x2,_ | ⟨x3,l⟩⟩⟩⟩<;>simp at hl ha hb hc
 exact⟨a,b,c,by rw[ha,hb,hc]⟩
end
end Go.Proofs.YtmnancfboococaaGreatDoor
namespace Go.Proofs.YtmnancfboococaaGreatDoor
open Go Go.ChangeShapes Go.WideShapes Go.ChangeAt Go.WideElems Go.RowKit
theorem laidOut:laidOutB Tryz.prog=true:=zG
theorem bEd:mapsRowed Tryz.prog=true:=zG
theorem aOt:Tryz.prog.inPlace 6=Rows.floatDividesRow.inPlace:=zG
theorem aF4:Tryz.prog.unfollowed 6=true:=zG
theorem aKq:Tryz.prog.recurses 6=true:=zG
theorem aVy:Tryz.prog.varsNamed 6=Rows.floatDividesRow.named:=zG
theorem aZl:false=Rows.floatDividesRow.goesBy Tryz.pinned.checked.prog:=zG
theorem aVx:true=Tryz.pinned.checked.prog.looks []:=zG
theorem aRz:joinedFacts Tryz.prog 6 Tryz.f6 Rows.floatDividesSpec Rows.floatDividesRow=true:=by
 unfold joinedFacts;rw[laidOut,bEd,aOt,aF4,aKq,aVy]
 kernel_rfl
theorem own:ownKnob Tryz.prog.godebug=none:=zG
theorem aRo (os:Os)(args:Array Value):laidMetH Tryz.prog Rows.floatDividesRow.laid ((World.doorLaid Tryz.prog 62 os).forCall (λ_ _=>0) ⟨#[],args,[]⟩).memory:=
 laidMetH_of_parts3 (fuel:=8) (laidMet_of_run' 8 zG zG) zG zG
theorem aVz {W:World}(hL:laidMetH Tryz.prog Rows.floatDividesRow.laid W)(hsh:W.ShapedOpen Tryz.prog):Ai.Glob Tryz.prog W:=by
 refine⟨?_,?_⟩
 ·obtain⟨m,hm⟩:=cell_of_shapedOpen_int (g:=0) (zero:=#[.int .i64 0]) (t:=3) hsh (of_decide_eq_true zG) zG rfl zG zG Tryz.underlying3;obtain⟨cs,hh,hs,_⟩:=hsh.1 0 #[.int .i64 0] 3 (of_decide_eq_true zG) zG;refine⟨m,?_⟩;unfold World.var?;rw[show Tryz.prog.globalNamed "internal/bytealg.MaxLen"=some 0 by kernel_rfl];simp only[Option.bind_some,hh];simp only[World.cell?,hh]at hm;obtain⟨l⟩:=cs;match l,hs,hm with
  | [c],_,hm=>
   simp at hm;rw[hm]
 ·rw[MakeChecks.laidMetH_plain _ _ _ zG]at hL;exact Lib.tabIs_of_head (k:=.u64) (zs:=Lib.pow10Tab) (g:=3) (t:=364) (e:=181) (n:=20) zG zG Tryz.underlying364 Tryz.underlying181 zG zG (laidMet.tail (laidMet.tail hL))
set_option maxRecDepth 100000 in
theorem lifted (os:Os)(started:os.Started)(H:Type)(enc:TypeId × Value->H):
  ReturnsInHanded {} Tryz.checked os 6 .any (λw args=>(Rows.floatDividesSpec.pre enc Tryz.prog Tryz.f6 [] false w args/\laidMetH Tryz.prog Rows.floatDividesRow.laid w)/\sizedMet enc Tryz.prog Tryz.f6 (OpenSpec.ofChange Rows.floatDividesSpec) false w args)
   (Rows.floatDividesSpec.post enc Tryz.prog Tryz.f6 false true false false):=by
 refine aJx (C:=Tryz.checked) (X:=λw _=>laidMetH Tryz.prog Rows.floatDividesRow.laid w) (λ_ _ _ hh h=>h.of_heap hh) own started zG Tryz.func6
  (ChangeSpec.witness_shaped (enc:=enc) (C:=Tryz.checked) (os:=os) (X:=λw _=>laidMetH Tryz.prog Rows.floatDividesRow.laid w) false (World.doorLaid Tryz.prog 62 os) #[.slice none 0 0,.agg #[.string ⟨#[]⟩,.string ⟨#[]⟩],.agg #[.string ⟨#[]⟩,.string ⟨#[]⟩,.string ⟨#[]⟩]] 8 rfl (World.shaped_of_RefB zG zG) zG zG zG (aRo os _)) ?_
 intro W base args ds gs before aXu hW hz0 hL hsh;have tX:∀(j:Nat) t v,Tryz.f6.params[j]?=some t->args[j]?=some v->Value.okWide Tryz.prog W .any base t v:=aXu;have hz:(DataW.weightsEach Tryz.prog (Tryz.f6.params.toList++Rows.floatDividesSpec.plain.varTypes Tryz.prog) (ds++gs)).all (·<=reachBytes)=true:=hz0;have hW':=hW;obtain⟨p,q,hA0,hV,rfl,hfz,hnd⟩:=hW;have hA:DataW.TrodAll enc Tryz.prog W 0 (λ_=>true) true Tryz.f6.params.toList args.toList ds p:=hA0;rw[Tryz.params6]at hA tX hz;obtain⟨v0,v1,v2,d0,d1,d2,p0,p1,p2,rfl,rfl,rfl,h0,h1,h2⟩:=trodAll_three hA;obtain⟨rfl,rfl⟩:=trodVars_none hV;clear hA0 aXu hz0;obtain⟨L,N,hLN,hN,jI⟩:=aO7 (tX 0 23 v0 rfl rfl) (λes sp e=>sized_slice (j:=0) hz rfl (by rw[e];rfl) Tryz.underlying23) h0;have w1:=tX 1 26 v1 rfl rfl;have w2:=tX 2 58 v2 rfl rfl;simp only[Value.okWide,Tryz.underlying26]at w1;simp only[Value.okWide,Tryz.underlying58]at w2;obtain⟨c1,e1,_⟩:=w1;obtain⟨c2,e2,_⟩:=w2;obtain⟨_,h1'⟩:=id h1;obtain⟨_,h2'⟩:=id h2;obtain⟨a,b,e3⟩:=aQa h1';obtain⟨x,y,z,e4⟩:=aJp h2';have e5:=aHn e1 e3;have e6:=aHn e2 e4;clear e1 e2 e3 e4 h1' h2';subst e5;subst e6;refine Calls.mono (Ai.lDivides hLN hN a b x y z (λ_ h=>h) jI (aVz hL hsh)) ?_;rintro e W' ⟨v,X',rfl,hb,_,_,hr⟩;obtain rfl:v=.bool true:=hr;have hlt:=hW'.lt;refine⟨_,rfl,_,_,_,[],_,[],hW',trodAll_mk1 (shut_bool Tryz.underlying4 _),⟨p0,_,Below.trod laidOut zG (of_decide_eq_true zG) h0 hb (λx hx=>hlt x (by simp[hx])),⟨p1,_,Below.trod laidOut zG (of_decide_eq_true zG) h1 hb (λx hx=>hlt x (by simp[hx])),⟨p2,[],Below.trod laidOut zG (of_decide_eq_true zG) h2 hb (λx hx=>hlt x (by simp[hx])),rfl,rfl⟩,rfl⟩,rfl⟩,rfl,hb.frame _,λh=>by cases h⟩
theorem uU:Rows.FloatDividesSaid:=
 OpenClaim.holds_of_wide 6 Tryz.f6 rfl rfl rfl rfl rfl rfl rfl ⟨rfl,rfl,rfl,rfl,rfl⟩ rfl rfl rfl rfl rfl zG Tryz.func6 aRz
  (of_decide_eq_true zG) (by unfold Func.isWrapper;first | (rw[if_pos (by decide+kernel)];kernel_rfl) | (rw[if_neg (by decide+kernel)];exact⟨rfl,rfl⟩))
  (λos started H enc _=>lifted os started H enc)
theorem floatDivides_card:Rows.FloatDividesCardSaid:=
 Claim7.holds_tied_plain_at .later [] [.data,.data,.data,.sentinel,.sentinel] true (true,"c950a4b405ece2c7bb5a9d3963c7cff2c826d70397d4f6407373dce119441a08") true
  uU (λ_ h=>by cases h) zG (λ_ h=>by cases h) floatDivides_row_tie rfl ⟨rfl,rfl⟩ zG rfl
  (λf fn hf hfn=>by
   obtain rfl:f=6:=Option.some.inj ((show Tryz.prog.funcNamed "garboard/garboardlaw17.FloatDivides"=some 6 by kernel_rfl).symm.trans hf) |>.symm;obtain rfl:fn=Tryz.f6:=(Option.some.inj (Tryz.func6.symm.trans hfn)).symm;exact⟨aVx,λj t ht=>by
    rw[Tryz.params6]at ht;have hm:t∈[23,26,58]:=by simpa using Array.mem_of_getElem? ht
    have cI:([23,26,58].all λu=> !Tryz.prog.wantsStandIn u)=true:=zG
    exact(show Tryz.prog.wantsStandIn t=false by simpa using List.all_eq_true.1 cI t hm)⟩)
  aZl
end Go.Proofs.YtmnancfboococaaGreatDoor
