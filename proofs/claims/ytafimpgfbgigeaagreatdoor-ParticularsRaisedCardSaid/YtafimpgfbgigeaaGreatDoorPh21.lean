/- Part 22: lemmas for the particulars laws -/
import Derived.Test.YtafimpgfbgigeaaGreatDoorPh20
set_option linter.all false
namespace Go.Ai
open Go Go.Proofs Go.Num Go.Lib V3
theorem fD.argB {P:Program}{g:Nat}{b:Bool}{rs:List RV1}{R:RV}(h:fD P g (.one (.b (.l b))::rs) R):fD P g (.one (.x (eE (.bool b)))::rs) R:=λargs X w hX hp=>by
 match args,hp with
 | v::vs,⟨⟨_,hv⟩,hr⟩=>exact h (v::vs) X w hX ⟨hv,hr⟩
theorem bGe (y:Int):fD PP 182 [zIt y] (.sg (zIt (-y))):=by
 have:=bGd (b:=decide (y<0)) (b':=decide (-y<0)) (n:=y.natAbs) (by rw[Bool.eq_iff_iff];simp only[Bool.and_eq_true,Bool.not_eq_true',decide_eq_true_eq,decide_eq_false_iff_not,ne_eq];omega)
 unfold zIt;rw[Int.natAbs_neg];exact this
theorem aSo:aB PP 259:=zK
theorem bDf {x y:Int}(hx:(aC x.natAbs).length<2^39)(hy:(aC y.natAbs).length<2^39):fD PP 259 [zIt x,zIt y] (.sg (zIt (x - y))):=by
 have k2:=(aV9 hx (y:=-y) (by rw[Int.natAbs_neg];exact hy)).hide
 rw[<-Int.sub_eq_add_neg]at k2;refine fD.unhide (dP mixed tok [cP 0 0 2,cP 1 0 2] Tryz.func259 λc G K hG hK hc hR=>?_);apply zN hc;cbv;refine aS hc hK (λm=>cP m 0 2) (bGe y).hide aSp rfl rfl 100 λK hK _=>?_;cbv;refine aS hc hK (λm=>cP m 0 2) k2 aG7 rfl rfl 100 λK hK _=>?_;cbv;refine zE ?_;cbv;exact cT hc hK hG hR
theorem aZx (z:Int):fD PP 98 [zIt z] (.sg (.one (.i .i64 (.v (bD z 0))))):=
 aIk (by unfold bD;by_cases h:z<0<;>by_cases h':z=0<;>simp[h,h']<;>omega)
theorem bAp:aB PP 240:=zK
theorem bIz {x y:Int}(hx:(aC x.natAbs).length<2^39)(hy:(aC y.natAbs).length<2^39):fD PP 240 [zIt x,zIt y] (.sg (.one (.i .i64 (.v (bD x y))))):=by
 have k1:=(bDf hx hy).hide
 have k2:=(aZx (x - y)).hide
 rw[show bD (x - y) 0=bD x y by unfold bD;split<;>split<;>(try split)<;>(try split)<;>omega]at k2;generalize bD x y=r at *;refine fD.unhide (dP mixed tok [cP 0 0 2,cP 1 0 2] Tryz.func240 λc G K hG hK hc hR=>?_);apply zN hc;cbv;refine bQ hc hK (λm=>cP m 0 2) k1 aSo rfl rfl 100 λK hK _=>?_;cbv;refine bQ hc hK (λ_=>.i .i64 (.v r)) k2 qH rfl rfl 100 λK hK _=>?_;cbv;exact cT hc hK hG hR
def qX (q:Rat):RV1:=(RV1.agg (qC q)).hide
def vX (v:V3):RV1:=(vI v).hide
theorem wR {a b:Rat}(ha:sz a<=2^29)(hb:sz b<=2^29):fD PP 56 [qX a,qX b] (.sg (qX (a*b))):=(bIm ha hb).hide
theorem aEy {a b:Rat}(ha:sz a<=2^29)(hb:sz b<=2^29):fD PP 59 [qX a,qX b] (.sg (qX (a+b))):=(bFw ha hb).hide
theorem aYo {a b:Rat}(ha:sz a<=2^29)(hb:sz b<=2^29):fD PP 68 [qX a,qX b] (.sg (qX (a - b))):=(bIo ha hb).hide
theorem xTo {a:Rat}(ha:sz a<=2^29):fD PP 55 [qX a] (.sg (.one (.s (.v (aA a))))):=(bIp ha).hide
theorem sJ {a:ByteArray}(hs:a.size<=2^34):fD PP 35 [.one (.s (.v a))] (.tp [qX (aQ a),.one (.b (.l (cA a)))]):=(bCg hs).hide
theorem kY:aB PP 52:=zK
theorem aEl (q:Rat):fD PP 52 [qX q] (.sg (.one (.i .i64 (.v (bD q.num 0))))):=by
 have k:=(aZx q.num).hide
 generalize bD q.num 0=r at *;refine dP mixed tok [cP 0 0 3] Tryz.func52 λc G K hG hK hc hR=>?_;apply zN hc;cbv;refine bQ hc hK (λ_=>.i .i64 (.v r)) k qH rfl rfl 100 λK hK _=>?_;cbv;exact cT hc hK hG hR
theorem bAo:aB PP 73:=zK
theorem bIy {q:Rat}(h0:q≠0):fD PP 73 [qX q] (.sg (qX q⁻¹)):=by
 have hn:q.num≠0:=λh=>h0 (Rat.num_eq_zero.1 h)
 obtain⟨i1,i2⟩:=aF2 h0;have hd:=q.den_pos;have e:q⁻¹.num.natAbs=q.den/\q⁻¹.den=q.num.natAbs/\decide (q⁻¹.num<0)=decide (q.num<0):=by
  rcases Int.lt_or_gt_of_ne hn with h | h
  ·obtain⟨e1,e2⟩:=i1 h;rw[e1,e2];exact⟨zW,rfl,by rw[decide_eq_decide];omega⟩
  ·obtain⟨e1,e2⟩:=i2 h;rw[e1,e2];exact⟨zW,rfl,by rw[decide_eq_decide];omega⟩
 have km:=(aBd (b:=decide (q.num<0)) (b':=decide (q.num<0)) (n:=q.den) (by rw[decide_eq_true (show q.den≠0 by omega),Bool.and_true])).argB.hide
 have e':qX q⁻¹=.agg [.x (eE (.bool (decide (q.num<0)))),.x (aI q.den),.x (aI q.num.natAbs)]:=by
  unfold qX qC;rw[e.1,e.2.1,e.2.2];rfl
 rw[e'];clear e' e i1 i2 h0 hn hd;refine dP mixed tok [cP 0 0 3] Tryz.func73 λc G K hG hK hc hR=>?_;apply zN hc;cbv;refine aS hc hK (λm=>cP m 0 2) km jB rfl rfl 100 λK hK _=>?_;cbv;refine zE ?_;cbv;exact cT hc hK hG hR
theorem sY:aB PP 82:=zK
theorem aRh {x y:Rat}(h0:y≠0)(hx:sz x<=2^29)(hy:sz y<=2^29):fD PP 82 [qX x,qX y] (.sg (qX (x/y))):=by
 have k2:=wR hx (lTr (aNo y) hy)
 rw[<-Rat.div_def]at k2;refine dP mixed tok [cP 0 0 3,cP 1 0 3] Tryz.func82 λc G K hG hK hc hR=>?_;apply zN hc;cbv;refine aS hc hK (λm=>cP m 0 3) (bIy h0) bAo rfl rfl 100 λK hK _=>?_;cbv;refine aS hc hK (λm=>cP m 0 3) k2 iL rfl rfl 100 λK hK _=>?_;cbv;refine zE ?_;cbv;exact cT hc hK hG hR
theorem bAn:aB PP 214:=zK
theorem bIx {x y:Rat}(hx:sz x<=2^29)(hy:sz y<=2^29):fD PP 214 [qX x,qX y] (.sg (.one (.i .i64 (.v (jJ x y))))):=by
 have a1:dl x.num.natAbs<=2^29:=lTr (Nat.le_max_left _ _) hx
 have a2:dl x.den<=2^29:=lTr (Nat.le_max_right _ _) hx
 have b1:dl y.num.natAbs<=2^29:=lTr (Nat.le_max_left _ _) hy
 have b2:dl y.den<=2^29:=lTr (Nat.le_max_right _ _) hy
 have c1:=lTr (cX x.num.natAbs) a1
 have c2:=lTr (cX x.den) a2
 have c3:=lTr (cX y.num.natAbs) b1
 have c4:=lTr (cX y.den) b2
 have ks1:=aEl x
 have ks2:=aEl y
 have kt1:=fD.of2 dZ (rV (lTr c1 zV) (lTr c4 zV))
 have kt2:=fD.of2 dZ (rV (lTr c3 zV) (lTr c2 zV))
 have km1:=(uX (z:=x.num) y.den_pos).argB.hide
 have km2:=(uX (z:=y.num) x.den_pos).argB.hide
 have kc:=(bIz (x:=x.num*y.den) (y:=y.num*x.den) (by rw[Int.natAbs_mul,Int.natAbs_natCast];exact Nat.lt_of_le_of_lt (iV c1 c4) zV) (by rw[Int.natAbs_mul,Int.natAbs_natCast];exact Nat.lt_of_le_of_lt (iV c3 c2) zV)).hide
 rw[xI]at kc;have hs:bD x.num 0≠bD y.num 0->jJ x y=if bD x.num 0<bD y.num 0 then -1 else 1:=λh=>by
  rw[<-xI];have p1:(0:Int)<x.den:=by have:=x.den_pos;omega
  have p2:(0:Int)<y.den:=by have:=y.den_pos;omega
  have e1:bD (x.num*y.den) 0=bD x.num 0:=by
   rcases aHc x.num with⟨h1,h2⟩ | ⟨h1,h2⟩ | ⟨h1,h2⟩
   ·rw[h1];unfold bD;rw[if_pos (Int.mul_neg_of_neg_of_pos h2 p2)]
   ·rw[h2];simp
   ·rw[h1];unfold bD;have:=Int.mul_pos h2 p2;rw[if_neg zW,if_pos this]
  have e2:bD (y.num*x.den) 0=bD y.num 0:=by
   rcases aHc y.num with⟨h1,h2⟩ | ⟨h1,h2⟩ | ⟨h1,h2⟩
   ·rw[h1];unfold bD;rw[if_pos (Int.mul_neg_of_neg_of_pos h2 p1)]
   ·rw[h2];simp
   ·rw[h1];unfold bD;have:=Int.mul_pos h2 p1;rw[if_neg zW,if_pos this]
  rw[<-e1,<-e2]at h |-;generalize x.num*y.den=u at *;generalize y.num*x.den=v at *;rcases aHc u with⟨h1,h2⟩ | ⟨h1,h2⟩ | ⟨h1,h2⟩<;>rcases aHc v with⟨h3,h4⟩ | ⟨h3,h4⟩ | ⟨h3,h4⟩<;>rw[h1,h3]at h |-<;>(try exact absurd rfl h)<;>unfold bD<;>(first | rw[if_pos zW];rfl | rw[if_neg zW,if_pos zW];rfl)
 clear a1 a2 b1 b2 c1 c2 c3 c4;obtain⟨r,hr⟩:=nm (jJ x y);obtain⟨s,hs1⟩:=nm (bD x.num 0);obtain⟨t,ht1⟩:=nm (bD y.num 0);rw[<-hr]at kc hs |-;rw[<-hs1]at ks1 hs;rw[<-ht1]at ks2 hs;refine dP mixed tok [cP 0 0 3,cP 1 0 3] Tryz.func214 λc G K hG hK hc hR=>?_;apply zN hc;cbv;refine aS hc hK (λ_=>.i .i64 (.v s)) ks1 kY rfl rfl 100 λK hK _=>?_;cbv;refine aS hc hK (λ_=>.i .i64 (.v t)) ks2 kY rfl rfl 100 λK hK _=>?_;cbv;refine dH hc _ 0 ?_;cbv;refine dH hc _ 0 ?_;cbv;refine zE ?_;cbv;refine aE rfl 100 (λh=>?_) (λh=>?_)
 ·have h:s≠t:=λe=>by simp[BE.den,IE.den,e]at h
  have hs:=hs h
  cbv;refine aE rfl 100 (λh2=>?_) (λh2=>?_)
  ·have h2:s<t:=BE.lt_t h2
   cbv;exact dL hc hG hR rfl (.i (by rw[if_pos h2]at hs;exact hs.symm))
  ·have h2:¬s<t:=BE.lt_f h2
   cbv;exact dL hc hG hR rfl (.i (by rw[if_neg h2]at hs;exact hs.symm))
 clear h hs;cbv;refine aS hc hK (λm=>.ec m 0) kt1 kV rfl rfl 100 λK hK _=>?_;cbv;refine aS hc hK (λm=>cP m 0 2) km1 jB rfl rfl 100 λK hK _=>?_;cbv;refine zE ?_;cbv;refine aS hc hK (λm=>.ec m 0) kt2 kV rfl rfl 100 λK hK _=>?_;cbv;refine aS hc hK (λm=>cP m 0 2) km2 jB rfl rfl 100 λK hK _=>?_;cbv;refine zE ?_;cbv;refine bQ hc hK (λ_=>.i .i64 (.v r)) kc bAp rfl rfl 100 λK hK _=>?_;cbv;exact cT hc hK hG hR
theorem aGz:aB PP 196:=zK
theorem aYt {x y:Rat}(hx:sz x<=2^29)(hy:sz y<=2^29){b:Bool}(hb:b=decide (x<y)):fD PP 196 [qX x,qX y] (.sg (.one (.b (.l b)))):=by
 have k:=bIx hx hy
 rw[<-aHd]at hb;generalize jJ x y=r at *;refine dP mixed tok [cP 0 0 3,cP 1 0 3] Tryz.func196 λc G K hG hK hc hR=>?_;apply zN hc;cbv;refine bQ hc hK (λ_=>.i .i64 (.v r)) k bAn rfl rfl 100 λK hK _=>?_;cbv;exact dL hc hG hR rfl (.b hb.symm)
theorem cN:aB PP 102:=zK
theorem lN {a:ByteArray}(hs:a.size<=2^34){b:Bool}(hb:b=cA a):fD PP 102 [.one (.s (.v a))] (.sg (.one (.b (.l b)))):=by
 have k:=sJ hs
 rw[<-hb]at k;refine dP mixed tok [.s (.v a)] Tryz.func102 λc G K hG hK hc hR=>?_;apply zN hc;cbv;refine bQ hc hK (λm=>.t [cP m 0 3,.b (.l b)]) k fO rfl rfl 100 λK hK _=>?_;cbv;exact cT hc hK hG hR
theorem gN:aB PP 71:=zK
theorem hN {a:ByteArray}(hs:a.size<=2^34):fD PP 71 [.one (.s (.v a))] (.sg (qX (aQ a))):=by
 have k:=sJ hs
 generalize cA a=b at k;refine dP mixed tok [.s (.v a)] Tryz.func71 λc G K hG hK hc hR=>?_;apply zN hc;cbv;refine bQ hc hK (λm=>.t [cP m 0 3,.b (.l b)]) k fO rfl rfl 100 λK hK _=>?_;cbv;exact cT hc hK hG hR
theorem aCi:aB PP 156:=zK
theorem oJ (q:Rat){s:ByteArray}(h:s=aA q)(hs:s.size<=2^34):fD PP 71 [.one (.s (.v s))] (.sg (qX q)):=by
 have:=hN hs
 rw[show aQ s=q by unfold aQ;rw[h,dC];rfl]at this;exact this
theorem aTj {q:Rat}(hq:sz q<=2^29):fD PP 156 [qX q] (.sg (qX (-q))):=by
 have k0:=oJ 0 (s:=⟨#[48]⟩) eS.symm zV
 have k1:=aYo (a:=0) sz0 hq
 rw[show(0:Rat) - q=-q by grind]at k1;refine dP mixed tok [cP 0 0 3] Tryz.func156 λc G K hG hK hc hR=>?_;apply zN hc;cbv;refine aS hc hK (λm=>cP m 0 3) k0 gN rfl rfl 100 λK hK _=>?_;cbv;refine aS hc hK (λm=>cP m 0 3) k1 aCo rfl rfl 100 λK hK _=>?_;cbv;refine zE ?_;cbv;exact cT hc hK hG hR
theorem aR1:aB PP 39:=zK
theorem bA7 {k:Rat}{a:V3}(hk:sz k<=2^29)(ha:a.le (2^29)):fD PP 39 [qX k,vX a] (.sg (vX ⟨k*a.x,k*a.y,k*a.z⟩)):=by
 refine dP mixed tok [cP 0 0 3,cP 1 0 9] Tryz.func39 λc G K hG hK hc hR=>?_;apply zN hc;cbv;refine aS hc hK (λm=>cP m 0 3) (wR hk ha.1) iL rfl rfl 100 λK hK _=>?_;cbv;refine aS hc hK (λm=>cP m 0 3) (wR hk ha.2.1) iL rfl rfl 100 λK hK _=>?_;cbv;refine aS hc hK (λm=>cP m 0 3) (wR hk ha.2.2) iL rfl rfl 100 λK hK _=>?_;cbv;refine zE ?_;cbv;exact cT hc hK hG hR
theorem aWi:aB PP 38:=zK
theorem bEb {u v:V3}(hu:u.le (2^29))(hv:v.le (2^29)):fD PP 38 [vX u,vX v] (.sg (vX (u.add v))):=by
 refine dP mixed tok [cP 0 0 9,cP 1 0 9] Tryz.func38 λc G K hG hK hc hR=>?_;apply zN hc;cbv;refine aS hc hK (λm=>cP m 0 3) (aEy hu.1 hv.1) kW rfl rfl 100 λK hK _=>?_;cbv;refine aS hc hK (λm=>cP m 0 3) (aEy hu.2.1 hv.2.1) kW rfl rfl 100 λK hK _=>?_;cbv;refine aS hc hK (λm=>cP m 0 3) (aEy hu.2.2 hv.2.2) kW rfl rfl 100 λK hK _=>?_;cbv;refine zE ?_;cbv;exact cT hc hK hG hR
theorem aZ6:aB PP 37:=zK
theorem hOut {u:V3}(hu:u.le (2^29)):fD PP 37 [vX u] (.sg (.agg [.s (.v (aA u.x)),.s (.v (aA u.y)),.s (.v (aA u.z))])):=by
 have k1:=xTo hu.1
 have k2:=xTo hu.2.1
 have k3:=xTo hu.2.2
 generalize aA u.x=x,aA u.y=y,aA u.z=z at *;refine dP mixed tok [cP 0 0 9] Tryz.func37 λc G K hG hK hc hR=>?_;apply zN hc;cbv;refine aS hc hK (λ_=>.s (.v x)) k1 kX rfl rfl 100 λK hK _=>?_;cbv;refine aS hc hK (λ_=>.s (.v y)) k2 kX rfl rfl 100 λK hK _=>?_;cbv;refine aS hc hK (λ_=>.s (.v z)) k3 kX rfl rfl 100 λK hK _=>?_;cbv;refine zE ?_;cbv;exact cT hc hK hG hR
theorem aRy:aB PP 88:=zK
theorem bD5 {u v:V3}(hu:u.le (2^26))(hv:v.le (2^26)):fD PP 88 [vX u,vX v] (.sg (qX (u.dot v))):=by
 have m1:=V3.sz_mm hu.1 hv.1
 have m2:=V3.sz_mm hu.2.1 hv.2.1
 have m3:=V3.sz_mm hu.2.2 hv.2.2
 have hu:=hu.mono (show 2^26<=2^29 by decide)
 have hv:=hv.mono (show 2^26<=2^29 by decide)
 have k4:=aEy (lTr m1 zV) (lTr m2 zV)
 have k5:=aEy (lTr (V3.sz_aa m1 m2) zV) (lTr m3 zV)
 refine dP mixed tok [cP 0 0 9,cP 1 0 9] Tryz.func88 λc G K hG hK hc hR=>?_;apply zN hc;cbv;refine aS hc hK (λm=>cP m 0 3) (wR hu.1 hv.1) iL rfl rfl 100 λK hK _=>?_;cbv;refine aS hc hK (λm=>cP m 0 3) (wR hu.2.1 hv.2.1) iL rfl rfl 100 λK hK _=>?_;cbv;refine aS hc hK (λm=>cP m 0 3) k4 kW rfl rfl 100 λK hK _=>?_;cbv;refine aS hc hK (λm=>cP m 0 3) (wR hu.2.2 hv.2.2) iL rfl rfl 100 λK hK _=>?_;cbv;refine aS hc hK (λm=>cP m 0 3) k5 kW rfl rfl 100 λK hK _=>?_;cbv;refine zE ?_;cbv;exact cT hc hK hG hR
theorem aG0:aB PP 36:=zK
theorem aXa {x y z:ByteArray}(hx:x.size<=2^34)(hy:y.size<=2^34)(hz:z.size<=2^34){b:Bool}(hb:b=(cA x&&cA y&&cA z)):fD PP 36 [.agg [.s (.v x),.s (.v y),.s (.v z)]] (.tp [vX ⟨aQ x,aQ y,aQ z⟩,.one (.b (.l b))]):=by
 have k1:=sJ hx
 have k2:=sJ hy
 have k3:=sJ hz
 generalize cA x=o1,cA y=o2,cA z=o3 at *;subst hb;refine dP mixed tok [.g [.s (.v x),.s (.v y),.s (.v z)]] Tryz.func36 λc G K hG hK hc hR=>?_;apply zN hc;cbv;refine bQ hc hK (λm=>.t [cP m 0 3,.b (.l o1)]) k1 fO rfl rfl 100 λK hK _=>?_;cbv;refine bQ hc hK (λm=>.t [cP m 0 3,.b (.l o2)]) k2 fO rfl rfl 100 λK hK _=>?_;cbv;refine bQ hc hK (λm=>.t [cP m 0 3,.b (.l o3)]) k3 fO rfl rfl 100 λK hK _=>?_;cbv;cases o1<;>cases o2<;>(apply zN hc;cbv)<;>exact cT hc hK hG hR
end Go.Ai
namespace Go.Ai
open Go Go.Proofs Go.Num Go.Lib V3
theorem oE:aB PP 154:=zK
theorem xV {x m:Rat}(hx:sz x<=2^29)(hm:sz m<=2^29){b:Bool}(hb:b=(decide (x< -m)||decide (m<x))):fD PP 154 [qX x,qX m] (.sg (.one (.b (.l b)))):=by
 obtain⟨b1,h1⟩:=nm (decide (x< -m));obtain⟨b2,h2⟩:=nm (decide (m<x));have k1:=aYt hx (by rw[qB];exact hm) h1;have k2:=aYt hm hx h2;rw[<-h1,<-h2]at hb;subst hb;cases b1
 ·refine dP mixed tok [cP 0 0 3,cP 1 0 3] Tryz.func154 λc G K hG hK hc hR=>?_;apply zN hc;cbv;refine aS hc hK (λm=>cP m 0 3) (aTj hm) aCi rfl rfl 100 λK hK _=>?_;cbv;refine aS hc hK (λ_=>.b (.l false)) k1 aGz rfl rfl 100 λK hK _=>?_;cbv;refine aS hc hK (λ_=>.b (.l b2)) k2 aGz rfl rfl 100 λK hK _=>?_;cbv;refine zE ?_;cbv;exact cT hc hK hG hR
 ·refine dP mixed tok [cP 0 0 3,cP 1 0 3] Tryz.func154 λc G K hG hK hc hR=>?_;apply zN hc;cbv;refine aS hc hK (λm=>cP m 0 3) (aTj hm) aCi rfl rfl 100 λK hK _=>?_;cbv;refine aS hc hK (λ_=>.b (.l true)) k1 aGz rfl rfl 100 λK hK _=>?_;cbv;refine zE ?_;cbv;exact cT hc hK hG hR
theorem aI1:aB PP 155:=zK
theorem aTl {p:Rat}(hp:sz p<=2^26):fD PP 155 [qX p] (.tp [qX (jK p),qX (gR p)]):=by
 have hp':sz p<=2^29:=lTr hp zV
 have m:=sz_mm hp hp
 have k0:=oJ 1 (s:=⟨#[49]⟩) oW.symm zV
 have k2:=aEy (a:=1) sz1 (lTr m zV)
 have k3:=aYo (a:=1) sz1 (lTr m zV)
 have hw:sz (1+p*p)<=2^29:=lTr (sz_aa aIe m) zV
 have k4:=aRh (x:=1 - p*p) (aDv p) (lTr (sz_ss aIe m) zV) hw
 have k5:=aEy hp' hp'
 have k6:=aRh (x:=p+p) (aDv p) (lTr (sz_aa hp hp) zV) hw
 rw[show p+p=2*p by grind]at k5 k6;change fD _ _ _ (.sg (qX (jK p)))at k4;change fD _ _ _ (.sg (qX (gR p)))at k6;refine dP mixed tok [cP 0 0 3] Tryz.func155 λc G K hG hK hc hR=>?_;apply zN hc;cbv;refine aS hc hK (λm=>cP m 0 3) k0 gN rfl rfl 100 λK hK _=>?_;cbv;refine aS hc hK (λm=>cP m 0 3) (wR hp' hp') iL rfl rfl 0 λK hK _=>?_;cbv;refine fR hc _ ?_;cbv;refine fR hc _ ?_;cbv;refine uR hc zG zV rfl 100 ?_;cbv;refine bQ hc hK (λm=>cP m 0 3) k2 kW rfl rfl 100 λK hK _=>?_;cbv;refine aS hc hK (λm=>cP m 0 3) k3 aCo rfl rfl 100 λK hK _=>?_;cbv;refine aS hc hK (λm=>cP m 0 3) k4 sY rfl rfl 100 λK hK _=>?_;cbv;refine aS hc hK (λm=>cP m 0 3) k5 kW rfl rfl 100 λK hK _=>?_;cbv;refine aS hc hK (λm=>cP m 0 3) k6 sY rfl rfl 100 λK hK _=>?_;cbv;refine zE ?_;cbv;exact cT hc hK hG hR
def vC (v:V3):List CF:=qC v.x++(qC v.y++qC v.z)
def fX (a:At):RV1:=(RV1.agg (vC a.ahead++(vC a.side++vC a.up))).hide
def fZ:RV1:=.agg [.b (.l false),.x (eE (.slice none 0 0)),.x (eE (.slice none 0 0)),.b (.l false),.x (eE (.slice none 0 0)),.x (eE (.slice none 0 0)),.b (.l false),.x (eE (.slice none 0 0)),.x (eE (.slice none 0 0)),.b (.l false),.x (eE (.slice none 0 0)),.x (eE (.slice none 0 0)),.b (.l false),.x (eE (.slice none 0 0)),.x (eE (.slice none 0 0)),.b (.l false),.x (eE (.slice none 0 0)),.x (eE (.slice none 0 0)),.b (.l false),.x (eE (.slice none 0 0)),.x (eE (.slice none 0 0)),.b (.l false),.x (eE (.slice none 0 0)),.x (eE (.slice none 0 0)),.b (.l false),.x (eE (.slice none 0 0)),.x (eE (.slice none 0 0))]
theorem aCh:aB PP 87:=zK
section
variable {h t:ByteArray}(hh:h.size<=2^20)(ht:t.size<=2^20)
include hh ht
theorem aMf (hb:(cA h&&cA t)=false):fD PP 87 [.agg [.s (.v h),.s (.v t)]] (.tp [fZ,.one (.i .i64 (.l 1))]):=by
 have k1:=sJ (lTr hh zV)
 have k2:=sJ (lTr ht zV)
 generalize cA h=o1,cA t=o2 at *;refine dP mixed tok [.g [.s (.v h),.s (.v t)]] Tryz.func87 λc G K hG hK hc hR=>?_;apply zN hc;cbv;refine bQ hc hK (λm=>.t [cP m 0 3,.b (.l o1)]) k1 fO rfl rfl 100 λK hK _=>?_;cbv;refine bQ hc hK (λm=>.t [cP m 0 3,.b (.l o2)]) k2 fO rfl rfl 100 λK hK _=>?_;cbv;cases o1<;>cases o2<;>first
  | exact absurd hb zV
  | (apply zN hc;cbv;exact cT hc hK hG hR)
variable (h1:cA h=true)(h2:cA t=true)
include h1 h2
theorem aMg (hb:At.ok ⟨aQ h,aQ t⟩=false):fD PP 87 [.agg [.s (.v h),.s (.v t)]] (.tp [fZ,.one (.i .i64 (.l 2))]):=by
 have k1:=sJ (lTr hh zV)
 have k2:=sJ (lTr ht zV)
 have s1:sz (aQ h)<=2^29:=lTr (aX hh zV) zV
 have s2:sz (aQ t)<=2^29:=lTr (aX ht zV) zV
 rw[h1]at k1;rw[h2]at k2;have kA:=oJ 1 (s:=⟨#[49]⟩) oW.symm zV;have kB:=oJ (1/2) (s:=⟨#[49,47,50]⟩) aLi.symm zV;obtain⟨b1,e1⟩:=nm (decide (aQ h< -1)||decide (1<aQ h));obtain⟨b2,e2⟩:=nm (decide (aQ t< -(1/2))||decide (1/2<aQ t));have k3:=xV s1 sz1 e1;have k4:=xV s2 (m:=1/2) (by decide+kernel) e2;have hbb:b1=false->b2=false->False:=λf1 f2=>by
  rw[f1]at e1;rw[f2]at e2;simp only[eq_comm (a:=false),Bool.or_eq_false_iff,decide_eq_false_iff_not]at e1 e2;rw[show At.ok ⟨aQ h,aQ t⟩=true from(At.ok_iff _).2 ⟨Rat.not_lt.1 e1.1,Rat.not_lt.1 e1.2,Rat.not_lt.1 e2.1,Rat.not_lt.1 e2.2⟩]at hb;cases hb
 clear e1 e2 hb s1 s2;cases b1
 ·cases b2
  ·exact(hbb rfl rfl).elim
  refine dP mixed tok [.g [.s (.v h),.s (.v t)]] Tryz.func87 λc G K hG hK hc hR=>?_;apply zN hc;cbv;refine bQ hc hK (λm=>.t [cP m 0 3,.b (.l true)]) k1 fO rfl rfl 100 λK hK _=>?_;cbv;refine bQ hc hK (λm=>.t [cP m 0 3,.b (.l true)]) k2 fO rfl rfl 100 λK hK _=>?_;cbv;refine aS hc hK (λm=>cP m 0 3) kA gN rfl rfl 100 λK hK _=>?_;cbv;refine aS hc hK (λ_=>.b (.l false)) k3 oE rfl rfl 100 λK hK _=>?_;cbv;refine aS hc hK (λm=>cP m 0 3) kB gN rfl rfl 100 λK hK _=>?_;cbv;refine aS hc hK (λ_=>.b (.l true)) k4 oE rfl rfl 100 λK hK _=>?_;cbv;refine zE ?_;cbv;exact cT hc hK hG hR
 ·refine dP mixed tok [.g [.s (.v h),.s (.v t)]] Tryz.func87 λc G K hG hK hc hR=>?_;apply zN hc;cbv;refine bQ hc hK (λm=>.t [cP m 0 3,.b (.l true)]) k1 fO rfl rfl 100 λK hK _=>?_;cbv;refine bQ hc hK (λm=>.t [cP m 0 3,.b (.l true)]) k2 fO rfl rfl 100 λK hK _=>?_;cbv;refine aS hc hK (λm=>cP m 0 3) kA gN rfl rfl 100 λK hK _=>?_;cbv;refine aS hc hK (λ_=>.b (.l true)) k3 oE rfl rfl 100 λK hK _=>?_;cbv;refine zE ?_;cbv;exact cT hc hK hG hR
theorem bA5 (hb:At.ok ⟨aQ h,aQ t⟩=true):fD PP 87 [.agg [.s (.v h),.s (.v t)]] (.tp [fX ⟨aQ h,aQ t⟩,.one (.i .i64 (.l 0))]):=by
 have k1:=sJ (lTr hh zV)
 have k2:=sJ (lTr ht zV)
 rw[h1]at k1;rw[h2]at k2;have kA:=oJ 1 (s:=⟨#[49]⟩) oW.symm zV;have kB:=oJ (1/2) (s:=⟨#[49,47,50]⟩) aLi.symm zV;have k0:=oJ 0 (s:=⟨#[48]⟩) eS.symm zV;have s1:sz (aQ h)<=2^20:=aX hh zV;have s2:sz (aQ t)<=2^20:=aX ht zV;obtain⟨f1,f2,f3,f4⟩:=(At.ok_iff _).1 hb;have k3:=xV (x:=aQ h) (m:=1) (lTr s1 zV) sz1 (b:=false) (by rw[eq_comm,Bool.or_eq_false_iff];exact⟨decide_eq_false (Rat.not_lt.2 f1),decide_eq_false (Rat.not_lt.2 f2)⟩);have k4:=xV (x:=aQ t) (m:=1/2) (lTr s2 zV) (by decide+kernel) (b:=false) (by rw[eq_comm,Bool.or_eq_false_iff];exact⟨decide_eq_false (Rat.not_lt.2 f3),decide_eq_false (Rat.not_lt.2 f4)⟩);have k5:=aTl (lTr s1 (show 2^20<=2^26 by decide));have k6:=aTl (lTr s2 (show 2^20<=2^26 by decide));have c1:=nN s1;have c2:=nO s1;have c3:=nN s2;have c4:=nO s2;have m1:=sz_mm c2 c4;have m2:=sz_mm c2 c3;clear f1 f2 f3 f4 hb h1 h2;have big:∀{x:Rat} {n:Nat},sz x<=n->n<=2^29->sz x<=2^29:=λh h'=>lTr h h';refine dP mixed tok [.g [.s (.v h),.s (.v t)]] Tryz.func87 λc G K hG hK hc hR=>?_;apply zN hc;cbv;refine bQ hc hK (λm=>.t [cP m 0 3,.b (.l true)]) k1 fO rfl rfl 100 λK hK _=>?_;cbv;refine bQ hc hK (λm=>.t [cP m 0 3,.b (.l true)]) k2 fO rfl rfl 100 λK hK _=>?_;cbv;refine aS hc hK (λm=>cP m 0 3) kA gN rfl rfl 100 λK hK _=>?_;cbv;refine aS hc hK (λ_=>.b (.l false)) k3 oE rfl rfl 100 λK hK _=>?_;cbv;refine aS hc hK (λm=>cP m 0 3) kB gN rfl rfl 100 λK hK _=>?_;cbv;refine aS hc hK (λ_=>.b (.l false)) k4 oE rfl rfl 100 λK hK _=>?_;cbv;refine zE ?_;cbv;refine bQ hc hK (λm=>.t [cP m 0 3,cP m 3 3]) k5 aI1 rfl rfl 100 λK hK _=>?_;cbv;refine bQ hc hK (λm=>.t [cP m 0 3,cP m 3 3]) k6 aI1 rfl rfl 100 λK hK _=>?_;cbv;refine aS hc hK (λm=>cP m 0 3) (wR (big c2 zV) (big c4 zV)) iL rfl rfl 100 λK hK _=>?_;cbv;refine aS hc hK (λm=>cP m 0 3) (aTj (big m1 zV)) aCi rfl rfl 100 λK hK _=>?_;cbv;refine aS hc hK (λm=>cP m 0 3) (wR (big c1 zV) (big c4 zV)) iL rfl rfl 100 λK hK _=>?_;cbv;refine aS hc hK (λm=>cP m 0 3) k0 gN rfl rfl 100 λK hK _=>?_;cbv;refine aS hc hK (λm=>cP m 0 3) (aTj (big c4 zV)) aCi rfl rfl 100 λK hK _=>?_;cbv;refine aS hc hK (λm=>cP m 0 3) (wR (big c2 zV) (big c3 zV)) iL rfl rfl 100 λK hK _=>?_;cbv;refine aS hc hK (λm=>cP m 0 3) (aTj (big m2 zV)) aCi rfl rfl 100 λK hK _=>?_;cbv;refine aS hc hK (λm=>cP m 0 3) (wR (big c1 zV) (big c3 zV)) iL rfl rfl 100 λK hK _=>?_;cbv;refine zE ?_;cbv;exact cT hc hK hG hR
end
end Go.Ai
namespace Go.Ai
open Go Go.Proofs Go.Num V3
def sl (s:ByteArray):Bool:=decide ((s.size:Int)<=120)
theorem vN {s:ByteArray}(h:sl s=true):s.size<=120:=by unfold sl at h;have:=of_decide_eq_true h;omega
theorem aD9 (s:ByteArray):(BE.lt (.l 120) (.len (.v s))).den= !sl s:=by
 unfold sl;rw[<-decide_not];exact decide_eq_decide.2 (by simp only[IE.den,SE.den];omega)
def Hy.short (H:Hy):Bool:=H.l7.all sl&&(sl H.cx&&sl H.cy&&sl H.cz)
theorem Hy.short_le {H:Hy}(h:H.short=true):H.le (2^20):=by
 simp only[Hy.short,Hy.l7,List.all_cons,List.all_nil,Bool.and_eq_true,and_true]at h;obtain⟨⟨a,b,c,d,e,f,g⟩,⟨x,y⟩,z⟩:=h;exact⟨lTr (vN a) zV,lTr (vN x) zV,lTr (vN y) zV,lTr (vN z) zV,lTr (vN b) zV,lTr (vN c) zV,lTr (vN d) zV,lTr (vN e) zV,lTr (vN f) zV,lTr (vN g) zV⟩
theorem nR:aB PP 26:=zK
theorem aHp (H:Hy):Pure PP 26 [hyV H] (.bool H.short):=by
 have k0:=aD9 H.v
 have k1:=aD9 H.ar
 have k2:=aD9 H.ah
 have k3:=aD9 H.sd
 have k4:=aD9 H.al
 have k5:=aD9 H.ac
 have k6:=aD9 H.mi
 have e7:(BE.le (.len (.v H.cx)) (.l 120)).den=sl H.cx:=rfl
 have e8:(BE.le (.len (.v H.cy)) (.l 120)).den=sl H.cy:=rfl
 have e9:(BE.le (.len (.v H.cz)) (.l 120)).den=sl H.cz:=rfl
 unfold Hy.short Hy.l7;simp only[List.all_cons,List.all_nil];generalize sl H.v=b0,sl H.ar=b1,sl H.ah=b2,sl H.sd=b3,sl H.al=b4,sl H.ac=b5,sl H.mi=b6,sl H.cx=b7,sl H.cy=b8,sl H.cz=b9 at *;refine zF [hyA H] Tryz.func26 λc hc hR=>?_;cbv;refine aV 8 (λp hp=>?_);refine hp _ _ _ ?_;apply zN hc;cbv;try (refine pZ hc ?_)
 cases b0
 ·refine fH hc _ k0 100 ?_;cbv;exact zR
 refine fH hc _ k0 100 ?_;cbv;refine hp _ _ _ ?_;apply zN hc;cbv;try (refine pZ hc ?_)
 cases b1
 ·refine fH hc _ k1 100 ?_;cbv;exact zR
 refine fH hc _ k1 100 ?_;cbv;refine hp _ _ _ ?_;apply zN hc;cbv;try (refine pZ hc ?_)
 cases b2
 ·refine fH hc _ k2 100 ?_;cbv;exact zR
 refine fH hc _ k2 100 ?_;cbv;refine hp _ _ _ ?_;apply zN hc;cbv;try (refine pZ hc ?_)
 cases b3
 ·refine fH hc _ k3 100 ?_;cbv;exact zR
 refine fH hc _ k3 100 ?_;cbv;refine hp _ _ _ ?_;apply zN hc;cbv;try (refine pZ hc ?_)
 cases b4
 ·refine fH hc _ k4 100 ?_;cbv;exact zR
 refine fH hc _ k4 100 ?_;cbv;refine hp _ _ _ ?_;apply zN hc;cbv;try (refine pZ hc ?_)
 cases b5
 ·refine fH hc _ k5 100 ?_;cbv;exact zR
 refine fH hc _ k5 100 ?_;cbv;refine hp _ _ _ ?_;apply zN hc;cbv;try (refine pZ hc ?_)
 cases b6
 ·refine fH hc _ k6 100 ?_;cbv;exact zR
 refine fH hc _ k6 100 ?_;cbv;refine hp _ _ _ ?_;apply zN hc;cbv;cases b7
 ·refine dK hc 34 _ e7 rfl rfl 100 ?_;cbv;exact zR
 refine dK hc 34 _ e7 rfl rfl 100 ?_;cbv;cases b8
 ·refine dK hc 41 _ e8 rfl rfl 100 ?_;cbv;exact zR
 refine dK hc 41 _ e8 rfl rfl 100 ?_;cbv;exact bR hc hR rfl (congrArg (λb=>some (Value.bool b)) e9)
def hyR (H:Hy):RV1:=.agg [.s (.v H.v),.s (.v H.cx),.s (.v H.cy),.s (.v H.cz),.s (.v H.ar),.s (.v H.ah),.s (.v H.sd),.s (.v H.al),.s (.v H.ac),.s (.v H.mi)]
theorem aCj:aB PP 81:=zK
theorem aMh {H:Hy}(hs:H.le (2^20)):fD PP 81 [hyR H] (.sg (.one (.b (.l H.ok)))):=by
 have k0:=lN (a:=H.v) (lTr hs.v zV) rfl
 have k1:=lN (a:=H.ar) (lTr hs.ar zV) rfl
 have k2:=lN (a:=H.ah) (lTr hs.ah zV) rfl
 have k3:=lN (a:=H.sd) (lTr hs.sd zV) rfl
 have k4:=lN (a:=H.al) (lTr hs.al zV) rfl
 have k5:=lN (a:=H.ac) (lTr hs.ac zV) rfl
 have k6:=lN (a:=H.mi) (lTr hs.mi zV) rfl
 have k7:=lN (a:=H.cx) (lTr hs.cx zV) rfl
 have k8:=lN (a:=H.cy) (lTr hs.cy zV) rfl
 have k9:=lN (a:=H.cz) (lTr hs.cz zV) rfl
 unfold Hy.ok Hy.l7;simp only[List.all_cons,List.all_nil];generalize cA H.v=b0,cA H.ar=b1,cA H.ah=b2,cA H.sd=b3,cA H.al=b4,cA H.ac=b5,cA H.mi=b6,cA H.cx=b7,cA H.cy=b8,cA H.cz=b9 at *;clear hs;refine dP mixed tok [hyA H] Tryz.func81 λc G K hG hK hc hR=>?_;apply zN hc;cbv;refine aV 11 (λp hp=>?_);refine hp _ _ _ ?_;apply zN hc;cbv;try (refine pZ hc ?_)
 cases b0
 ·refine bQ hc hK (λ_=>.b (.l false)) k0 cN rfl rfl 100 λK hK _=>?_;cbv;exact cT hc hK hG hR
 refine bQ hc hK (λ_=>.b (.l true)) k0 cN rfl rfl 100 λK hK _=>?_;cbv;refine hp _ _ _ ?_;apply zN hc;cbv;try (refine pZ hc ?_)
 cases b1
 ·refine bQ hc hK (λ_=>.b (.l false)) k1 cN rfl rfl 100 λK hK _=>?_;cbv;exact cT hc hK hG hR
 refine bQ hc hK (λ_=>.b (.l true)) k1 cN rfl rfl 100 λK hK _=>?_;cbv;refine hp _ _ _ ?_;apply zN hc;cbv;try (refine pZ hc ?_)
 cases b2
 ·refine bQ hc hK (λ_=>.b (.l false)) k2 cN rfl rfl 100 λK hK _=>?_;cbv;exact cT hc hK hG hR
 refine bQ hc hK (λ_=>.b (.l true)) k2 cN rfl rfl 100 λK hK _=>?_;cbv;refine hp _ _ _ ?_;apply zN hc;cbv;try (refine pZ hc ?_)
 cases b3
 ·refine bQ hc hK (λ_=>.b (.l false)) k3 cN rfl rfl 100 λK hK _=>?_;cbv;exact cT hc hK hG hR
 refine bQ hc hK (λ_=>.b (.l true)) k3 cN rfl rfl 100 λK hK _=>?_;cbv;refine hp _ _ _ ?_;apply zN hc;cbv;try (refine pZ hc ?_)
 cases b4
 ·refine bQ hc hK (λ_=>.b (.l false)) k4 cN rfl rfl 100 λK hK _=>?_;cbv;exact cT hc hK hG hR
 refine bQ hc hK (λ_=>.b (.l true)) k4 cN rfl rfl 100 λK hK _=>?_;cbv;refine hp _ _ _ ?_;apply zN hc;cbv;try (refine pZ hc ?_)
 cases b5
 ·refine bQ hc hK (λ_=>.b (.l false)) k5 cN rfl rfl 100 λK hK _=>?_;cbv;exact cT hc hK hG hR
 refine bQ hc hK (λ_=>.b (.l true)) k5 cN rfl rfl 100 λK hK _=>?_;cbv;refine hp _ _ _ ?_;apply zN hc;cbv;try (refine pZ hc ?_)
 cases b6
 ·refine bQ hc hK (λ_=>.b (.l false)) k6 cN rfl rfl 100 λK hK _=>?_;cbv;exact cT hc hK hG hR
 refine bQ hc hK (λ_=>.b (.l true)) k6 cN rfl rfl 100 λK hK _=>?_;cbv;refine hp _ _ _ ?_;apply zN hc;cbv;try (refine pZ hc ?_)
 cases b7
 ·refine bQ hc hK (λ_=>.b (.l false)) k7 cN rfl rfl 100 λK hK _=>?_;cbv;exact cT hc hK hG hR
 refine bQ hc hK (λ_=>.b (.l true)) k7 cN rfl rfl 100 λK hK _=>?_;cbv;refine hp _ _ _ ?_;apply zN hc;cbv;try (refine pZ hc ?_)
 cases b8
 ·refine bQ hc hK (λ_=>.b (.l false)) k8 cN rfl rfl 100 λK hK _=>?_;cbv;exact cT hc hK hG hR
 refine bQ hc hK (λ_=>.b (.l true)) k8 cN rfl rfl 100 λK hK _=>?_;cbv;refine hp _ _ _ ?_;apply zN hc;cbv;try (refine pZ hc ?_)
 cases b9
 ·refine bQ hc hK (λ_=>.b (.l false)) k9 cN rfl rfl 100 λK hK _=>?_;cbv;exact cT hc hK hG hR
 refine bQ hc hK (λ_=>.b (.l true)) k9 cN rfl rfl 100 λK hK _=>?_;cbv;refine hp _ _ _ ?_;apply zN hc;cbv;exact cT hc hK hG hR
theorem aZj (q:Rat):(BE.eq (.v (bD q.num 0)) (.l 0)).den=decide (q=0):=by
 show decide (bD q.num 0=0)=_
 rw[decide_eq_decide,<-Rat.num_eq_zero];rcases aHc q.num with⟨h,h'⟩ | ⟨h,h'⟩ | ⟨h,h'⟩<;>rw[h]<;>constructor<;>intro h<;>omega
def rrR (x:ByteArray × ByteArray × Int):RV:=.tp [.one (.s (.v x.1)),.one (.s (.v x.2.1)),.one (.i .i64 (.l x.2.2))]
theorem aI0:aB PP 30:=zK
theorem aTk {H:Hy}(hs:H.le (2^20)):fD PP 30 [hyR H] (rrR (aD0 H)):=by
 have kv:=aMh hs
 have n1:=hN (a:=H.v) (lTr hs.v zV)
 have n2:=hN (a:=H.ac) (lTr hs.ac zV)
 have n3:=hN (a:=H.al) (lTr hs.al zV)
 have ks:=aEl (aQ H.v)
 have kz:=aZj (aQ H.v)
 have z1:sz (aQ H.v)<=2^29:=lTr (aX hs.v zV) zV
 have z2:sz (aQ H.ac)<=2^29:=lTr (aX hs.ac zV) zV
 have z3:sz (aQ H.al)<=2^29:=lTr (aX hs.al zV) zV
 have k4:decide (aQ H.v=0)=false->_:=λh=>aRh (of_decide_eq_false h) z2 z1
 have k5:decide (aQ H.v=0)=false->_:=λh=>aRh (of_decide_eq_false h) z3 z1
 have zz:∀x y:Rat,sz x<=2^20->sz y<=2^20->sz (x/y)<=2^29:=λx y h h'=>lTr (kF _ _) (lTr (Nat.add_le_add h h') zV)
 have k6:=xTo (zz (aQ H.ac) (aQ H.v) (aX hs.ac zV) (aX hs.v zV))
 have k7:=xTo (zz (aQ H.al) (aQ H.v) (aX hs.al zV) (aX hs.v zV))
 unfold aD0;generalize bD (aQ H.v).num 0=sg,aA (aQ H.ac/aQ H.v)=r1,aA (aQ H.al/aQ H.v)=r2,decide (aQ H.v=0)=z,H.ok=b at *;clear hs z1 z2 z3 zz;cases b<;>cases z<;>(
  refine dP mixed tok [hyA H] Tryz.func30 λc G K hG hK hc hR=>?_;apply zN hc;cbv;refine bQ hc hK (λ_=>.b (.l _)) kv aCj rfl rfl 100 λK hK _=>?_;cbv;try (refine bQ hc hK (λm=>cP m 0 3) n1 gN rfl rfl 100 λK hK _=>?_;cbv)
  try (refine bQ hc hK (λ_=>.i .i64 (.v sg)) ks kY rfl rfl 100 λK hK _=>?_;cbv)
  try (refine fH hc _ kz 100 ?_;cbv)
  try (refine aS hc hK (λm=>cP m 0 3) n2 gN rfl rfl 100 λK hK _=>?_;cbv)
  try (refine aS hc hK (λm=>cP m 0 3) (k4 rfl) sY rfl rfl 100 λK hK _=>?_;cbv)
  try (refine aS hc hK (λ_=>.s (.v r1)) k6 kX rfl rfl 100 λK hK _=>?_;cbv)
  try (refine aS hc hK (λm=>cP m 0 3) n3 gN rfl rfl 100 λK hK _=>?_;cbv)
  try (refine aS hc hK (λm=>cP m 0 3) (k5 rfl) sY rfl rfl 100 λK hK _=>?_;cbv)
  try (refine aS hc hK (λ_=>.s (.v r2)) k7 kX rfl rfl 100 λK hK _=>?_;cbv)
  try (refine zE ?_;cbv)
  exact cT hc hK hG hR)
def aWf (h t:ByteArray):RV1:=.agg [.s (.v h),.s (.v t)]
def t3R (a b d:ByteArray):RV1:=.agg [.s (.v a),.s (.v b),.s (.v d)]
theorem aW7 {h t:ByteArray}(hh:h.size<=2^20)(ht:t.size<=2^20)(he:iK h t≠0):fD PP 87 [aWf h t] (.tp [fZ,.one (.i .i64 (.l (iK h t)))]):=by
 unfold iK at *;cases hb:cA h&&cA t with
 | false=>exact aMf hh ht hb
 | true=>
  rw[hb]at he;obtain⟨e1,e2⟩:=Bool.and_eq_true_iff.1 hb;cases hk:At.ok ⟨aQ h,aQ t⟩with
  | true=>rw[hk]at he;exact absurd rfl he
  | false=>exact aMg hh ht e1 e2 hk
theorem aR0:aB PP 32:=zK
section
variable {H:Hy}{h t g1 g2 g3:ByteArray}(hs:H.le (2^20))(hh:h.size<=2^20)(ht:t.size<=2^20)(s1:g1.size<=2^20)(s2:g2.size<=2^20)(s3:g3.size<=2^20)
include hs hh ht s1 s2 s3
theorem bD7:fD PP 32 [hyR H,aWf h t,t3R g1 g2 g3] (rrR (yB H h t g1 g2 g3)):=by
 have big:(2:Nat)^20<=2^34:=zV
 have kv:=aMh hs
 have kg:=aXa (lTr s1 big) (lTr s2 big) (lTr s3 big) rfl
 have kb:=aXa (lTr hs.cx big) (lTr hs.cy big) (lTr hs.cz big) rfl
 have kr:=aTk hs
 have ke:iK h t≠0->_:=aW7 hh ht
 have ko:iK h t=0->fD PP 87 [aWf h t] (.tp [fX ⟨aQ h,aQ t⟩,.one (.i .i64 (.l 0))]):=λe=>by
  obtain⟨e1,e2,e3⟩:=aGu e;exact bA5 hh ht e1 e2 e3
 have ha:(⟨aQ h,aQ t⟩:At).le (2^20):=⟨aX hh zV,aX ht zV⟩
 have hu:=(At.le_up ha).mono (show 8*2^20+8<=2^26 by decide)
 have hc:(⟨aQ H.cx,aQ H.cy,aQ H.cz⟩:V3).le (2^20):=⟨aX hs.cx zV,aX hs.cy zV,aX hs.cz zV⟩
 have hg:(⟨aQ g1,aQ g2,aQ g3⟩:V3).le (2^20):=⟨aX s1 zV,aX s2 zV,aX s3 zV⟩
 have k1:=bD5 hu (hc.mono zV)
 have k2:=bD5 hu (hg.mono zV)
 have k3:=aYo (lTr (V3.sz_dot (At.le_up ha) hc) zV) (lTr (V3.sz_dot (At.le_up ha) hg) zV)
 have lg:=aDp hs hh ht s1 s2 s3
 rw[show(⟨aQ h,aQ t⟩:At).up.dot ⟨aQ H.cx,aQ H.cy,aQ H.cz⟩ - (⟨aQ h,aQ t⟩:At).up.dot ⟨aQ g1,aQ g2,aQ g3⟩=gUp H h t g1 g2 g3 by unfold gUp;simp only[V3.dot,V3.sub];grind]at k3;have r0:∀a:ByteArray,a.size<=2^20->sz (aQ a/aQ H.v)<=2^21:=λa h=>lTr (kF _ _) (lTr (Nat.add_le_add (aX h (show 1<=2^20 by decide)) (aX hs.v (show 1<=2^20 by decide))) zV);have n1:=oJ (aQ H.ac/aQ H.v) rfl (lTr (aZ _) (by have:=r0 _ hs.ac;omega));have n2:=oJ (aQ H.al/aQ H.v) rfl (lTr (aZ _) (by have:=r0 _ hs.al;omega));have a1:=aEy (lTr (r0 _ hs.ac) (show 2^21<=2^29 by decide)) (lTr lg (show 2^27<=2^29 by decide));have a2:=aEy (lTr (r0 _ hs.al) (show 2^21<=2^29 by decide)) (lTr lg (show 2^27<=2^29 by decide));have t1:=xTo (lTr (sz_aa (r0 _ hs.ac) lg) zV);have t2:=xTo (lTr (sz_aa (r0 _ hs.al) lg) zV);unfold yB;unfold aD0 at kr;clear r0 lg hu hg hc ha hs hh ht s1 s2 s3 big;generalize aA (aQ H.ac/aQ H.v+gUp H h t g1 g2 g3)=r1,aA (aQ H.al/aQ H.v+gUp H h t g1 g2 g3)=r2,aA (aQ H.ac/aQ H.v)=q1,aA (aQ H.al/aQ H.v)=q2,(cA g1&&cA g2&&cA g3)=b2,(cA H.cx&&cA H.cy&&cA H.cz)=b3,decide (aQ H.v=0)=z,H.ok=b at *;have he:=oD h t;generalize iK h t=e at *;cases b<;>cases b2<;>cases z<;>rcases he with he | he | he<;>subst he<;>(
  refine dP mixed tok [hyA H,.g [.s (.v h),.s (.v t)],.g [.s (.v g1),.s (.v g2),.s (.v g3)]] Tryz.func32 λc G K hG hK hc hR=>?_;apply zN hc;cbv;refine bQ hc hK (λm=>.t [cP m 0 9,.b (.l _)]) kg aG0 rfl rfl 100 λK hK _=>?_;cbv;first
  | refine bQ hc hK (λm=>.t [cP m 0 27,.i .i64 (.l 0)]) (ko rfl) aCh rfl rfl 100 λK hK _=>?_;cbv
  | refine bQ hc hK (λm=>.t [fZ.av m 0,.i .i64 (.l _)]) (ke zV) aCh rfl rfl 100 λK hK _=>?_;cbv
  refine bQ hc hK (λ_=>.b (.l _)) kv aCj rfl rfl 100 λK hK _=>?_;cbv;try (refine bQ hc hK (λ_=>.t [.s (.v _),.s (.v _),.i .i64 (.l _)]) kr aI0 rfl rfl 100 λK hK _=>?_;cbv)
  try (refine bQ hc hK (λm=>.t [cP m 0 9,.b (.l b3)]) kb aG0 rfl rfl 100 λK hK _=>?_;cbv)
  try (refine aS hc hK (λm=>cP m 0 3) k1 aRy rfl rfl 100 λK hK _=>?_;cbv)
  try (refine aS hc hK (λm=>cP m 0 3) k2 aRy rfl rfl 100 λK hK _=>?_;cbv)
  try (refine aS hc hK (λm=>cP m 0 3) k3 aCo rfl rfl 0 λK hK _=>?_;cbv)
  try (refine fR hc _ ?_;cbv)
  try (refine uR hc zG zV rfl 100 ?_;cbv)
  try ((first | (refine bQ hc hK (λm=>cP m 0 3) n1 gN rfl rfl 100 λK hK _=>?_;cbv) | (refine aS hc hK (λm=>cP m 0 3) n1 gN rfl rfl 100 λK hK _=>?_;cbv)))
  try ((first | (refine bQ hc hK (λm=>cP m 0 3) a1 kW rfl rfl 100 λK hK _=>?_;cbv) | (refine aS hc hK (λm=>cP m 0 3) a1 kW rfl rfl 100 λK hK _=>?_;cbv)))
  try ((first | (refine bQ hc hK (λ_=>.s (.v r1)) t1 kX rfl rfl 100 λK hK _=>?_;cbv) | (refine aS hc hK (λ_=>.s (.v r1)) t1 kX rfl rfl 100 λK hK _=>?_;cbv)))
  try ((first | (refine bQ hc hK (λm=>cP m 0 3) n2 gN rfl rfl 100 λK hK _=>?_;cbv) | (refine aS hc hK (λm=>cP m 0 3) n2 gN rfl rfl 100 λK hK _=>?_;cbv)))
  try ((first | (refine bQ hc hK (λm=>cP m 0 3) a2 kW rfl rfl 100 λK hK _=>?_;cbv) | (refine aS hc hK (λm=>cP m 0 3) a2 kW rfl rfl 100 λK hK _=>?_;cbv)))
  try ((first | (refine bQ hc hK (λ_=>.s (.v r2)) t2 kX rfl rfl 100 λK hK _=>?_;cbv) | (refine aS hc hK (λ_=>.s (.v r2)) t2 kX rfl rfl 100 λK hK _=>?_;cbv)))
  try (refine zE ?_;cbv)
  exact cT hc hK hG hR)
end
theorem aNj (q:Rat):(BE.le (.v (bD q.num 0)) (.l 0)).den= !decide (0<q):=by
 have e:bD q.num 0=jJ q 0:=by
  have:=xI q 0
  rwa [show((0:Rat).den:Int)=1 from rfl,show(0:Rat).num=0 from rfl,Int.mul_one,Int.zero_mul]at this
 show decide (bD q.num 0<=0)=_
 rw[e,<-mK,<-decide_not,decide_eq_decide];omega
def reR (x:ByteArray × Int):RV:=.tp [.one (.s (.v x.1)),.one (.i .i64 (.l x.2))]
theorem aRz:aB PP 43:=zK
theorem aWj:aB PP 45:=zK
theorem aZ5:aB PP 47:=zK
section
variable {H:Hy}{d m:ByteArray}(hs:H.le (2^20))(hd:d.size<=2^20)
include hs hd
theorem bD6:fD PP 43 [hyR H,.one (.s (.v d))] (reR (aMs H d)):=by
 have kv:=aMh hs
 have big:(2:Nat)^20<=2^34:=zV
 have kd:=lN (lTr hd big) rfl
 have n1:=hN (lTr hd big)
 have n2:=hN (lTr hs.ar big)
 have ks:=aEl (aQ d)
 have kz:=aNj (aQ d)
 have z1:=aX hd zV
 have z2:=aX hs.ar zV
 have k1:=wR (lTr z1 (show 2^20<=2^29 by decide)) (lTr z2 (show 2^20<=2^29 by decide))
 have k2:=xTo (lTr (sz_mm z1 z2) zV)
 unfold aMs;generalize aA (aQ d*aQ H.ar)=r,bD (aQ d).num 0=sg,decide (0<aQ d)=z,cA d=b2,H.ok=b at *;clear hs hd z1 z2 big;cases b<;>cases b2<;>cases z<;>(
  refine dP mixed tok [hyA H,.s (.v d)] Tryz.func43 λc G K hG hK hc hR=>?_;apply zN hc;cbv;refine bQ hc hK (λ_=>.b (.l _)) kv aCj rfl rfl 100 λK hK _=>?_;cbv;try (refine bQ hc hK (λ_=>.b (.l _)) kd cN rfl rfl 100 λK hK _=>?_;cbv)
  try ((first | (refine bQ hc hK (λm=>cP m 0 3) n1 gN rfl rfl 100 λK hK _=>?_;cbv) | (refine aS hc hK (λm=>cP m 0 3) n1 gN rfl rfl 100 λK hK _=>?_;cbv)))
  try ((first | (refine bQ hc hK (λ_=>.i .i64 (.v sg)) ks kY rfl rfl 100 λK hK _=>?_;cbv) | (refine aS hc hK (λ_=>.i .i64 (.v sg)) ks kY rfl rfl 100 λK hK _=>?_;cbv)))
  try (refine fH hc _ kz 100 ?_;cbv)
  try ((first | (refine bQ hc hK (λm=>cP m 0 3) n1 gN rfl rfl 100 λK hK _=>?_;cbv) | (refine aS hc hK (λm=>cP m 0 3) n1 gN rfl rfl 100 λK hK _=>?_;cbv)))
  try ((first | (refine bQ hc hK (λm=>cP m 0 3) n2 gN rfl rfl 100 λK hK _=>?_;cbv) | (refine aS hc hK (λm=>cP m 0 3) n2 gN rfl rfl 100 λK hK _=>?_;cbv)))
  try ((first | (refine bQ hc hK (λm=>cP m 0 3) k1 iL rfl rfl 100 λK hK _=>?_;cbv) | (refine aS hc hK (λm=>cP m 0 3) k1 iL rfl rfl 100 λK hK _=>?_;cbv)))
  try ((first | (refine bQ hc hK (λ_=>.s (.v r)) k2 kX rfl rfl 100 λK hK _=>?_;cbv) | (refine aS hc hK (λ_=>.s (.v r)) k2 kX rfl rfl 100 λK hK _=>?_;cbv)))
  try (refine zE ?_;cbv)
  exact cT hc hK hG hR)
variable (hm:m.size<=2^20)
include hm
theorem bEc:fD PP 45 [hyR H,.one (.s (.v d)),.one (.s (.v m))] (reR (aQ5 H d m)):=by
 have ki:=bD6 hs hd
 have big:(2:Nat)^20<=2^34:=zV
 have km:=lN (lTr hm big) rfl
 have z1:=aX hd (show 1<=2^20 by decide)
 have z2:=aX hs.ar (show 1<=2^20 by decide)
 have z3:=aX hm (show 1<=2^20 by decide)
 have z4:=lTr (sz_mm z1 z2) (show 2^20+2^20<=2^29 by decide)
 have n1:=oJ (aQ d*aQ H.ar) rfl (lTr (aZ _) zW)
 have n2:=hN (lTr hm big)
 have ks:=aEl (aQ d*aQ H.ar)
 have kz:decide (0<aQ d)=true->(BE.eq (.v (bD (aQ d*aQ H.ar).num 0)) (.l 0)).den=decide (aQ H.ar=0):=λh=>by
  rw[aZj,decide_eq_decide];have h:=of_decide_eq_true h;constructor
  ·intro e;rcases Rat.mul_eq_zero.1 e with e | e
   ·grind
   ·exact e
  ·intro e;rw[e];grind
 have k1:decide (0<aQ d)=true->decide (aQ H.ar=0)=false->_:=λh h'=>aRh (x:=aQ m) (y:=aQ d*aQ H.ar) (λe=>by have h:=of_decide_eq_true h;have h':=of_decide_eq_false h';rcases Rat.mul_eq_zero.1 e with e | e<;>grind) (lTr z3 zV) z4
 have k2:=xTo (a:=aQ m/(aQ d*aQ H.ar)) (lTr (kF _ _) (lTr (Nat.add_le_add z3 (sz_mm z1 z2)) zV))
 unfold aQ5;unfold aMs at ki;generalize aA (aQ m/(aQ d*aQ H.ar))=q,aA (aQ d*aQ H.ar)=r,bD (aQ d*aQ H.ar).num 0=sg,decide (0<aQ d)=z,decide (aQ H.ar=0)=y,cA d=b2,cA m=b3,H.ok=b at *;clear hs hd hm z1 z2 z3 z4 big;cases b<;>cases b2<;>cases b3<;>cases z<;>cases y<;>(
  refine dP mixed tok [hyA H,.s (.v d),.s (.v m)] Tryz.func45 λc G K hG hK hc hR=>?_;apply zN hc;cbv;refine bQ hc hK (λ_=>.b (.l _)) km cN rfl rfl 100 λK hK _=>?_;cbv;try (refine bQ hc hK (λ_=>.t [.s (.v _),.i .i64 (.l _)]) ki aRz rfl rfl 100 λK hK _=>?_;cbv)
  try ((first | (refine bQ hc hK (λm=>cP m 0 3) n1 gN rfl rfl 100 λK hK _=>?_;cbv) | (refine aS hc hK (λm=>cP m 0 3) n1 gN rfl rfl 100 λK hK _=>?_;cbv)))
  try ((first | (refine bQ hc hK (λ_=>.i .i64 (.v sg)) ks kY rfl rfl 100 λK hK _=>?_;cbv) | (refine aS hc hK (λ_=>.i .i64 (.v sg)) ks kY rfl rfl 100 λK hK _=>?_;cbv)))
  try (refine fH hc _ (kz rfl) 100 ?_;cbv)
  try ((first | (refine bQ hc hK (λm=>cP m 0 3) n2 gN rfl rfl 100 λK hK _=>?_;cbv) | (refine aS hc hK (λm=>cP m 0 3) n2 gN rfl rfl 100 λK hK _=>?_;cbv)))
  try ((first | (refine bQ hc hK (λm=>cP m 0 3) n1 gN rfl rfl 100 λK hK _=>?_;cbv) | (refine aS hc hK (λm=>cP m 0 3) n1 gN rfl rfl 100 λK hK _=>?_;cbv)))
  try ((first | (refine bQ hc hK (λm=>cP m 0 3) (k1 rfl rfl) sY rfl rfl 100 λK hK _=>?_;cbv) | (refine aS hc hK (λm=>cP m 0 3) (k1 rfl rfl) sY rfl rfl 100 λK hK _=>?_;cbv)))
  try ((first | (refine bQ hc hK (λ_=>.s (.v q)) k2 kX rfl rfl 100 λK hK _=>?_;cbv) | (refine aS hc hK (λ_=>.s (.v q)) k2 kX rfl rfl 100 λK hK _=>?_;cbv)))
  try (refine zE ?_;cbv)
  exact cT hc hK hG hR)
end
section
variable {H:Hy}{h t g1 g2 g3 d l:ByteArray}(hs:H.le (2^20))(hh:h.size<=2^20)(ht:t.size<=2^20)(s1:g1.size<=2^20)(s2:g2.size<=2^20)(s3:g3.size<=2^20)(hd:d.size<=2^20)(hl:l.size<=2^20)
include hs hh ht s1 s2 s3 hd hl
theorem bGq:fD PP 47 [hyR H,aWf h t,t3R g1 g2 g3,.one (.s (.v d)),.one (.s (.v l))] (reR (aSv H h t g1 g2 g3 d l)):=by
 have km:=bD7 hs hh ht s1 s2 s3
 have big:(2:Nat)^20<=2^34:=zV
 have kd:=lN (lTr hd big) rfl
 have kl:=lN (lTr hl big) rfl
 have z1:=aX hd (show 1<=2^20 by decide)
 have z2:=aX hl (show 1<=2^20 by decide)
 have z3:=aX hs.v (show 1<=2^20 by decide)
 have la:sz (gAl H h t g1 g2 g3)<=2^28:=lTr (sz_aa (lTr (kF _ _) (Nat.add_le_add (aX hs.al (show 1<=2^20 by decide)) z3)) (aDp hs hh ht s1 s2 s3)) zV
 have l5:=sz_mm z1 z3
 have n1:=hN (lTr hd big)
 have n2:=hN (lTr hl big)
 have n3:=hN (lTr hs.v big)
 have n4:=oJ (gAl H h t g1 g2 g3) rfl (lTr (aZ _) zW)
 have ks1:=aEl (aQ d)
 have kz1:=aNj (aQ d)
 have ks2:=aEl (aQ l)
 have kz2:=aNj (aQ l)
 have k1:=wR (lTr z1 (show 2^20<=2^29 by decide)) (lTr z3 (show 2^20<=2^29 by decide))
 have k2:=wR (lTr l5 (show 2^20+2^20<=2^29 by decide)) (lTr la (show 2^28<=2^29 by decide))
 have k3:decide (0<aQ l)=true->_:=λhq=>aRh (x:=aQ d*aQ H.v*gAl H h t g1 g2 g3) (y:=aQ l) (λe=>by have hq:=of_decide_eq_true hq;grind) (lTr (sz_mm l5 la) zV) (lTr z2 zV)
 have k4:=xTo (a:=aQ d*aQ H.v*gAl H h t g1 g2 g3/aQ l) (lTr (kF _ _) (lTr (Nat.add_le_add (sz_mm l5 la) z2) zV))
 have hb:[l,h,t].all cA=(cA l&& !decide (iK h t=1)):=by
  simp only[List.all_cons,List.all_nil,Bool.and_true];congr 1;unfold iK;cases cA h&&cA t
  ·rfl
  ·cases At.ok ⟨aQ h,aQ t⟩<;>rfl
 unfold aSv;rw[hb];unfold yB at km;change fD _ _ _ (rrR (match H.ok&&(cA g1&&cA g2&&cA g3),decide (aQ H.v=0)with
  | false,_=>(⟨#[]⟩,⟨#[]⟩,1)
  | true,z=>if iK h t=0 then(match z with
   | true=>(⟨#[]⟩,⟨#[]⟩,16)
   | false=>(aA (aQ H.ac/aQ H.v+gUp H h t g1 g2 g3),aA (gAl H h t g1 g2 g3),0))else(⟨#[]⟩,⟨#[]⟩,iK h t)))at km
 clear hb la l5 z1 z2 z3 hs hh ht s1 s2 s3 hd hl big;generalize aA (aQ d*aQ H.v*gAl H h t g1 g2 g3/aQ l)=r1,aA (gAl H h t g1 g2 g3)=r4,aA (aQ H.ac/aQ H.v+gUp H h t g1 g2 g3)=r5,bD (aQ d).num 0=sd,bD (aQ l).num 0=sl,decide (0<aQ d)=z,decide (0<aQ l)=y,decide (aQ H.v=0)=v at *;have he:=oD h t;generalize iK h t=e,cA l=b3,cA d=b2,(cA g1&&cA g2&&cA g3)=b4,H.ok=b at *;cases b<;>cases b4<;>cases v<;>rcases he with he | he | he<;>subst he<;>(
  refine dP mixed tok [hyA H,.g [.s (.v h),.s (.v t)],.g [.s (.v g1),.s (.v g2),.s (.v g3)],.s (.v d),.s (.v l)] Tryz.func47 λc G K hG hK hc hR=>?_;apply zN hc;cbv;refine bQ hc hK (λ_=>.t [.s (.v _),.s (.v _),.i .i64 (.l _)]) km aR0 rfl rfl 100 λK hK _=>?_;cbv;try first
  | exact cT hc hK hG hR
  | (cases b2<;>cases b3<;>exact cT hc hK hG hR))
 all_goals (cases b2<;>(
  (first | (refine bQ hc hK (λ_=>.b (.l _)) kd cN rfl rfl 100 λK hK _=>?_;cbv) | (refine aS hc hK (λ_=>.b (.l _)) kd cN rfl rfl 100 λK hK _=>?_;cbv))
  try exact cT hc hK hG hR))
 all_goals (cases b3<;>(
  (first | (refine bQ hc hK (λ_=>.b (.l _)) kl cN rfl rfl 100 λK hK _=>?_;cbv) | (refine aS hc hK (λ_=>.b (.l _)) kl cN rfl rfl 100 λK hK _=>?_;cbv))
  try exact cT hc hK hG hR))
 all_goals first
 | (cases z<;>cases y<;>exact cT hc hK hG hR)
 | skip
 all_goals (
  (first | (refine bQ hc hK (λm=>cP m 0 3) n1 gN rfl rfl 100 λK hK _=>?_;cbv) | (refine aS hc hK (λm=>cP m 0 3) n1 gN rfl rfl 100 λK hK _=>?_;cbv))
  (first | (refine bQ hc hK (λ_=>.i .i64 (.v sd)) ks1 kY rfl rfl 100 λK hK _=>?_;cbv) | (refine aS hc hK (λ_=>.i .i64 (.v sd)) ks1 kY rfl rfl 100 λK hK _=>?_;cbv))
  cases z
  ·refine dK hc 44 _ kz1 rfl rfl 100 ?_;cbv;exact cT hc hK hG hR
  refine dK hc 44 _ kz1 rfl rfl 100 ?_;cbv
  (first | (refine bQ hc hK (λm=>cP m 0 3) n2 gN rfl rfl 100 λK hK _=>?_;cbv) | (refine aS hc hK (λm=>cP m 0 3) n2 gN rfl rfl 100 λK hK _=>?_;cbv))
  (first | (refine bQ hc hK (λ_=>.i .i64 (.v sl)) ks2 kY rfl rfl 100 λK hK _=>?_;cbv) | (refine aS hc hK (λ_=>.i .i64 (.v sl)) ks2 kY rfl rfl 100 λK hK _=>?_;cbv))
  cases y
  ·refine fH hc _ kz2 100 ?_;cbv;exact cT hc hK hG hR
  refine fH hc _ kz2 100 ?_;cbv;first
  | exact cT hc hK hG hR
  | skip)
 (first | (refine bQ hc hK (λm=>cP m 0 3) n1 gN rfl rfl 100 λK hK _=>?_;cbv) | (refine aS hc hK (λm=>cP m 0 3) n1 gN rfl rfl 100 λK hK _=>?_;cbv))
 (first | (refine bQ hc hK (λm=>cP m 0 3) n3 gN rfl rfl 100 λK hK _=>?_;cbv) | (refine aS hc hK (λm=>cP m 0 3) n3 gN rfl rfl 100 λK hK _=>?_;cbv))
 (first | (refine bQ hc hK (λm=>cP m 0 3) k1 iL rfl rfl 0 λK hK _=>?_;cbv) | (refine aS hc hK (λm=>cP m 0 3) k1 iL rfl rfl 0 λK hK _=>?_;cbv))
 refine fR hc _ ?_;cbv;refine uR hc zG zV rfl 100 ?_;cbv
 (first | (refine bQ hc hK (λm=>cP m 0 3) n4 gN rfl rfl 100 λK hK _=>?_;cbv) | (refine aS hc hK (λm=>cP m 0 3) n4 gN rfl rfl 100 λK hK _=>?_;cbv))
 (first | (refine bQ hc hK (λm=>cP m 0 3) k2 iL rfl rfl 100 λK hK _=>?_;cbv) | (refine aS hc hK (λm=>cP m 0 3) k2 iL rfl rfl 100 λK hK _=>?_;cbv))
 (first | (refine bQ hc hK (λm=>cP m 0 3) n2 gN rfl rfl 100 λK hK _=>?_;cbv) | (refine aS hc hK (λm=>cP m 0 3) n2 gN rfl rfl 100 λK hK _=>?_;cbv))
 (first | (refine bQ hc hK (λm=>cP m 0 3) (k3 rfl) sY rfl rfl 100 λK hK _=>?_;cbv) | (refine aS hc hK (λm=>cP m 0 3) (k3 rfl) sY rfl rfl 100 λK hK _=>?_;cbv))
 (first | (refine bQ hc hK (λ_=>.s (.v r1)) k4 kX rfl rfl 100 λK hK _=>?_;cbv) | (refine aS hc hK (λ_=>.s (.v r1)) k4 kX rfl rfl 100 λK hK _=>?_;cbv))
 refine zE ?_;cbv;exact cT hc hK hG hR
end
end Go.Ai
