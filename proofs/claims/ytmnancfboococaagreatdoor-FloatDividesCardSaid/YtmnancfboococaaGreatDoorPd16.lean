/- Part 17: lemmas for garboardlaw17.FloatDivides -/
import Derived.Test.YtmnancfboococaaGreatDoorPd15
set_option linter.all false
namespace Go.Ai
open Go Go.Proofs Go.Num
theorem aL2:aA (-1)=⟨#[45,49]⟩:=by
 have:aA (-1)=aY (-1):=rfl
 rw[this,show(-1:Int)=-((1:Nat):Int) from rfl,aJt zV,aJs];rfl
theorem bEm:sz (-1)<=2^29:=lTr (iY (-1)) (by rw[aL2];decide)
theorem aYx:aB PP 103:=zK
theorem bGp {x y:Rat}(hx:sz x<=2^29)(hy:sz y<=2^29):Pure PP 103 [.string (aA x),.string (aA y)] (.string (aA (x - y))):=by
 have h1:=nN (x:=-1) (y:=y) bEm hy
 rw[show -1*y=-y by grind,aL2]at h1;have h2:=uF (x:=x) (y:=-y) hx (by rw[qX];exact hy);rw[show x+-y=x - y from(Rat.sub_eq_add_neg x y).symm]at h2;generalize aA (x - y)=r at h2 |-;generalize aA (-y)=q at h1 h2;generalize aA x=sx at h2 |-;generalize aA y=sy at h1 |-;refine aH mixed tok [.s (.v sx),.s (.v sy)] Tryz.func103 rfl rfl rfl λc hc hR=>?_;apply zN hc;cbv;refine qP hc (n:=2) (.s (.v q)) h1 eC 100 ?_;cbv;refine qP hc (n:=2) (.s (.v r)) h2 iC 100 ?_;cbv;exact zR
theorem aQq:aB PP 189:=zK
theorem oX {x y:Rat}(hx:sz x<=2^29)(hy:sz y<=2^29):Pure PP 189 [.string (aA x),.string (aA y)] (.string (aA (x+y))):=by
 have h2:=uF hx hy
 generalize aA (x+y)=r,aA x=sx,aA y=sy at h2 |-;refine aH mixed tok [.s (.v sx),.s (.v sy)] Tryz.func189 rfl rfl rfl λc hc hR=>?_;apply zN hc;cbv;refine qP hc (n:=2) (.s (.v r)) h2 iC 100 ?_;cbv;exact zR
structure Tri where
 a:V3
 b:V3
 c:V3
def Tri.le (t:Tri)(k:Nat):Prop:=t.a.le k/\t.b.le k/\t.c.le k
def Tri.det (t:Tri):Rat:=t.a.dot (t.b.cross t.c)
def nW (t:Tri):Value:=.agg #[.string (aA t.a.x),.string (aA t.a.y),.string (aA t.a.z),.string (aA t.b.x),.string (aA t.b.y),.string (aA t.b.z),.string (aA t.c.x),.string (aA t.c.y),.string (aA t.c.z)]
theorem aYw:aB PP 130:=zK
theorem bGo {t:Tri}(ht:t.le (2^23)):Pure PP 130 [nW t] (.string (aA t.det)):=by
 have h1:=bGw (ht.1.mono zV) ht.2.1 ht.2.2
 unfold Tri.det nW gE lE at *;generalize aA (t.a.dot (t.b.cross t.c))=r,aA t.a.x=a1,aA t.a.y=a2,aA t.a.z=a3,aA t.b.x=b1,aA t.b.y=b2,aA t.b.z=b3,aA t.c.x=c1,aA t.c.y=c2,aA t.c.z=c3 at *;refine aH mixed tok [.g [.s (.v a1),.s (.v a2),.s (.v a3),.s (.v b1),.s (.v b2),.s (.v b3),.s (.v c1),.s (.v c2),.s (.v c3)]] Tryz.func130 rfl rfl rfl λc hc hR=>?_;apply zN hc;cbv;refine zC (.t [.s (.v r),.i .i64 (.l 0)]) h1 aY5 ?_;cbv;exact zR
theorem aAm:aB PP 155:=zK
theorem aX0:Pure PP 155 [] (.agg #[.string ⟨#[48]⟩,.string ⟨#[48]⟩,.string ⟨#[48]⟩,.string ⟨#[48]⟩,.string ⟨#[48]⟩,.string ⟨#[48]⟩,.string ⟨#[48]⟩,.string ⟨#[48]⟩,.string ⟨#[48]⟩,.string ⟨#[48]⟩]):=by
 refine aH mixed tok [] Tryz.func155 rfl rfl rfl λc hc hR=>?_;apply zN hc;cbv;exact zR
theorem aUi:aA (1/24)=⟨#[49,47,50,52]⟩:=(sR (s:=⟨#[49,47,50,52]⟩) (by decide+kernel)).symm
theorem aUh:aA (1/120)=⟨#[49,47,49,50,48]⟩:=(sR (s:=⟨#[49,47,49,50,48]⟩) (by decide+kernel)).symm
theorem bBs:aA (1/6)=⟨#[49,47,54]⟩:=(sR (s:=⟨#[49,47,54]⟩) (by decide+kernel)).symm
theorem aT6:sz (1/24)<=4:=lTr (iY _) (by rw[aUi];decide)
theorem aX8:sz (1/120)<=5:=lTr (iY _) (by rw[aUh];decide)
theorem sz6:sz (1/6)<=3:=lTr (iY _) (by rw[bBs];decide)
theorem aQr:aB PP 190:=zK
theorem mt1 {d x y z:Rat}(hd:sz d<=2^28)(hx:sz x<=2^24)(hy:sz y<=2^24)(hz:sz z<=2^24):
  yU PP 190 [.string (aA x),.string (aA y),.string (aA z)] (aA d) (.string (aA (d*(x+y+z)*(1/24)))):=by
 have e1:=V3.sz_aa hx hy
 have e2:=V3.sz_aa e1 hz
 have h1:=aIq (lTr hx zV) (lTr hy zV) (lTr hz zV) (lTr e1 zV)
 have h2:=wO (x:=d) (y:=x+y+z) (z:=1/24) (lTr hd zV) (lTr e2 zV) (lTr aT6 zV) (lTr (V3.sz_mm hd e2) zV)
 rw[aUi]at h2;clear e1 e2;generalize aA (d*(x+y+z)*(1/24))=r,aA (x+y+z)=q,aA d=sd,aA x=sx,aA y=sy,aA z=sz' at *;refine yU.of_fn (λX w v hX hv=>?_);obtain⟨R,hRR⟩:=nm (dN (.string r));obtain⟨K,hK⟩:=nm ([KF.cst v (aWm sd)]);rw[<-hRR];refine bE mixed tok [.s (.v sx),.s (.v sy),.s (.v sz'),.q v] (K:=K) Tryz.func190 rfl rfl (lbl rfl) rfl hX (by rw[hK];simp;exact hv) λc hc hR=>?_;refine aTt 3 sd rfl rfl (λX μ a w v' H hv'=>bZ H (by rw[hK];exact .head _) hv') (λf hf=>?_);subst hf;apply zN hc;cbv;refine aP hc ⟨kJ,trivial⟩ ?_;refine bI hc (n:=3) (.s (.v q)) h1 iC 100 ?_;cbv;refine bI hc (n:=3) (.s (.v r)) h2 eC 100 ?_;cbv;refine zE ?_;cbv;refine aR hc hR rfl (λX μ a w v' H hv'=>?_);rw[hRR,dP hv'];rfl
theorem aD0:aB PP 191:=zK
def nV (d x y z x' y' z':Rat):Rat:=d*((x+y+z)*(x'+y'+z')+x*x'+y*y'+z*z')*(1/120)
theorem mt2 {d x y z x' y' z':Rat}(hd:sz d<=2^28)(hx:sz x<=2^24)(hy:sz y<=2^24)(hz:sz z<=2^24)(hx':sz x'<=2^24)(hy':sz y'<=2^24)(hz':sz z'<=2^24):
  yU PP 191 [.string (aA x),.string (aA y),.string (aA z),.string (aA x'),.string (aA y'),.string (aA z')] (aA d) (.string (aA (nV d x y z x' y' z'))):=by
 unfold nV;have big:2^24<=2^29:=zV;have e1:=V3.sz_aa hx hy;have e2:=V3.sz_aa e1 hz;have e3:=V3.sz_aa hx' hy';have e4:=V3.sz_aa e3 hz';have m0:=V3.sz_mm e2 e4;have m1:=V3.sz_mm hx hx';have m2:=V3.sz_mm hy hy';have m3:=V3.sz_mm hz hz';have q1:=V3.sz_aa m0 m1;have q2:=V3.sz_aa q1 m2;have q3:=V3.sz_aa q2 m3;have h1:=aIq (lTr hx big) (lTr hy big) (lTr hz big) (lTr e1 zV);have h2:=aIq (lTr hx' big) (lTr hy' big) (lTr hz' big) (lTr e3 zV);have h3:=nN (lTr e2 zV) (lTr e4 zV);have h4:=nN (lTr hx big) (lTr hx' big);have h5:=nN (lTr hy big) (lTr hy' big);have h6:=nN (lTr hz big) (lTr hz' big);have h7:=aXz (lTr m0 zV) (lTr m1 zV) (lTr m2 zV) (lTr m3 zV) (lTr q1 zV) (lTr q2 zV);have h8:=wO (x:=d) (z:=1/120) (lTr hd zV) (lTr q3 zV) (lTr aX8 zV) (lTr (V3.sz_mm hd q3) zV);rw[aUh]at h8;clear e1 e2 e3 e4 m0 m1 m2 m3 q1 q2 q3 hd hx hy hz hx' hy' hz';generalize aA (d*((x+y+z)*(x'+y'+z')+x*x'+y*y'+z*z')*(1/120))=r,aA ((x+y+z)*(x'+y'+z')+x*x'+y*y'+z*z')=q,aA ((x+y+z)*(x'+y'+z'))=p0,aA (x*x')=p1,aA (y*y')=p2,aA (z*z')=p3,aA (x+y+z)=u1,aA (x'+y'+z')=u2,aA d=sd,aA x=a1,aA y=a2,aA z=a3 at *;generalize aA x'=b1,aA y'=b2,aA z'=b3 at *;refine yU.of_fn (λX w v hX hv=>?_);obtain⟨R,hRR⟩:=nm (dN (.string r));obtain⟨K,hK⟩:=nm ([KF.cst v (aWm sd)]);rw[<-hRR];refine bE mixed tok [.s (.v a1),.s (.v a2),.s (.v a3),.s (.v b1),.s (.v b2),.s (.v b3),.q v] (K:=K) Tryz.func191 rfl rfl (lbl rfl) rfl hX (by rw[hK];simp;exact hv) λc hc hR=>?_;refine aTt 6 sd rfl rfl (λX μ a w v' H hv'=>bZ H (by rw[hK];exact .head _) hv') (λf hf=>?_);subst hf;apply zN hc;cbv;refine aP hc ⟨kJ,trivial⟩ ?_;refine bI hc (n:=3) (.s (.v u1)) h1 iC 100 ?_;cbv;refine bI hc (n:=3) (.s (.v u2)) h2 iC 100 ?_;cbv;refine bI hc (n:=2) (.s (.v p0)) h3 eC 100 ?_;cbv;refine bI hc (n:=2) (.s (.v p1)) h4 eC 100 ?_;cbv;refine bI hc (n:=2) (.s (.v p2)) h5 eC 100 ?_;cbv;refine bI hc (n:=2) (.s (.v p3)) h6 eC 100 ?_;cbv;refine bI hc (n:=4) (.s (.v q)) h7 iC 100 ?_;cbv;refine bI hc (n:=3) (.s (.v r)) h8 eC 100 ?_;cbv;refine zE ?_;cbv;refine aR hc hR rfl (λX μ a w v' H hv'=>?_);rw[hRR,dP hv'];rfl
structure Ms where
 v:Rat
 f:V3
 xx:Rat
 yy:Rat
 zz:Rat
 xy:Rat
 yz:Rat
 zx:Rat
def pK (m:Ms):Value:=.agg #[.string (aA m.v),.string (aA m.f.x),.string (aA m.f.y),.string (aA m.f.z),.string (aA m.xx),.string (aA m.yy),.string (aA m.zz),.string (aA m.xy),.string (aA m.yz),.string (aA m.zx)]
def Ms.none:Ms:=⟨0,⟨0,0,0⟩,0,0,0,0,0,0⟩
def Tri.mass (t : Tri) : Ms :=
  ⟨t.det * (1/6), ⟨t.det * (t.a.x + t.b.x + t.c.x) * (1/24), t.det * (t.a.y + t.b.y + t.c.y) * (1/24), t.det * (t.a.z + t.b.z + t.c.z) * (1/24)⟩,
   nV t.det t.a.x t.b.x t.c.x t.a.x t.b.x t.c.x, nV t.det t.a.y t.b.y t.c.y t.a.y t.b.y t.c.y, nV t.det t.a.z t.b.z t.c.z t.a.z t.b.z t.c.z, nV t.det t.a.x t.b.x t.c.x t.a.y t.b.y t.c.y, nV t.det t.a.y t.b.y t.c.y t.a.z t.b.z t.c.z, nV t.det t.a.z t.b.z t.c.z t.a.x t.b.x t.c.x⟩
theorem aT7 {t:Tri}{k:Nat}(h:t.le k):sz t.det<=15*k+5:=lTr (V3.sz_dot h.1 (V3.le_cross h.2.1 h.2.2)) zW
theorem aN5 {d a b:Rat}(h:d=0):aA (d*a*b)=⟨#[48]⟩:=by rw[h,Rat.zero_mul,Rat.zero_mul,gC]
theorem bBz {d a:Rat}(h:d=0):aA (d*a)=⟨#[48]⟩:=by rw[h,Rat.zero_mul,gC]
theorem aFe {d a b c a' b' c':Rat}(h:d=0):aA (nV d a b c a' b' c')=⟨#[48]⟩:=aN5 h
theorem nF:aB PP 157:=zK
theorem bD0 {t:Tri}(ht:t.le (2^20)):Pure PP 157 [nW t] (pK t.mass):=by
 have big:2^20<=2^24:=zV
 have hd:sz t.det<=2^28:=lTr (aT7 ht) zV
 have h0:=bGo (t:=t) ⟨ht.1.mono zV,ht.2.1.mono zV,ht.2.2.mono zV⟩
 have hn:=aX0
 have g0:=nN (x:=t.det) (y:=1/6) (lTr hd zV) (lTr sz6 zV)
 rw[bBs]at g0;have xa:=lTr ht.1.1 big;have ya:=lTr ht.1.2.1 big;have za:=lTr ht.1.2.2 big;have xb:=lTr ht.2.1.1 big;have yb:=lTr ht.2.1.2.1 big;have zb:=lTr ht.2.1.2.2 big;have xc:=lTr ht.2.2.1 big;have yc:=lTr ht.2.2.2.1 big;have zc:=lTr ht.2.2.2.2 big;have g1:=mt1 hd xa xb xc;have g2:=mt1 hd ya yb yc;have g3:=mt1 hd za zb zc;have g4:=mt2 hd xa xb xc xa xb xc;have g5:=mt2 hd ya yb yc ya yb yc;have g6:=mt2 hd za zb zc za zb zc;have g7:=mt2 hd xa xb xc ya yb yc;have g8:=mt2 hd ya yb yc za zb zc;have g9:=mt2 hd za zb zc xa xb xc;have z0:(BE.seq (.v (aA t.det)) (.v ⟨#[48]⟩)).den=true->aA (t.det*(1/6))=⟨#[48]⟩/\aA (t.det*(t.a.x+t.b.x+t.c.x)*(1/24))=⟨#[48]⟩/\aA (t.det*(t.a.y+t.b.y+t.c.y)*(1/24))=⟨#[48]⟩/\aA (t.det*(t.a.z+t.b.z+t.c.z)*(1/24))=⟨#[48]⟩/\aA (nV t.det t.a.x t.b.x t.c.x t.a.x t.b.x t.c.x)=⟨#[48]⟩/\aA (nV t.det t.a.y t.b.y t.c.y t.a.y t.b.y t.c.y)=⟨#[48]⟩/\aA (nV t.det t.a.z t.b.z t.c.z t.a.z t.b.z t.c.z)=⟨#[48]⟩/\aA (nV t.det t.a.x t.b.x t.c.x t.a.y t.b.y t.c.y)=⟨#[48]⟩/\aA (nV t.det t.a.y t.b.y t.c.y t.a.z t.b.z t.c.z)=⟨#[48]⟩/\aA (nV t.det t.a.z t.b.z t.c.z t.a.x t.b.x t.c.x)=⟨#[48]⟩:=λh=>by
  have e:=is0 h
  exact⟨bBz e,aN5 e,aN5 e,aN5 e,aFe e,aFe e,aFe e,aFe e,aFe e,aFe e⟩
 unfold pK Tri.mass;dsimp only;clear hd xa ya za xb yb zb xc yc zc ht;unfold nW at *;generalize aA (t.det*(1/6))=r0,aA (t.det*(t.a.x+t.b.x+t.c.x)*(1/24))=r1,aA (t.det*(t.a.y+t.b.y+t.c.y)*(1/24))=r2,aA (t.det*(t.a.z+t.b.z+t.c.z)*(1/24))=r3,aA (nV t.det t.a.x t.b.x t.c.x t.a.x t.b.x t.c.x)=r4,aA (nV t.det t.a.y t.b.y t.c.y t.a.y t.b.y t.c.y)=r5,aA (nV t.det t.a.z t.b.z t.c.z t.a.z t.b.z t.c.z)=r6,aA (nV t.det t.a.x t.b.x t.c.x t.a.y t.b.y t.c.y)=r7,aA (nV t.det t.a.y t.b.y t.c.y t.a.z t.b.z t.c.z)=r8,aA (nV t.det t.a.z t.b.z t.c.z t.a.x t.b.x t.c.x)=r9,aA t.det=d,aA t.a.x=ax,aA t.a.y=ay,aA t.a.z=az,aA t.b.x=bx at *;generalize aA t.b.y=«by» at *
 generalize aA t.b.z=bz,aA t.c.x=cx,aA t.c.y=cy,aA t.c.z=cz at *;refine aH mixed tok [.g [.s (.v ax),.s (.v ay),.s (.v az),.s (.v bx),.s (.v «by»),.s (.v bz),.s (.v cx),.s (.v cy),.s (.v cz)]] Tryz.func157 rfl rfl rfl λc hc hR=>?_;apply zN hc;cbv;refine zC (.s (.v d)) h0 aYw ?_;cbv;refine aE rfl 0 (λh=>?_) (λh=>?_)
 ·obtain⟨e0,e1,e2,e3,e4,e5,e6,e7,e8,e9⟩:=z0 h;subst e0;subst e1;subst e2;subst e3;subst e4;subst e5;subst e6;subst e7;subst e8;subst e9;apply zN hc;cbv;refine zC (.g [.s (.v ⟨#[48]⟩),.s (.v ⟨#[48]⟩),.s (.v ⟨#[48]⟩),.s (.v ⟨#[48]⟩),.s (.v ⟨#[48]⟩),.s (.v ⟨#[48]⟩),.s (.v ⟨#[48]⟩),.s (.v ⟨#[48]⟩),.s (.v ⟨#[48]⟩),.s (.v ⟨#[48]⟩)]) hn aAm ?_;cbv;exact zR
 refine bEh hc 6 100 ?_;cbv;refine fJ hc _ ?_;cbv;refine fJ hc _ ?_;cbv;refine fJ hc _ ?_;cbv;refine aA5 hc zG zV rfl 100 ?_;cbv;refine bI hc (n:=2) (.s (.v r0)) g0 eC 100 ?_;cbv;refine kF hc (.s (.v r1)) (pre:=[.s (.v ax),.s (.v bx),.s (.v cx)]) g1 aQr 100 ?_;cbv;refine kF hc (.s (.v r2)) (pre:=[.s (.v ay),.s (.v «by»),.s (.v cy)]) g2 aQr 100 ?_;cbv;refine kF hc (.s (.v r3)) (pre:=[.s (.v az),.s (.v bz),.s (.v cz)]) g3 aQr 100 ?_;cbv;refine kF hc (.s (.v r4)) (pre:=[.s (.v ax),.s (.v bx),.s (.v cx),.s (.v ax),.s (.v bx),.s (.v cx)]) g4 aD0 100 ?_;cbv;refine kF hc (.s (.v r5)) (pre:=[.s (.v ay),.s (.v «by»),.s (.v cy),.s (.v ay),.s (.v «by»),.s (.v cy)]) g5 aD0 100 ?_;cbv;refine kF hc (.s (.v r6)) (pre:=[.s (.v az),.s (.v bz),.s (.v cz),.s (.v az),.s (.v bz),.s (.v cz)]) g6 aD0 100 ?_;cbv;refine kF hc (.s (.v r7)) (pre:=[.s (.v ax),.s (.v bx),.s (.v cx),.s (.v ay),.s (.v «by»),.s (.v cy)]) g7 aD0 100 ?_;cbv;refine kF hc (.s (.v r8)) (pre:=[.s (.v ay),.s (.v «by»),.s (.v cy),.s (.v az),.s (.v bz),.s (.v cz)]) g8 aD0 100 ?_;cbv;refine kF hc (.s (.v r9)) (pre:=[.s (.v az),.s (.v bz),.s (.v cz),.s (.v ax),.s (.v bx),.s (.v cx)]) g9 aD0 100 ?_;cbv;refine zE ?_;cbv;exact zR
end Go.Ai
set_option maxRecDepth 10000
namespace Go.Ai
open Go Go.Proofs Go.Num V3
theorem uJ:aB PP 164:=zK
theorem aYy:aB PP 188:=zK
theorem jU:aB PP 156:=zK
theorem aHe:aB PP 122:=zK
theorem bGq {g:Nat}(cg:aB PP g){a0 a1 a2 a3 a4 a5 a6 a7 a8 a9 b0 b1 b2 b3 b4 b5 b6 b7 b8 b9 r0 r1 r2 r3 r4 r5 r6 r7 r8 r9:ByteArray}(h0:Pure PP g [.string a0,.string b0] (.string r0))(h1:Pure PP g [.string a1,.string b1] (.string r1))(h2:Pure PP g [.string a2,.string b2] (.string r2))(h3:Pure PP g [.string a3,.string b3] (.string r3))(h4:Pure PP g [.string a4,.string b4] (.string r4))(h5:Pure PP g [.string a5,.string b5] (.string r5))(h6:Pure PP g [.string a6,.string b6] (.string r6))(h7:Pure PP g [.string a7,.string b7] (.string r7))(h8:Pure PP g [.string a8,.string b8] (.string r8))(h9:Pure PP g [.string a9,.string b9] (.string r9)):
  Pure PP 188 [.agg #[.string a0,.string a1,.string a2,.string a3,.string a4,.string a5,.string a6,.string a7,.string a8,.string a9],.agg #[.string b0,.string b1,.string b2,.string b3,.string b4,.string b5,.string b6,.string b7,.string b8,.string b9],.func (.func g) #[] #[]] (.agg #[.string r0,.string r1,.string r2,.string r3,.string r4,.string r5,.string r6,.string r7,.string r8,.string r9]):=by
 refine aH mixed tok [.g [.s (.v a0),.s (.v a1),.s (.v a2),.s (.v a3),.s (.v a4),.s (.v a5),.s (.v a6),.s (.v a7),.s (.v a8),.s (.v a9)],.g [.s (.v b0),.s (.v b1),.s (.v b2),.s (.v b3),.s (.v b4),.s (.v b5),.s (.v b6),.s (.v b7),.s (.v b8),.s (.v b9)],.f (.func g) [] []] Tryz.func188 rfl rfl rfl λc hc hR=>?_;apply zN hc;cbv;refine cP hc Tryz.func164 uJ (λc1 tm1 FR1 gN hc1 L1=>?_);apply zN hc1;cbv;refine zE (hc:=hc1) ?_;cbv;refine cK hc1 L1 gN (.head _) ?_;apply zN hc;cbv;refine cP hc Tryz.func164 uJ (λc2 tm2 FR2 aB3 hc2 L2=>?_);apply zN hc2;cbv;refine zE (hc:=hc2) ?_;cbv;refine cK hc2 L2 aB3 (.head _) ?_;apply zN hc;cbv;refine aZ 11 (λp hp=>?_);refine hp _ _ _ ?_;apply zN hc;cbv;refine zD (.s (.v r0)) h0 cg ?_;cbv;refine zE ?_;cbv;refine hp _ _ _ ?_;apply zN hc;cbv;refine zD (.s (.v r1)) h1 cg ?_;cbv;refine zE ?_;cbv;refine hp _ _ _ ?_;apply zN hc;cbv;refine zD (.s (.v r2)) h2 cg ?_;cbv;refine zE ?_;cbv;refine hp _ _ _ ?_;apply zN hc;cbv;refine zD (.s (.v r3)) h3 cg ?_;cbv;refine zE ?_;cbv;refine hp _ _ _ ?_;apply zN hc;cbv;refine zD (.s (.v r4)) h4 cg ?_;cbv;refine zE ?_;cbv;refine hp _ _ _ ?_;apply zN hc;cbv;refine zD (.s (.v r5)) h5 cg ?_;cbv;refine zE ?_;cbv;refine hp _ _ _ ?_;apply zN hc;cbv;refine zD (.s (.v r6)) h6 cg ?_;cbv;refine zE ?_;cbv;refine hp _ _ _ ?_;apply zN hc;cbv;refine zD (.s (.v r7)) h7 cg ?_;cbv;refine zE ?_;cbv;refine hp _ _ _ ?_;apply zN hc;cbv;refine zD (.s (.v r8)) h8 cg ?_;cbv;refine zE ?_;cbv;refine hp _ _ _ ?_;apply zN hc;cbv;refine zD (.s (.v r9)) h9 cg ?_;cbv;refine zE ?_;cbv;refine hp _ _ _ ?_;apply zN hc;cbv;exact zR
def Ms.add (m n:Ms):Ms:=⟨m.v+n.v,⟨m.f.x+n.f.x,m.f.y+n.f.y,m.f.z+n.f.z⟩,m.xx+n.xx,m.yy+n.yy,m.zz+n.zz,m.xy+n.xy,m.yz+n.yz,m.zx+n.zx⟩
def Ms.le (m:Ms)(k:Nat):Prop:=sz m.v<=k/\m.f.le k/\sz m.xx<=k/\sz m.yy<=k/\sz m.zz<=k/\sz m.xy<=k/\sz m.yz<=k/\sz m.zx<=k
theorem Ms.le.mono {m:Ms}{k l:Nat}(h:m.le k)(hl:k<=l):m.le l:=by
 obtain⟨h1,h2,h3,h4,h5,h6,h7,h8⟩:=h;exact⟨lTr h1 hl,h2.mono hl,lTr h3 hl,lTr h4 hl,lTr h5 hl,lTr h6 hl,lTr h7 hl,lTr h8 hl⟩
theorem Ms.le_add {m n:Ms}{k l:Nat}(h:m.le k)(h':n.le l):(m.add n).le (k+l+1):=by
 obtain⟨h1,⟨h2,h3,h4⟩,h5,h6,h7,h8,h9,h10⟩:=h;obtain⟨g1,⟨g2,g3,g4⟩,g5,g6,g7,g8,g9,g10⟩:=h';exact⟨sz_aa h1 g1,⟨sz_aa h2 g2,sz_aa h3 g3,sz_aa h4 g4⟩,sz_aa h5 g5,sz_aa h6 g6,sz_aa h7 g7,sz_aa h8 g8,sz_aa h9 g9,sz_aa h10 g10⟩
theorem sO {m n:Ms}(hm:m.le (2^29))(hn:n.le (2^29)):Pure PP 156 [pK m,pK n] (pK (m.add n)):=by
 have k:=bGq (g:=189) aQq (oX hm.1 hn.1) (oX hm.2.1.1 hn.2.1.1) (oX hm.2.1.2.1 hn.2.1.2.1) (oX hm.2.1.2.2 hn.2.1.2.2) (oX hm.2.2.1 hn.2.2.1) (oX hm.2.2.2.1 hn.2.2.2.1) (oX hm.2.2.2.2.1 hn.2.2.2.2.1) (oX hm.2.2.2.2.2.1 hn.2.2.2.2.2.1) (oX hm.2.2.2.2.2.2.1 hn.2.2.2.2.2.2.1) (oX hm.2.2.2.2.2.2.2 hn.2.2.2.2.2.2.2)
 clear hm hn;unfold Ms.add pK;dsimp only;generalize aA (m.v+n.v)=r0,aA (m.f.x+n.f.x)=r1,aA (m.f.y+n.f.y)=r2,aA (m.f.z+n.f.z)=r3,aA (m.xx+n.xx)=r4,aA (m.yy+n.yy)=r5,aA (m.zz+n.zz)=r6,aA (m.xy+n.xy)=r7,aA (m.yz+n.yz)=r8,aA (m.zx+n.zx)=r9,aA m.v=a0,aA m.f.x=a1,aA m.f.y=a2,aA m.f.z=a3,aA m.xx=a4,aA m.yy=a5,aA m.zz=a6,aA m.xy=a7,aA m.yz=a8,aA m.zx=a9,aA n.v=b0,aA n.f.x=b1,aA n.f.y=b2,aA n.f.z=b3,aA n.xx=b4,aA n.yy=b5,aA n.zz=b6,aA n.xy=b7,aA n.yz=b8,aA n.zx=b9 at k |-;refine aH mixed tok [.g [.s (.v a0),.s (.v a1),.s (.v a2),.s (.v a3),.s (.v a4),.s (.v a5),.s (.v a6),.s (.v a7),.s (.v a8),.s (.v a9)],.g [.s (.v b0),.s (.v b1),.s (.v b2),.s (.v b3),.s (.v b4),.s (.v b5),.s (.v b6),.s (.v b7),.s (.v b8),.s (.v b9)]] Tryz.func156 rfl rfl rfl λc hc hR=>?_;apply zN hc;cbv;refine zC (.g [.s (.v r0),.s (.v r1),.s (.v r2),.s (.v r3),.s (.v r4),.s (.v r5),.s (.v r6),.s (.v r7),.s (.v r8),.s (.v r9)]) k aYy ?_;cbv;exact zR
theorem bAu {m:Ms}(hm:m.le (2^29)):Pure PP 122 [pK m] (.bool true):=by
 have k0:=fP (aA m.v) (lTr (bP m.v) (by have:=hm.1;omega))
 rw[dA]at k0;change Pure _ _ _ (.bool true)at k0;have k1:=fP (aA m.f.x) (lTr (bP m.f.x) (by have:=hm.2.1.1;omega));rw[dA]at k1;change Pure _ _ _ (.bool true)at k1;have k2:=fP (aA m.f.y) (lTr (bP m.f.y) (by have:=hm.2.1.2.1;omega));rw[dA]at k2;change Pure _ _ _ (.bool true)at k2;have k3:=fP (aA m.f.z) (lTr (bP m.f.z) (by have:=hm.2.1.2.2;omega));rw[dA]at k3;change Pure _ _ _ (.bool true)at k3;have k4:=fP (aA m.xx) (lTr (bP m.xx) (by have:=hm.2.2.1;omega));rw[dA]at k4;change Pure _ _ _ (.bool true)at k4;have k5:=fP (aA m.yy) (lTr (bP m.yy) (by have:=hm.2.2.2.1;omega));rw[dA]at k5;change Pure _ _ _ (.bool true)at k5;have k6:=fP (aA m.zz) (lTr (bP m.zz) (by have:=hm.2.2.2.2.1;omega));rw[dA]at k6;change Pure _ _ _ (.bool true)at k6;have k7:=fP (aA m.xy) (lTr (bP m.xy) (by have:=hm.2.2.2.2.2.1;omega));rw[dA]at k7;change Pure _ _ _ (.bool true)at k7;have k8:=fP (aA m.yz) (lTr (bP m.yz) (by have:=hm.2.2.2.2.2.2.1;omega));rw[dA]at k8;change Pure _ _ _ (.bool true)at k8;have k9:=fP (aA m.zx) (lTr (bP m.zx) (by have:=hm.2.2.2.2.2.2.2;omega));rw[dA]at k9;change Pure _ _ _ (.bool true)at k9;clear hm;unfold pK;generalize aA m.v=a0 at k0 |-;generalize aA m.f.x=a1 at k1 |-;generalize aA m.f.y=a2 at k2 |-;generalize aA m.f.z=a3 at k3 |-;generalize aA m.xx=a4 at k4 |-;generalize aA m.yy=a5 at k5 |-;generalize aA m.zz=a6 at k6 |-;generalize aA m.xy=a7 at k7 |-;generalize aA m.yz=a8 at k8 |-;generalize aA m.zx=a9 at k9 |-;refine aH mixed tok [.g [.s (.v a0),.s (.v a1),.s (.v a2),.s (.v a3),.s (.v a4),.s (.v a5),.s (.v a6),.s (.v a7),.s (.v a8),.s (.v a9)]] Tryz.func122 rfl rfl rfl λc hc hR=>?_;apply zN hc;cbv;refine cP hc Tryz.func164 uJ (λc1 tm1 FR1 gN hc1 L1=>?_);apply zN hc1;cbv;refine zE (hc:=hc1) ?_;cbv;refine cK hc1 L1 gN (.head _) ?_;apply zN hc;cbv;refine aZ 11 (λp hp=>?_);refine hp _ _ _ ?_;apply zN hc;cbv;refine zC (.b (.l true)) k0 cC ?_;cbv;refine hp _ _ _ ?_;apply zN hc;cbv;refine zC (.b (.l true)) k1 cC ?_;cbv;refine hp _ _ _ ?_;apply zN hc;cbv;refine zC (.b (.l true)) k2 cC ?_;cbv;refine hp _ _ _ ?_;apply zN hc;cbv;refine zC (.b (.l true)) k3 cC ?_;cbv;refine hp _ _ _ ?_;apply zN hc;cbv;refine zC (.b (.l true)) k4 cC ?_;cbv;refine hp _ _ _ ?_;apply zN hc;cbv;refine zC (.b (.l true)) k5 cC ?_;cbv;refine hp _ _ _ ?_;apply zN hc;cbv;refine zC (.b (.l true)) k6 cC ?_;cbv;refine hp _ _ _ ?_;apply zN hc;cbv;refine zC (.b (.l true)) k7 cC ?_;cbv;refine hp _ _ _ ?_;apply zN hc;cbv;refine zC (.b (.l true)) k8 cC ?_;cbv;refine hp _ _ _ ?_;apply zN hc;cbv;refine zC (.b (.l true)) k9 cC ?_;cbv;refine hp _ _ _ ?_;apply zN hc;cbv;exact zR
end Go.Ai
namespace Go.Ai
open Go Go.Num
def aDn (t:Tri):List ByteArray:=[aA t.a.x,aA t.a.y,aA t.a.z,aA t.b.x,aA t.b.y,aA t.b.z,aA t.c.x,aA t.c.y,aA t.c.z]
def dR (l:List Tri):List ByteArray:=l.flatMap aDn
theorem xK (t:Tri):(aDn t).length=9:=rfl
theorem fM:∀(l:List Tri),(dR l).length=9*l.length
 | []=>rfl
 | t::l=>by
  have:=fM l
  unfold dR at this |-;rw[List.flatMap_cons,List.length_append,this,xK,List.length_cons];omega
theorem jG:∀{l:List Tri} {j i:Nat} {t:Tri},l[j]?=some t->i<9->(dR l)[j*9+i]?=(aDn t)[i]?
 | [],j,i,t,h,_=>by simp at h
 | u::l,0,i,t,h,hi=>by
  simp at h;subst h;unfold dR;rw[List.flatMap_cons,List.getElem?_append_left (by rw[xK];omega)];simp
 | u::l,j+1,i,t,h,hi=>by
  have:=jG (l:=l) (j:=j) (i:=i) (t:=t) (by simpa using h) hi
  unfold dR at this |-;rw[List.flatMap_cons,List.getElem?_append_right (by rw[xK];omega),xK,<-this];congr 1;omega
structure Seg where
 a:V3
 b:V3
def bBl (s:Seg):List ByteArray:=[aA s.a.x,aA s.a.y,aA s.a.z,aA s.b.x,aA s.b.y,aA s.b.z]
def iX (l:List Seg):List ByteArray:=l.flatMap bBl
theorem xB (s:Seg):(bBl s).length=6:=rfl
theorem aCt:∀(l:List Seg),(iX l).length=6*l.length
 | []=>rfl
 | t::l=>by
  have:=aCt l
  unfold iX at this |-;rw[List.flatMap_cons,List.length_append,this,xB,List.length_cons];omega
theorem fZ:∀{l:List Seg} {j i:Nat} {t:Seg},l[j]?=some t->i<6->(iX l)[j*6+i]?=(bBl t)[i]?
 | [],j,i,t,h,_=>by simp at h
 | u::l,0,i,t,h,hi=>by
  simp at h;subst h;unfold iX;rw[List.flatMap_cons,List.getElem?_append_left (by rw[xB];omega)];simp
 | u::l,j+1,i,t,h,hi=>by
  have:=fZ (l:=l) (j:=j) (i:=i) (t:=t) (by simpa using h) hi
  unfold iX at this |-;rw[List.flatMap_cons,List.getElem?_append_right (by rw[xB];omega),xB,<-this];congr 1;omega
theorem aTw (l m:List Seg):iX (l++m)=iX l++iX m:=by unfold iX;simp
theorem aJg (l m:List Tri):dR (l++m)=dR l++dR m:=by unfold dR;simp
def rH (a b:V3):List ByteArray:=[aA a.x,aA a.y,aA a.z,aA b.x,aA b.y,aA b.z]
def aRb (es:fN)(a b:V3):fN:=fR (rH b a) (-1) (fR (rH a b) 1 es)
def aHv (es:fN)(t:Tri):fN:=aRb (aRb (aRb es t.a t.b) t.b t.c) t.c t.a
def xY (l:List Tri):fN:=l.foldl aHv []
def aAe (x:List ByteArray × Int):Bool:=decide (x.2≠0)&&decide (x.1.take 3≠x.1.drop 3)
def fY (l:List Tri):Bool:=(xY l).all λx=> !aAe x
def iH (l:List Tri):Int:=if fY l=true then 0 else 17
def oA (m:Nat)(es:fN):Prop:=iS 6 es/\∀x,x∈es->-(m:Int)<=x.2/\x.2<=m
theorem oA.add {k:List ByteArray}{d:Int}(hk:k.length=6)(hd:-1<=d/\d<=1){m:Nat}:∀{es:fN},oA m es->oA (m+1) (fR k d es):=by
 intro es h;refine⟨h.1.add hk,?_⟩;have h2:=h.2;clear h;induction es with
 | nil=>intro x hx;simp[fR]at hx;subst hx;simp only;omega
 | cons y l ih=>
  obtain⟨q,v⟩:=y;have hq:=h2 (q,v) zA;have hl:∀x,x∈l->-(m:Int)<=x.2/\x.2<=m:=λx hx=>h2 x (List.mem_cons_of_mem _ hx);simp only at hq;unfold fR;split
  ·intro x hx;rcases List.mem_cons.1 hx with e | e
   ·subst e;simp only;omega
   ·have:=hl x e;omega
  ·intro x hx;rcases List.mem_cons.1 hx with e | e
   ·subst e;simp only;omega
   ·exact ih hl x e
theorem oA.get {m:Nat}{es:fN}(h:oA m es)(k:List ByteArray):-(m:Int)<=gF es k/\gF es k<=m:=by
 unfold gF;cases hf:fQ k es 0 with
 | none=>simp only;omega
 | some x=>
  obtain⟨j,v⟩:=x;have:=(pF hf).2.2;exact h.2 (k,v) (List.mem_of_getElem? this)
theorem oA.e {m:Nat}{es:fN}(h:oA m es)(a b:V3):oA (m+2) (aRb es a b):=(h.add rfl zW).add rfl zW
theorem oA.t {m:Nat}{es:fN}(h:oA m es)(t:Tri):oA (m+6) (aHv es t):=((h.e _ _).e _ _).e _ _
theorem oA.nil:oA 0 []:=⟨(λx hx=>by cases hx),λx hx=>by cases hx⟩
theorem aD7 {l:List Tri}{i:Nat}{t:Tri}(h:l[i]?=some t):xY (l.take (i+1))=aHv (xY (l.take i)) t:=by
 have hi:=(List.getElem?_eq_some_iff.1 h)
 obtain⟨h1,h2⟩:=hi;unfold xY;rw[List.take_succ_eq_append_getElem h1,List.foldl_append,h2];rfl
theorem aBm (l:List Tri):∀i,i<=l.length->oA (6*i) (xY (l.take i))
 | 0,_=>oA.nil
 | i+1,h=>by
  have h1:l[i]?=some l[i]:=zA
  rw[aD7 h1];exact(aBm l i zW).t _
theorem re9 {f:Nat->ByteArray}{x:Nat}{a0 a1 a2 a3 a4 a5 a6 a7 a8:ByteArray}(h0:f (x*9+0)=a0)(h1:f (x*9+1)=a1)(h2:f (x*9+2)=a2)(h3:f (x*9+3)=a3)(h4:f (x*9+4)=a4)(h5:f (x*9+5)=a5)(h6:f (x*9+6)=a6)(h7:f (x*9+7)=a7)(h8:f (x*9+8)=a8):
  ∀μ,aF μ [.s (.fn f 0 (.n x) 9 0),.s (.fn f 0 (.n x) 9 1),.s (.fn f 0 (.n x) 9 2),.s (.fn f 0 (.n x) 9 3),.s (.fn f 0 (.n x) 9 4),.s (.fn f 0 (.n x) 9 5),.s (.fn f 0 (.n x) 9 6),.s (.fn f 0 (.n x) 9 7),.s (.fn f 0 (.n x) 9 8)]=aF μ [.s (.v a0),.s (.v a1),.s (.v a2),.s (.v a3),.s (.v a4),.s (.v a5),.s (.v a6),.s (.v a7),.s (.v a8)]:=by
 intro μ;simp only[aF,aD,SE.den,IE.den,aV,Int.toNat_natCast,Nat.zero_add,h0,h1,h2,h3,h4,h5,h6,h7,h8]
theorem re6 {f:Nat->ByteArray}{x:Nat}{a0 a1 a2 a3 a4 a5:ByteArray}(h0:f (x*6+0)=a0)(h1:f (x*6+1)=a1)(h2:f (x*6+2)=a2)(h3:f (x*6+3)=a3)(h4:f (x*6+4)=a4)(h5:f (x*6+5)=a5):
  ∀μ,aF μ [.s (.fn f 0 (.n x) 6 0),.s (.fn f 0 (.n x) 6 1),.s (.fn f 0 (.n x) 6 2),.s (.fn f 0 (.n x) 6 3),.s (.fn f 0 (.n x) 6 4),.s (.fn f 0 (.n x) 6 5)]=aF μ [.s (.v a0),.s (.v a1),.s (.v a2),.s (.v a3),.s (.v a4),.s (.v a5)]:=by
 intro μ;simp only[aF,aD,SE.den,IE.den,aV,Int.toNat_natCast,Nat.zero_add,h0,h1,h2,h3,h4,h5]
theorem dM {l m:List AV}(h:∀μ,aF μ l=aF μ m):∀μ,aD μ (.g l)=aD μ (.g m):=λμ=>by simp only[aD,h μ]
theorem aUd {l:List Tri}{f:Nat->ByteArray}(hf:∀i x,(dR l)[i]?=some x->f i=x){x:Nat}{t:Tri}(ht:l[x]?=some t):
  f (x*9+0)=aA t.a.x/\f (x*9+1)=aA t.a.y/\f (x*9+2)=aA t.a.z/\f (x*9+3)=aA t.b.x/\f (x*9+4)=aA t.b.y/\f (x*9+5)=aA t.b.z/\f (x*9+6)=aA t.c.x/\f (x*9+7)=aA t.c.y/\f (x*9+8)=aA t.c.z:=
 ⟨hf _ _ (jG ht zW),hf _ _ (jG ht zW),hf _ _ (jG ht zW),hf _ _ (jG ht zW),hf _ _ (jG ht zW),hf _ _ (jG ht zW),hf _ _ (jG ht zW),hf _ _ (jG ht zW),hf _ _ (jG ht zW)⟩
theorem bEi {l:List Seg}{f:Nat->ByteArray}(hf:∀i x,(iX l)[i]?=some x->f i=x){x:Nat}{t:Seg}(ht:l[x]?=some t):
  f (x*6+0)=aA t.a.x/\f (x*6+1)=aA t.a.y/\f (x*6+2)=aA t.a.z/\f (x*6+3)=aA t.b.x/\f (x*6+4)=aA t.b.y/\f (x*6+5)=aA t.b.z:=
 ⟨hf _ _ (fZ ht zW),hf _ _ (fZ ht zW),hf _ _ (fZ ht zW),hf _ _ (fZ ht zW),hf _ _ (fZ ht zW),hf _ _ (fZ ht zW)⟩
theorem aRa (a0 a1 a2 a3 a4 a5:ByteArray)(b:Bool)(w:World):(Instr.checkKey b 10000 201 (.agg #[.string a0,.string a1,.string a2,.string a3,.string a4,.string a5])).run PP w=.ok () w:=zG
theorem jJ:KeyTy PP 199 201 3 6:=by
 refine⟨zG,zG,zG,?_,λw=>zG⟩;intro a b w ha;match a,ha with
 | [a0,a1,a2,a3,a4,a5],_=>exact aRa a0 a1 a2 a3 a4 a5 b w
end Go.Ai
namespace Go.Ai
open Go Go.Proofs Go.Num
theorem rQ:aB PP 100:=zK
theorem bD2 {a b c d e f:ByteArray}:(BE.not ((BE.seq (.v a) (.v d)).and ((BE.seq (.v b) (.v e)).and (BE.seq (.v c) (.v f))))).den=decide ([a,b,c]≠[d,e,f]):=by
 show(!((BE.seq (.v a) (.v d)).den&&((BE.seq (.v b) (.v e)).den&&(BE.seq (.v c) (.v f)).den)))=_
 have key:∀x y:ByteArray,(BE.seq (.v x) (.v y)).den=decide (x=y):=λx y=>by
  rw[aLs];exact decide_eq_decide.2 ⟨λh=>jQ h,λh=>by rw[h]⟩
 rw[key,key,key];by_cases h1:a=d<;>by_cases h2:b=e<;>by_cases h3:c=f<;>simp[h1,h2,h3]
theorem filter_lt {α:Type}{p q:α->Bool}{a:α}:∀{l:List α},(∀x,p x=true->q x=true)->a∈l->q a=true->p a=false->(l.filter p).length<(l.filter q).length
 | [],_,h,_,_=>by cases h
 | x::l,hpq,h,ha,hb=>by
  have le:∀(l:List α),(l.filter p).length<=(l.filter q).length:=by
   intro l;induction l with
   | nil=>exact lRf _
   | cons y l ih=>
    simp only[List.filter_cons];cases hp:p y with
    | true=>simp only[hpq y hp,if_true,List.length_cons];omega
    | false=>cases hq:q y<;>simp<;>omega
  rcases List.mem_cons.1 h with e | e
  ·subst e;simp only[List.filter_cons,ha,hb,if_true,Bool.false_eq_true,if_false,List.length_cons];have:=le l;omega
  ·have:=filter_lt hpq e ha hb
   simp only[List.filter_cons];cases hp:p x with
   | true=>simp only[hpq x hp,if_true,List.length_cons];omega
   | false=>cases hq:q x<;>simp<;>omega
def aIp (Z:Nat)(seen:Array Nat):Nat:=((List.range Z).filter λj=> !seen.contains j).length
theorem vA {Z j:Nat}{seen:Array Nat}(hj:j<Z)(hs:j∉seen):aIp Z (seen.push j)<aIp Z seen:=by
 unfold aIp;refine filter_lt (a:=j) (λx hx=>?_) (by simpa using hj) (by simpa using hs) zA;simp at hx |-;exact hx.1
theorem aGg {v:Int}{ks:List ByteArray}:aAe (ks,v)=true↔v≠0/\ks.take 3≠ks.drop 3:=by unfold aAe;simp
theorem aRc {l:List Tri}{j:Nat}{x:List ByteArray × Int}(h:(xY l)[j]?=some x)(hb:aAe x=true):iH l=17:=by
 unfold iH fY;rw[if_neg];intro h2;rw[List.all_eq_true]at h2;have:=h2 x (List.mem_of_getElem? h);rw[hb]at this;cases this
theorem aVp {l:List Tri}(h:∀(j:Nat) (x:List ByteArray × Int),(xY l)[j]?=some x->aAe x=false):iH l=0:=by
 unfold iH fY;rw[if_pos];rw[List.all_eq_true];intro x hx;obtain⟨j,hj⟩:=List.getElem?_of_mem hx;rw[h j x hj];rfl
theorem yG {l:List Tri}(hl:∀t,t∈l->t.le (2^29))(hn:l.length<=512){X:Nat->Prop}{w:World}{v:Value}(hX:∀b,X b->b<w.heap.size)(hv:(rowS l.length (dR l)).p v X w):
  Fn PP 100 [v] X w (dN (.int .i64 (iH l))):=by
 obtain⟨R,hRR⟩:=nm (dN (.int .i64 (iH l)));obtain⟨N,hN⟩:=nm (l.length);obtain⟨Q,hQ⟩:=nm (9*N);rw[<-hN]at hv hn;obtain⟨K,hK⟩:=nm ([KF.cst v (rowS N (dR l))]);rw[<-hRR];refine bE mixed tok [.q v] (K:=K) Tryz.func100 rfl rfl (lbl rfl) rfl hX (by rw[hK];simp;exact hv) λc hc hR=>?_;refine gY 0 N Q (dR l) (by rw[fM,hQ,hN]) rfl rfl (λX μ a w v' H hv'=>bZ H (by rw[hK];exact .head _) hv') (λf cap hf cR=>?_);apply zN hc;cbv;refine aE rfl 100 (λh=>?_) (λh=>?_)
 ·have h:(512:Int)<(N:Int):=BE.lt_t h
  omega
 cbv;clear h;let ι:={x:Nat//x<=N};let I:ι->St:=λx=>⟨[(0,.sl 0 0 (.n N) cap),(18,.sl 0 0 (.n N) cap),(19,.i .i64 (.n N)),(20,.i .i64 (.n x.1))],[.xs Q f],[]⟩
 let x0:ι:=⟨0,Nat.zero_le _⟩
 refine zU 1 (S':=I x0) (K':=K) zL (by subst hK;exact⟨⟨.head _,KFr.cst _ _ _⟩,trivial⟩) trivial ?_;refine bQ hc I (λx=>N - x.1) x0 100 ?_;rintro p ⟨x,hx⟩ hy;cbv;refine aE rfl 100 (λh=>?_) (λh=>?_)
 ·have hxN:x<N:=BE.ltn_t h
  have ht:l[x]?=some l[x]:=zA
  obtain⟨t,htt⟩:=nm (l[x]);rw[<-htt]at ht;have aCa:=hl t (List.mem_of_getElem? ht);obtain⟨f0,f1,f2,f3,f4,f5,f6,f7,f8⟩:=aUd hf ht;have k1:=dK aCa.1;have k2:=dK aCa.2.1;have k3:=dK aCa.2.2;unfold gE lE at k1 k2 k3;have o1:(Obl.ltE (.n x) (.n N)).ok:=by show _/\_;simp only[IE.den];omega
  have o2:(Obl.ix 0 (.n x) 9 0 9 Q).ok:=by show aV 0 (x:Int) 9 0+9<=Q;simp only[aV,Int.toNat_natCast];omega
  have o3:(Obl.inR .i64 (.add (.n x) (.l 1))).ok:=by show lo _<=_/\_<=hi _;simp only[lo,hi,IE.den];omega
  obtain⟨x',hx'⟩:=nm (x+1);have hi1:((IE.n x).add (IE.l 1)).den=(IE.n x').den:=by simp only[IE.den,hx'];omega
  have hyx:=hy ⟨x',zW⟩ (by show N - x'<N - x;omega)
  clear hy;have r9:=re9 f0 f1 f2 f3 f4 f5 f6 f7 f8;clear f0 f1 f2 f3 f4 f5 f6 f7 f8;generalize aA t.a.x=a1,aA t.a.y=a2,aA t.a.z=a3,aA t.b.x=b1,aA t.b.y=b2,aA t.b.z=b3,aA t.c.x=c1,aA t.c.y=c2,aA t.c.z=c3 at *;cbv;refine aP hc ⟨o1,o2,trivial⟩ ?_;refine aW3 24 (.g [.s (.v a1),.s (.v a2),.s (.v a3),.s (.v b1),.s (.v b2),.s (.v b3),.s (.v c1),.s (.v c2),.s (.v c3)]) rfl rfl (dM r9) ?_;refine aZ 4 (λq hq=>?_);refine hq _ _ _ ?_;apply zN hc;cbv;refine zC (.b (.l true)) k1 eR ?_;cbv;refine hq _ _ _ ?_;apply zN hc;cbv;refine zC (.b (.l true)) k2 eR ?_;cbv;refine hq _ _ _ ?_;apply zN hc;cbv;refine zC (.b (.l true)) k3 eR ?_;cbv;refine hq _ _ _ ?_;apply zN hc;cbv;refine aP hc ⟨o3,trivial⟩ ?_;exact eO 1 (S':=I ⟨x',zW⟩) (K':=K) rfl rfl (show(1:Nat)<=5 by decide) rfl rfl ⟨zS,zS,zS,zI rfl rfl hi1,trivial⟩ (by subst hK;exact⟨⟨.head _,KFr.cst _ _ _⟩,trivial⟩) trivial hyx
 ·cbv;clear hy;obtain⟨M,hM⟩:∃M:Nat->fN->OF,∀r es,M r es=OF.mp r es:=⟨OF.mp,λ_ _=>rfl⟩;obtain⟨E,hE⟩:∃E:Nat->fN,∀x,E x=xY (l.take x):=⟨_,λ_=>rfl⟩;refine aE2 hc _ rfl rfl rfl hM rfl (λr=>?_);apply zN hc;cbv;clear h;let J:ι->St:=λx=>⟨[(0,.sl 0 0 (.n N) cap),(7,.o (.map (some r))),(34,.sl 0 0 (.n N) cap),(35,.i .i64 (.n N)),(36,.i .i64 (.n x.1))],[.xs Q f],[M r (E x.1)]⟩
  have hE0:([]:fN)=E 0:=by rw[hE];rfl
  rw[hE0];refine zU 1 (S':=J x0) (K':=K) zL (by subst hK;exact⟨⟨.head _,KFr.cst _ _ _⟩,trivial⟩) ⟨by rw[hM];exact OFr.mp _ _ _,trivial⟩ ?_;clear hE0;refine bQ hc J (λx=>N - x.1) x0 100 ?_;clear hx x;rintro p ⟨x,hx⟩ hy;cbv;refine aE rfl 100 (λh=>?_) (λh=>?_)
  rotate_left
  ·cbv;clear hy;have hxN:x=N:=by have:=BE.ltn_f h;omega
   obtain⟨es,hes⟩:=nm (E x);rw[show E (Subtype.val (⟨x,hx⟩:ι))=es from hes.symm];have aZ1:es=xY l:=by rw[hes,hE,hxN,hN,List.take_of_length_le (lRf _)]
   have hok:iS 6 es:=by rw[aZ1];have:=(aBm l l.length (lRf _)).1;rwa [List.take_of_length_le (lRf _)]at this
   obtain⟨T,hT⟩:∃T:Nat->Nat->Nat->Array Nat->OF,∀a b c d,T a b c d=OF.it a b c d:=⟨OF.it,λ_ _ _ _=>rfl⟩;obtain⟨Z,hZ⟩:=nm (es.length);refine aNx hc _ rfl rfl rfl jJ [] hM hT rfl rfl rfl (λq=>?_);rw[<-hZ];apply zN hc;cbv;let κ:={seen:Array Nat// ∀j,j∈seen->∀y,es[j]?=some y->aAe y=false};let H:κ->St:=λu=>⟨[(69,.o (.pointer (some ⟨q,0,none⟩)))],[],[T q r Z u.1,M r es]⟩
   let u0:κ:=⟨#[],λj hj=>by simp at hj⟩
   refine zU 0 (S':=H u0) (K':=K) zL (by subst hK;exact⟨⟨.head _,KFr.cst _ _ _⟩,trivial⟩) ⟨by rw[hT];exact OFr.it _ _ _ _ _,by rw[hM];exact OFr.mp _ _ _,trivial⟩ ?_;refine bQ hc H (λu=>aIp Z u.1) u0 100 ?_;rintro p ⟨seen,aXt⟩ hy;cbv;dsimp only[H];rw[hZ];refine aTr hc _ rfl rfl rfl hM hT rfl rfl [] rfl (.tail _ (.head _)) (λsG=>?_) (λj ks v hj hns=>?_)
   ·have aSa:iH l=0:=aVp (λj y hj=>by rw[<-aZ1]at hj;exact aXt j (sG j (List.getElem?_eq_some_iff.1 hj).1) y hj)
    rw[aSa]at hRR;apply zN hc;cbv;refine aR hc hR rfl (λX μ a w v' H hv'=>?_);rw[hRR];simp only[aD]at hv';injection hv' with hv'
    exact hv'.symm
   ·have hks:ks.length=6:=hok (ks,v) (List.mem_of_getElem? hj)
    match ks,hks with
    | [a1,a2,a3,b1,b2,b3],_=>
    have hsl:=hy
    apply zN hc;cbv;refine aNu hc _ rfl rfl rfl hM hT rfl rfl (.head _) (.tail _ (.head _)) hj ?_;apply zN hc;cbv;have hgo:aAe ([a1,a2,a3,b1,b2,b3],v)=false->∀i,i∈seen.push j->∀y,es[i]?=some y->aAe y=false:=λhb i hi y hy=>by
     rcases Array.mem_push.1 hi with e | e
     ·exact aXt i e y hy
     ·subst e;rw[hj]at hy;injection hy with hy;subst hy;exact hb
    rw[<-hZ];refine bV 77 rfl rfl 100 (λh1=>?_) (λh1=>?_)
    ·have hv:v≠0:=by
      have:(!decide (v=0))=true:=h1
      simpa using this
     cbv;refine aE rfl 100 (λh2=>?_) (λh2=>?_)
     ·rw[bD2]at h2;have aSa:iH l=17:=aRc (by rw[<-aZ1];exact hj) ((aGg (ks:=[a1,a2,a3,b1,b2,b3])).2 ⟨hv,(of_decide_eq_true h2:[a1,a2,a3]≠[b1,b2,b3])⟩);rw[aSa]at hRR;cbv;refine aR hc hR rfl (λX μ a w v' H hv'=>?_);rw[hRR];simp only[aD]at hv';injection hv' with hv'
      exact hv'.symm
     ·rw[bD2]at h2;have hb:aAe ([a1,a2,a3,b1,b2,b3],v)=false:=by
       rw[Bool.eq_false_iff];intro hb;exact(of_decide_eq_false h2:¬[a1,a2,a3]≠[b1,b2,b3]) (aGg.1 hb).2
      let u1:κ:=⟨seen.push j,hgo hb⟩
      cbv;exact zU 0 (S':=H u1) (K':=K) zL (by subst hK;exact⟨⟨.head _,KFr.cst _ _ _⟩,trivial⟩) ⟨by rw[hT];exact OFr.it _ _ _ _ _,by rw[hM];exact OFr.mp _ _ _,trivial⟩ (hy u1 (vA (by rw[hZ];exact(List.getElem?_eq_some_iff.1 hj).1) hns))
    ·have hv:v=0:=by
      have:(!decide (v=0))=false:=h1
      simpa using this
     have hb:aAe ([a1,a2,a3,b1,b2,b3],v)=false:=by
      rw[Bool.eq_false_iff];intro hb;exact(aGg.1 hb).1 hv
     let u1:κ:=⟨seen.push j,hgo hb⟩
     cbv;exact zU 0 (S':=H u1) (K':=K) zL (by subst hK;exact⟨⟨.head _,KFr.cst _ _ _⟩,trivial⟩) ⟨by rw[hT];exact OFr.it _ _ _ _ _,by rw[hM];exact OFr.mp _ _ _,trivial⟩ (hy u1 (vA (by rw[hZ];exact(List.getElem?_eq_some_iff.1 hj).1) hns))
  have hxN:x<N:=BE.ltn_t h
  have ht:l[x]?=some l[x]:=zA
  obtain⟨t,htt⟩:=nm (l[x]);rw[<-htt]at ht;obtain⟨f0,f1,f2,f3,f4,f5,f6,f7,f8⟩:=aUd hf ht;have o1:(Obl.ltE (.n x) (.n N)).ok:=by show _/\_;simp only[IE.den];omega
  have o2:(Obl.ix 0 (.n x) 9 0 9 Q).ok:=by show aV 0 (x:Int) 9 0+9<=Q;simp only[aV,Int.toNat_natCast];omega
  have o3:(Obl.inR .i64 (.add (.n x) (.l 1))).ok:=by show lo _<=_/\_<=hi _;simp only[lo,hi,IE.den];omega
  obtain⟨x',hx'⟩:=nm (x+1);have hi1:((IE.n x).add (IE.l 1)).den=(IE.n x').den:=by simp only[IE.den,hx'];omega
  have hyx:=hy ⟨x',zW⟩ (by show N - x'<N - x;omega)
  clear hy;have v0:oA (6*x) (E x):=by rw[hE];exact aBm l x zW
  obtain⟨e1,he1⟩:∃e,e=fR (rH t.a t.b) 1 (E x):=⟨_,rfl⟩;have v1:oA (6*x+1) e1:=by rw[he1];exact v0.add rfl zW
  have g1:-4611686018427387904<=gF (E x) (rH t.a t.b)/\gF (E x) (rH t.a t.b)<=4611686018427387904:=by have:=v0.get (rH t.a t.b);omega
  obtain⟨e2,he2⟩:∃e,e=fR (rH t.b t.a) (-1) e1:=⟨_,rfl⟩;have v2:oA (6*x+2) e2:=by rw[he2];exact v1.add rfl zW
  have g2:-4611686018427387904<=gF e1 (rH t.b t.a)/\gF e1 (rH t.b t.a)<=4611686018427387904:=by have:=v1.get (rH t.b t.a);omega
  obtain⟨e3,he3⟩:∃e,e=fR (rH t.b t.c) 1 e2:=⟨_,rfl⟩;have v3:oA (6*x+3) e3:=by rw[he3];exact v2.add rfl zW
  have g3:-4611686018427387904<=gF e2 (rH t.b t.c)/\gF e2 (rH t.b t.c)<=4611686018427387904:=by have:=v2.get (rH t.b t.c);omega
  obtain⟨e4,he4⟩:∃e,e=fR (rH t.c t.b) (-1) e3:=⟨_,rfl⟩;have v4:oA (6*x+4) e4:=by rw[he4];exact v3.add rfl zW
  have g4:-4611686018427387904<=gF e3 (rH t.c t.b)/\gF e3 (rH t.c t.b)<=4611686018427387904:=by have:=v3.get (rH t.c t.b);omega
  obtain⟨e5,he5⟩:∃e,e=fR (rH t.c t.a) 1 e4:=⟨_,rfl⟩;have v5:oA (6*x+5) e5:=by rw[he5];exact v4.add rfl zW
  have g5:-4611686018427387904<=gF e4 (rH t.c t.a)/\gF e4 (rH t.c t.a)<=4611686018427387904:=by have:=v4.get (rH t.c t.a);omega
  obtain⟨e6,he6⟩:∃e,e=fR (rH t.a t.c) (-1) e5:=⟨_,rfl⟩;have v6:oA (6*x+6) e6:=by rw[he6];exact v5.add rfl zW
  have g6:-4611686018427387904<=gF e5 (rH t.a t.c)/\gF e5 (rH t.a t.c)<=4611686018427387904:=by have:=v5.get (rH t.a t.c);omega
  have hE':E x'=e6:=by
   rw[hE,hx',aD7 ht,<-hE,he6,he5,he4,he3,he2,he1];rfl
  have r9:=re9 f0 f1 f2 f3 f4 f5 f6 f7 f8
  clear f0 f1 f2 f3 f4 f5 f6 f7 f8;unfold rH at *;generalize aA t.a.x=a1,aA t.a.y=a2,aA t.a.z=a3,aA t.b.x=b1,aA t.b.y=b2,aA t.b.z=b3,aA t.c.x=c1,aA t.c.y=c2,aA t.c.z=c3 at *;cbv;refine aP hc ⟨o1,o2,trivial⟩ ?_;refine aW3 40 (.g [.s (.v a1),.s (.v a2),.s (.v a3),.s (.v b1),.s (.v b2),.s (.v b3),.s (.v c1),.s (.v c2),.s (.v c3)]) rfl rfl (dM r9) ?_;refine iA 1 [.s (.v a1),.s (.v a2),.s (.v a3),.s (.v b1),.s (.v b2),.s (.v b3),.s (.v c1),.s (.v c2),.s (.v c3)] rfl rfl r9 ?_;refine aZ 4 (λq hq=>?_);refine hq _ _ _ ?_;apply zN hc;cbv;refine aP hc ⟨qL,trivial⟩ ?_;refine aE1 hc jJ hM [] (a:=50) (b:=53) (d4:=54) (d5:=55) (d6:=56) (d7:=57) (post:=[]) (es:=(E x)) (ks:=[a1,a2,a3,b1,b2,b3]) (1) rfl rfl rfl rfl rfl rfl rfl rfl rfl rfl rfl rfl rfl rfl rfl rfl rfl rfl rfl rfl rfl (.inl ⟨rfl,rfl⟩) g1 rfl zV rfl rfl rfl rfl v0.1 rfl rfl rfl rfl rfl zG zG zG zG zG zG zG zG zG zG zG (by rfl) ?_;rw[<-he1];apply zN hc;cbv;refine aE1 hc jJ hM [] (a:=58) (b:=61) (d4:=62) (d5:=63) (d6:=64) (d7:=65) (post:=[]) (es:=e1) (ks:=[b1,b2,b3,a1,a2,a3]) (-1) rfl rfl rfl rfl rfl rfl rfl rfl rfl rfl rfl rfl rfl rfl rfl rfl rfl rfl rfl rfl rfl (.inr ⟨rfl,rfl⟩) g2 rfl zV rfl rfl rfl rfl v1.1 rfl rfl rfl rfl rfl zG zG zG zG zG zG zG zG zG zG zG (by rfl) ?_;rw[<-he2];apply zN hc;cbv;refine hq _ _ _ ?_;apply zN hc;cbv;refine aP hc ⟨qL,trivial⟩ ?_;refine aE1 hc jJ hM [] (a:=50) (b:=53) (d4:=54) (d5:=55) (d6:=56) (d7:=57) (post:=[]) (es:=e2) (ks:=[b1,b2,b3,c1,c2,c3]) (1) rfl rfl rfl rfl rfl rfl rfl rfl rfl rfl rfl rfl rfl rfl rfl rfl rfl rfl rfl rfl rfl (.inl ⟨rfl,rfl⟩) g3 rfl zV rfl rfl rfl rfl v2.1 rfl rfl rfl rfl rfl zG zG zG zG zG zG zG zG zG zG zG (by rfl) ?_;rw[<-he3];apply zN hc;cbv;refine aE1 hc jJ hM [] (a:=58) (b:=61) (d4:=62) (d5:=63) (d6:=64) (d7:=65) (post:=[]) (es:=e3) (ks:=[c1,c2,c3,b1,b2,b3]) (-1) rfl rfl rfl rfl rfl rfl rfl rfl rfl rfl rfl rfl rfl rfl rfl rfl rfl rfl rfl rfl rfl (.inr ⟨rfl,rfl⟩) g4 rfl zV rfl rfl rfl rfl v3.1 rfl rfl rfl rfl rfl zG zG zG zG zG zG zG zG zG zG zG (by rfl) ?_;rw[<-he4];apply zN hc;cbv;refine hq _ _ _ ?_;apply zN hc;cbv;refine aP hc ⟨qL,trivial⟩ ?_;refine aE1 hc jJ hM [] (a:=50) (b:=53) (d4:=54) (d5:=55) (d6:=56) (d7:=57) (post:=[]) (es:=e4) (ks:=[c1,c2,c3,a1,a2,a3]) (1) rfl rfl rfl rfl rfl rfl rfl rfl rfl rfl rfl rfl rfl rfl rfl rfl rfl rfl rfl rfl rfl (.inl ⟨rfl,rfl⟩) g5 rfl zV rfl rfl rfl rfl v4.1 rfl rfl rfl rfl rfl zG zG zG zG zG zG zG zG zG zG zG (by rfl) ?_;rw[<-he5];apply zN hc;cbv;refine aE1 hc jJ hM [] (a:=58) (b:=61) (d4:=62) (d5:=63) (d6:=64) (d7:=65) (post:=[]) (es:=e5) (ks:=[a1,a2,a3,c1,c2,c3]) (-1) rfl rfl rfl rfl rfl rfl rfl rfl rfl rfl rfl rfl rfl rfl rfl rfl rfl rfl rfl rfl rfl (.inr ⟨rfl,rfl⟩) g6 rfl zV rfl rfl rfl rfl v5.1 rfl rfl rfl rfl rfl zG zG zG zG zG zG zG zG zG zG zG (by rfl) ?_;rw[<-he6];apply zN hc;cbv;refine hq _ _ _ ?_;apply zN hc;cbv;refine aP hc ⟨o3,trivial⟩ ?_;rw[<-hE'];exact eO 1 (S':=J ⟨x',zW⟩) (K':=K) rfl rfl (show(1:Nat)<=8 by decide) rfl rfl ⟨zS,zS,zS,zS,zI rfl rfl hi1,trivial⟩ (by subst hK;exact⟨⟨.head _,KFr.cst _ _ _⟩,trivial⟩) ⟨by rw[hM];exact OFr.mp _ _ _,trivial⟩ hyx
theorem aMw (x y:Rat):decide (kU x y<0)=decide (x<y):=by
 unfold kU;by_cases h:x<y
 ·simp[h]
 ·by_cases h2:y<x<;>simp[h,h2]
theorem aFk:aB PP 210:=zK
theorem aFm:aB PP 197:=zK
theorem xO:aB PP 208:=zK
theorem aFl:aB PP 209:=zK
theorem oD:aB PP 196:=zK
theorem aDw:aB PP 166:=zK
theorem vR:aB PP 127:=zK
theorem aG8:aB PP 207:=zK
theorem aQc:aB PP 175:=zK
theorem aQd:aB PP 176:=zK
theorem bB3 {x y:Rat}(hx:sz x<=2^29)(hy:sz y<=2^29):Pure PP 210 [.string (aA x),.string (aA y)] (.string (aA (x+y))):=by
 have h1:=aCm hx hy
 generalize aA (x+y)=r,aA x=sx,aA y=sy at h1 |-;refine aH mixed tok [.s (.v sx),.s (.v sy)] Tryz.func210 rfl rfl rfl λc hc hR=>?_;apply zN hc;cbv;refine zC (.t [.s (.v r),.i .i64 (.l 0)]) h1 nH ?_;cbv;exact zR
theorem bB5 {x y:Rat}(hx:sz x<=2^29)(hy:sz y<=2^29):Pure PP 197 [.string (aA x),.string (aA y)] (.string (aA (x - y))):=by
 have h1:=bEb hx hy
 generalize aA (x - y)=r,aA x=sx,aA y=sy at h1 |-;refine aH mixed tok [.s (.v sx),.s (.v sy)] Tryz.func197 rfl rfl rfl λc hc hR=>?_;apply zN hc;cbv;refine zC (.t [.s (.v r),.i .i64 (.l 0)]) h1 aQx ?_;cbv;exact zR
theorem aYn {x y:Rat}(hx:sz x<=2^29)(hy:sz y<=2^29):Pure PP 208 [.string (aA x),.string (aA y)] (.string (aA (x*y))):=by
 have h1:=aI1 hx hy
 generalize aA (x*y)=r,aA x=sx,aA y=sy at h1 |-;refine aH mixed tok [.s (.v sx),.s (.v sy)] Tryz.func208 rfl rfl rfl λc hc hR=>?_;apply zN hc;cbv;refine zC (.t [.s (.v r),.i .i64 (.l 0)]) h1 rS ?_;cbv;exact zR
theorem bB4 {x y:Rat}(h0:y≠0)(hx:sz x<=2^29)(hy:sz y<=2^29):Pure PP 209 [.string (aA x),.string (aA y)] (.string (aA (x/y))):=by
 have h1:=bA2 h0 hx hy
 generalize aA (x/y)=r,aA x=sx,aA y=sy at h1 |-;refine aH mixed tok [.s (.v sx),.s (.v sy)] Tryz.func209 rfl rfl rfl λc hc hR=>?_;apply zN hc;cbv;refine zC (.t [.s (.v r),.i .i64 (.l 0)]) h1 aKb ?_;cbv;exact zR
theorem aXg {x y:Rat}(hx:sz x<=2^29)(hy:sz y<=2^29):Pure PP 196 [.string (aA x),.string (aA y)] (.bool (decide (x<y))):=by
 have h1:=aCn hx hy
 have e:=aMw x y
 generalize decide (x<y)=b at e |-;generalize kU x y=r at h1 e;generalize aA x=sx,aA y=sy at h1 |-;refine aH mixed tok [.s (.v sx),.s (.v sy)] Tryz.func196 rfl rfl rfl λc hc hR=>?_;apply zN hc;cbv;refine zC (.t [.i .i64 (.v r),.i .i64 (.l 0)]) h1 uM ?_;cbv;exact bR hc hR rfl (by show some (Value.bool (decide (r<0)))=_;rw[e])
theorem aL9 {x y:Rat}(hx:sz x<=2^28)(hy:sz y<=2^28):Pure PP 166 [.string (aA x),.string (aA y)] (.bool (!decide (y<x)&& !decide (x< -y))):=by
 have h1:=aXg (x:=y) (y:=x) (lTr hy zV) (lTr hx zV)
 have h2:=bB5 (x:=0) (y:=y) sz0 (lTr hy zV)
 rw[show(0:Rat) - y=-y by grind,gC]at h2;have h3:=aXg (x:=x) (y:=-y) (lTr hx zV) (by rw[qX];exact lTr hy zV);generalize decide (y<x)=b1 at h1 |-;generalize decide (x< -y)=b2 at h3 |-;generalize aA (-y)=r at h2 h3;generalize aA x=sx,aA y=sy at h1 h2 h3 |-;refine aH mixed tok [.s (.v sx),.s (.v sy)] Tryz.func166 rfl rfl rfl λc hc hR=>?_;apply zN hc;cbv;cases b1
 ·first | refine zC (.b (.l false)) h1 oD ?_ | refine zD (.b (.l false)) h1 oD ?_
  cbv;first | refine zC (.s (.v r)) h2 aFm ?_ | refine zD (.s (.v r)) h2 aFm ?_
  cbv;cases b2
  ·first | refine zC (.b (.l false)) h3 oD ?_ | refine zD (.b (.l false)) h3 oD ?_
   cbv;try (refine zE ?_;cbv)
   exact zR
  ·first | refine zC (.b (.l true)) h3 oD ?_ | refine zD (.b (.l true)) h3 oD ?_
   cbv;try (refine zE ?_;cbv)
   exact zR
 ·first | refine zC (.b (.l true)) h1 oD ?_ | refine zD (.b (.l true)) h1 oD ?_
  cbv;try (refine zE ?_;cbv)
  exact zR
theorem aYl {x:Rat}(hx:sz x<=2^28):Pure PP 127 [.string (aA x)] (.bool (!decide (1<x)&& !decide (x< -1))):=by
 have k2:=fP (aA x) (lTr (bP x) zW)
 rw[dA]at k2;change Pure _ _ _ (.bool true)at k2;have h:=aL9 (x:=x) (y:=1) hx (lTr (iY 1) (by rw[rF];decide));rw[rF]at h;generalize (!decide (1<x)&& !decide (x< -1))=b at h |-;generalize aA x=sx at h k2 |-;refine aH mixed tok [.s (.v sx)] Tryz.func127 rfl rfl rfl λc hc hR=>?_;apply zN hc;cbv;refine zC (.b (.l true)) k2 cC ?_;cbv;refine zC (.b (.l b)) h aDw ?_;cbv;exact zR
theorem aL5 {x:Rat}(hx:sz x<=2^28)(h1:-1<=x)(h2:x<=1):lK PP 207 [aA x] (.int .i64 0):=by
 have k2:=fP (aA x) (lTr (bP x) zW)
 rw[dA]at k2;change Pure _ _ _ (.bool true)at k2;have h:=aL9 (x:=x) (y:=1) hx (lTr (iY 1) (by rw[rF];decide));rw[rF,show(!decide (1<x)&& !decide (x< -1))=true by simp;grind]at h;clear h1 h2 hx;generalize aA x=s0 at k2 h |-;refine lK.of_fn (λX w v hX hv=>?_);obtain⟨R,hRR⟩:=nm (dN (.int .i64 0));obtain⟨K,hK⟩:=nm ([KF.cst v (rowT [s0])]);rw[<-hRR];refine bE mixed tok [.q v] (K:=K) Tryz.func207 rfl rfl (lbl rfl) rfl hX (by rw[hK];simp;exact hv) λc hc hR=>?_;refine yM 0 [s0] 1 rfl rfl rfl (λX μ a w v' H hv'=>bZ H (by rw[hK];exact .head _) hv') (λf hf=>?_);have e0:f 0=s0:=hf 0 _ rfl;clear hf;subst e0;apply zN hc;cbv;refine aZ 2 (λp hp=>?_);refine hp _ _ _ ?_;apply zN hc;cbv;refine aP hc ⟨kJ,trivial⟩ ?_;apply zN hc;cbv;refine zC (.b (.l true)) k2 cC ?_;cbv;refine hp _ _ _ ?_;apply zN hc;cbv;refine aZ 2 (λp hp=>?_);refine hp _ _ _ ?_;apply zN hc;cbv;refine aP hc ⟨kJ,trivial⟩ ?_;apply zN hc;cbv;refine zC (.b (.l true)) h aDw ?_;cbv;refine hp _ _ _ ?_;apply zN hc;cbv;refine aR hc hR rfl (λX μ a w v H hv=>?_);rw[hRR];simp only[aD]at hv;injection hv with hv
 exact hv.symm
end Go.Ai
namespace Go.Ai
open Go Go.Proofs Go.Num V3
theorem aUk:aA 2=⟨#[50]⟩:=(sR (s:=⟨#[50]⟩) (by decide+kernel)).symm
theorem aUm:aA (1/2)=⟨#[49,47,50]⟩:=(sR (s:=⟨#[49,47,50]⟩) (by decide+kernel)).symm
theorem sz2:sz 2<=1:=lTr (iY _) (by rw[aUk];decide)
theorem szh:sz (1/2)<=3:=lTr (iY _) (by rw[aUm];decide)
theorem aGw:sz 1<=1:=lTr (iY 1) (by rw[rF];decide)
theorem bEl (t:Rat):0<=t*t:=by
 rcases(Rat.le_total:(0:Rat)<=t\/t<=0)with h | h
 ·exact Rat.mul_nonneg h h
 ·have:0<=(-t)*(-t):=Rat.mul_nonneg (by grind) (by grind)
  grind
theorem aGj (t:Rat):(1:Rat)+t*t≠0:=by have:=bEl t;grind
def jA (t:Rat):Rat:=(1 - t*t)/(1+t*t)
def iR (t:Rat):Rat:=2*t/(1+t*t)
theorem qV {t:Rat}{k:Nat}(h:sz t<=k):sz (jA t)<=4*k+4:=by
 have h1:=sz_mm h h
 have h2:=sz_ss aGw h1
 have h3:=sz_aa aGw h1
 exact lTr (yQ _ _) zW
theorem qY {t:Rat}{k:Nat}(h:sz t<=k):sz (iR t)<=3*k+3:=by
 have h1:=sz_mm h h
 have h2:=sz_mm sz2 h
 have h3:=sz_aa aGw h1
 exact lTr (yQ _ _) zW
theorem bEq {t:Rat}(ht:sz t<=2^25)(h1:-1<=t)(h2:t<=1):Pure PP 175 [.string (aA t)] (.tuple #[.string (aA (jA t)),.int .i64 0]):=by
 have k0:=aL5 (lTr ht zV) h1 h2
 have hm:=sz_mm ht ht
 have k1:=aYn (x:=t) (y:=t) (lTr ht zV) (lTr ht zV)
 have k2:=bB5 (x:=1) (y:=t*t) sz1 (lTr hm zV)
 have k3:=bB3 (x:=1) (y:=t*t) sz1 (lTr hm zV)
 have k4:=bB4 (x:=1 - t*t) (y:=1+t*t) (aGj t) (lTr (sz_ss aGw hm) zV) (lTr (sz_aa aGw hm) zV)
 rw[show(1 - t*t)/(1+t*t)=jA t from rfl]at k4;rw[rF]at k2 k3;clear hm ht h1 h2;generalize aA (jA t)=r at k4 |-;generalize aA (1 - t*t)=p at k2 k4;generalize aA (1+t*t)=q at k3 k4;generalize aA (t*t)=m at k1 k2 k3;generalize aA t=s at k0 k1 |-;refine aH mixed tok [.s (.v s)] Tryz.func175 rfl rfl rfl λc hc hR=>?_;apply zN hc;cbv;refine qP hc (n:=1) (.i .i64 (.l 0)) k0 aG8 100 ?_;cbv;first | refine zC (.s (.v m)) k1 xO ?_ | refine zD (.s (.v m)) k1 xO ?_
 cbv;first | refine zC (.s (.v p)) k2 aFm ?_ | refine zD (.s (.v p)) k2 aFm ?_
 cbv;first | refine zC (.s (.v q)) k3 aFk ?_ | refine zD (.s (.v q)) k3 aFk ?_
 cbv;first | refine zC (.s (.v r)) k4 aFl ?_ | refine zD (.s (.v r)) k4 aFl ?_
 cbv;try (refine zE ?_;cbv)
 exact zR
theorem bEr {t:Rat}(ht:sz t<=2^25)(h1:-1<=t)(h2:t<=1):Pure PP 176 [.string (aA t)] (.tuple #[.string (aA (iR t)),.int .i64 0]):=by
 have k0:=aL5 (lTr ht zV) h1 h2
 have hm:=sz_mm ht ht
 have k1:=aYn (x:=t) (y:=t) (lTr ht zV) (lTr ht zV)
 have k2:=aYn (x:=2) (y:=t) (lTr sz2 zV) (lTr ht zV)
 have k3:=bB3 (x:=1) (y:=t*t) sz1 (lTr hm zV)
 have k4:=bB4 (x:=2*t) (y:=1+t*t) (aGj t) (lTr (sz_mm sz2 ht) zV) (lTr (sz_aa aGw hm) zV)
 rw[show 2*t/(1+t*t)=iR t from rfl]at k4;rw[rF]at k3;rw[aUk]at k2;clear hm ht h1 h2;generalize aA (iR t)=r at k4 |-;generalize aA (2*t)=p at k2 k4;generalize aA (1+t*t)=q at k3 k4;generalize aA (t*t)=m at k1 k3;generalize aA t=s at k0 k1 k2 |-;refine aH mixed tok [.s (.v s)] Tryz.func176 rfl rfl rfl λc hc hR=>?_;apply zN hc;cbv;refine qP hc (n:=1) (.i .i64 (.l 0)) k0 aG8 100 ?_;cbv;first | refine zC (.s (.v p)) k2 xO ?_ | refine zD (.s (.v p)) k2 xO ?_
 cbv;first | refine zC (.s (.v m)) k1 xO ?_ | refine zD (.s (.v m)) k1 xO ?_
 cbv;first | refine zC (.s (.v q)) k3 aFk ?_ | refine zD (.s (.v q)) k3 aFk ?_
 cbv;first | refine zC (.s (.v r)) k4 aFl ?_ | refine zD (.s (.v r)) k4 aFl ?_
 cbv;try (refine zE ?_;cbv)
 exact zR
theorem oQ:aB PP 129:=zK
theorem vY:aB PP 128:=zK
theorem rU:aB PP 80:=zK
theorem rT:aB PP 89:=zK
theorem aAq:aB PP 137:=zK
theorem aMn:aB PP 90:=zK
theorem aBe:aB PP 79:=zK
theorem bB9:aB PP 49:=zK
theorem aBf:aB PP 99:=zK
theorem aUc {x y:Rat}(hx:sz x<=2^29)(hy:sz y<=2^29):Pure PP 129 [.string (aA x),.string (aA y)] (.string (aA (x*y))):=by
 have h1:=aI1 hx hy
 generalize aA (x*y)=r,aA x=sx,aA y=sy at h1 |-;refine aH mixed tok [.s (.v sx),.s (.v sy)] Tryz.func129 rfl rfl rfl λc hc hR=>?_;apply zN hc;cbv;refine zC (.t [.s (.v r),.i .i64 (.l 0)]) h1 rS ?_;cbv;exact zR
theorem aYa {x y:Rat}(hx:sz x<=2^29)(hy:sz y<=2^29):Pure PP 128 [.string (aA x),.string (aA y)] (.bool (decide (x<y))):=by
 have h1:=aCn hx hy
 have e:=aMw x y
 generalize decide (x<y)=b at e |-;generalize kU x y=r at h1 e;generalize aA x=sx,aA y=sy at h1 |-;refine aH mixed tok [.s (.v sx),.s (.v sy)] Tryz.func128 rfl rfl rfl λc hc hR=>?_;apply zN hc;cbv;refine zC (.t [.i .i64 (.v r),.i .i64 (.l 0)]) h1 uM ?_;cbv;exact bR hc hR rfl (by show some (Value.bool (decide (r<0)))=_;rw[e])
theorem aW8 {x:Rat}(hx:sz x<=2^29):Pure PP 80 [.string (aA x)] (.string (aA (-x))):=by
 have h1:=aUc (x:=-1) (y:=x) bEm hx
 rw[show -1*x=-x by grind,aL2]at h1;generalize aA (-x)=r,aA x=sx at h1 |-;refine aH mixed tok [.s (.v sx)] Tryz.func80 rfl rfl rfl λc hc hR=>?_;apply zN hc;cbv;first | refine zC (.s (.v r)) h1 oQ ?_ | refine zD (.s (.v r)) h1 oQ ?_
 cbv;try (refine zE ?_;cbv)
 exact zR
theorem bBq (s t:ByteArray)(hs:s.size<=2^31)(ht:t.size<=2^31):Pure PP 89 [.agg #[.string s,.string t]] (.bool ((pM s.data.toList).isSome&&(pM t.data.toList).isSome)):=by
 have h1:=fP s hs
 have h2:=fP t ht
 generalize (pM s.data.toList).isSome=b1 at h1 |-;generalize (pM t.data.toList).isSome=b2 at h2 |-;refine aH mixed tok [.g [.s (.v s),.s (.v t)]] Tryz.func89 rfl rfl rfl λc hc hR=>?_;apply zN hc;cbv;cases b1
 ·first | refine zC (.b (.l false)) h1 cC ?_ | refine zD (.b (.l false)) h1 cC ?_
  cbv;try (refine zE ?_;cbv)
  exact zR
 ·first | refine zC (.b (.l true)) h1 cC ?_ | refine zD (.b (.l true)) h1 cC ?_
  cbv;first | refine zC (.b (.l b2)) h2 cC ?_ | refine zD (.b (.l b2)) h2 cC ?_
  cbv;try (refine zE ?_;cbv)
  exact zR
theorem aYb {t:Rat}(ht:sz t<=2^25)(h1:-1<=t)(h2:t<=1):Pure PP 137 [.string (aA t)] (.tuple #[.string (aA (jA t)),.string (aA (iR t))]):=by
 have k1:=bEq ht h1 h2
 have k2:=bEr ht h1 h2
 clear ht h1 h2;generalize aA (jA t)=c1 at k1 |-;generalize aA (iR t)=s1 at k2 |-;generalize aA t=s at k1 k2 |-;refine aH mixed tok [.s (.v s)] Tryz.func137 rfl rfl rfl λc hc hR=>?_;apply zN hc;cbv;first | refine zC (.t [.s (.v c1),.i .i64 (.l 0)]) k1 aQc ?_ | refine zD (.t [.s (.v c1),.i .i64 (.l 0)]) k1 aQc ?_
 cbv;first | refine zC (.t [.s (.v s1),.i .i64 (.l 0)]) k2 aQd ?_ | refine zD (.t [.s (.v s1),.i .i64 (.l 0)]) k2 aQd ?_
 cbv;try (refine zE ?_;cbv)
 exact zR
structure At where
 h:Rat
 t:Rat
def At.ok (a:At):Bool:=decide (-1<=a.h)&&decide (a.h<=1)&&decide (-(1/2)<=a.t)&&decide (a.t<=1/2)
def At.ahead (a:At):V3:=⟨jA a.t,-(iR a.h*iR a.t),jA a.h*iR a.t⟩
def At.side (a:At):V3:=⟨0,jA a.h,iR a.h⟩
def At.up (a:At):V3:=⟨-(iR a.t),-(iR a.h*jA a.t),jA a.h*jA a.t⟩
def At.le (a:At)(k:Nat):Prop:=sz a.h<=k/\sz a.t<=k
def atV (a:At):Value:=.agg #[.string (aA a.h),.string (aA a.t)]
theorem At.ok_iff (a:At):a.ok=true↔-1<=a.h/\a.h<=1/\-(1/2)<=a.t/\a.t<=1/2:=by
 unfold At.ok;simp[and_assoc]
theorem At.le_ahead {a:At}{k:Nat}(h:a.le k):a.ahead.le (7*k+7):=by
 have h1:=qV h.1
 have h2:=qY h.1
 have h3:=qV h.2
 have h4:=qY h.2
 refine⟨lTr h3 zW,?_,lTr (sz_mm h1 h4) zW⟩;show sz (-(_))<=_
 rw[qX];exact lTr (sz_mm h2 h4) zW
theorem At.le_side {a:At}{k:Nat}(h:a.le k):a.side.le (7*k+7):=by
 have h1:=qV h.1
 have h2:=qY h.1
 exact⟨lTr (iY 0) (by rw[gC];show 1<=_;omega),lTr h1 zW,lTr h2 zW⟩
theorem At.le_up {a:At}{k:Nat}(h:a.le k):a.up.le (8*k+8):=by
 have h1:=qV h.1
 have h2:=qY h.1
 have h3:=qV h.2
 have h4:=qY h.2
 refine⟨?_,?_,lTr (sz_mm h1 h3) zW⟩
 ·show sz (-(_))<=_
  rw[qX];exact lTr h4 zW
 ·show sz (-(_))<=_
  rw[qX];exact lTr (sz_mm h2 h3) zW
theorem aX9 {a:At}(ha:a.le (2^25))(hk:a.ok=true):Pure PP 90 [atV a] (.agg #[.string (aA a.ahead.x),.string (aA a.ahead.y),.string (aA a.ahead.z),.string ⟨#[48]⟩,.string (aA a.side.y),.string (aA a.side.z),.string (aA a.up.x),.string (aA a.up.y),.string (aA a.up.z)]):=by
 obtain⟨o1,o2,o3,o4⟩:=(At.ok_iff a).1 hk;have k1:=aYb ha.1 o1 o2;have k2:=aYb ha.2 (by grind) (by grind);have b1:=qV ha.1;have b2:=qY ha.1;have b3:=qV ha.2;have b4:=qY ha.2;have m1:=aUc (x:=iR a.h) (y:=iR a.t) (lTr b2 zV) (lTr b4 zV);have n1:=aW8 (x:=iR a.h*iR a.t) (lTr (sz_mm b2 b4) zV);have m2:=aUc (x:=jA a.h) (y:=iR a.t) (lTr b1 zV) (lTr b4 zV);have n2:=aW8 (x:=iR a.t) (lTr b4 zV);have m3:=aUc (x:=iR a.h) (y:=jA a.t) (lTr b2 zV) (lTr b3 zV);have n3:=aW8 (x:=iR a.h*jA a.t) (lTr (sz_mm b2 b3) zV);have m4:=aUc (x:=jA a.h) (y:=jA a.t) (lTr b1 zV) (lTr b3 zV);clear b1 b2 b3 b4 o1 o2 o3 o4 ha hk;unfold At.ahead At.side At.up atV;dsimp only;generalize aA (-(iR a.h*iR a.t))=x1,aA (iR a.h*iR a.t)=x2,aA (jA a.h*iR a.t)=x3,aA (-iR a.t)=x4,aA (-(iR a.h*jA a.t))=x5,aA (iR a.h*jA a.t)=x6,aA (jA a.h*jA a.t)=x7,aA (jA a.h)=ch,aA (iR a.h)=sh,aA (jA a.t)=ct,aA (iR a.t)=st,aA a.h=h,aA a.t=t at *;refine aH mixed tok [.g [.s (.v h),.s (.v t)]] Tryz.func90 rfl rfl rfl λc hc hR=>?_;apply zN hc;cbv;first | refine zC (.t [.s (.v ch),.s (.v sh)]) k1 aAq ?_ | refine zD (.t [.s (.v ch),.s (.v sh)]) k1 aAq ?_
 cbv;first | refine zC (.t [.s (.v ct),.s (.v st)]) k2 aAq ?_ | refine zD (.t [.s (.v ct),.s (.v st)]) k2 aAq ?_
 cbv;first | refine zC (.s (.v x2)) m1 oQ ?_ | refine zD (.s (.v x2)) m1 oQ ?_
 cbv;first | refine zC (.s (.v x1)) n1 rU ?_ | refine zD (.s (.v x1)) n1 rU ?_
 cbv;first | refine zC (.s (.v x3)) m2 oQ ?_ | refine zD (.s (.v x3)) m2 oQ ?_
 cbv;first | refine zC (.s (.v x4)) n2 rU ?_ | refine zD (.s (.v x4)) n2 rU ?_
 cbv;first | refine zC (.s (.v x6)) m3 oQ ?_ | refine zD (.s (.v x6)) m3 oQ ?_
 cbv;first | refine zC (.s (.v x5)) n3 rU ?_ | refine zD (.s (.v x5)) n3 rU ?_
 cbv;first | refine zC (.s (.v x7)) m4 oQ ?_ | refine zD (.s (.v x7)) m4 oQ ?_
 cbv;try (refine zE ?_;cbv)
 exact zR
end Go.Ai
