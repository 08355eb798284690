/- Part 18: lemmas for garboardlaw17.FloatDivides -/
import Derived.Test.YtmnancfboococaaGreatDoorPd16
set_option linter.all false
namespace Go.Ai
open Go Go.Proofs Go.Num V3
def At.code (a:At):Int:=if a.ok=true then 0 else 2
theorem At.ok_b (a:At):a.ok=((!decide (1<a.h)&& !decide (a.h< -1))&& !decide (1/2<a.t)&& !decide (a.t< -(1/2))):=by
 unfold At.ok;rw[Bool.eq_iff_iff];simp;grind
theorem aT9 {a:At}(ha:a.le (2^25)):Pure PP 79 [atV a] (.int .i64 a.code):=by
 have k0:=bBq (aA a.h) (aA a.t) (lTr (bP a.h) (by have:=ha.1;omega)) (lTr (bP a.t) (by have:=ha.2;omega))
 rw[dA,dA]at k0;change Pure _ _ _ (.bool true)at k0;have k1:=aYl (x:=a.h) (lTr ha.1 zV);have k2:=aYa (x:=1/2) (y:=a.t) (lTr szh zV) (lTr ha.2 zV);have k3:=aW8 (x:=1/2) (lTr szh zV);have k4:=aYa (x:=a.t) (y:=-(1/2)) (lTr ha.2 zV) (by rw[qX];exact lTr szh zV);rw[aUm]at k2 k3;have e:=At.ok_b a;unfold At.code;generalize a.ok=ok at e |-;generalize (!decide (1<a.h)&& !decide (a.h< -1))=b1 at k1 e;generalize decide (1/2<a.t)=b2 at k2 e;generalize decide (a.t< -(1/2))=b3 at k4 e;unfold atV at *;generalize aA (-(1/2))=q at k3 k4;generalize aA a.h=h,aA a.t=t at *;clear ha;cases b1
 ·have e:ok=false:=by rw[e];rfl
  subst e;refine aH mixed tok [.g [.s (.v h),.s (.v t)]] Tryz.func79 rfl rfl rfl λc hc hR=>?_;apply zN hc;cbv;refine zC (.b (.l true)) k0 rT ?_;cbv;refine zD (.b (.l false)) k1 vR ?_;cbv;refine zE ?_;cbv;exact zR
 cases b2 with
 | true=>
  have e:ok=false:=by rw[e];rfl
  subst e;refine aH mixed tok [.g [.s (.v h),.s (.v t)]] Tryz.func79 rfl rfl rfl λc hc hR=>?_;apply zN hc;cbv;refine zC (.b (.l true)) k0 rT ?_;cbv;refine zD (.b (.l true)) k1 vR ?_;cbv;refine zD (.b (.l true)) k2 vY ?_;cbv;refine zE ?_;cbv;exact zR
 | false=>
 cases b3 with
 | true=>
  have e:ok=false:=by rw[e];rfl
  subst e;refine aH mixed tok [.g [.s (.v h),.s (.v t)]] Tryz.func79 rfl rfl rfl λc hc hR=>?_;apply zN hc;cbv;refine zC (.b (.l true)) k0 rT ?_;cbv;refine zD (.b (.l true)) k1 vR ?_;cbv;refine zD (.b (.l false)) k2 vY ?_;cbv;refine zD (.s (.v q)) k3 rU ?_;cbv;refine zD (.b (.l true)) k4 vY ?_;cbv;refine zE ?_;cbv;exact zR
 | false=>
  have e:ok=true:=by rw[e];rfl
  subst e;refine aH mixed tok [.g [.s (.v h),.s (.v t)]] Tryz.func79 rfl rfl rfl λc hc hR=>?_;apply zN hc;cbv;refine zC (.b (.l true)) k0 rT ?_;cbv;refine zD (.b (.l true)) k1 vR ?_;cbv;refine zD (.b (.l false)) k2 vY ?_;cbv;refine zD (.s (.v q)) k3 rU ?_;cbv;refine zD (.b (.l false)) k4 vY ?_;cbv;refine zE ?_;cbv;exact zR
def aZo (a:At):Value:=.agg #[.string (aA a.ahead.x),.string (aA a.ahead.y),.string (aA a.ahead.z),.string ⟨#[48]⟩,.string (aA a.side.y),.string (aA a.side.z),.string (aA a.up.x),.string (aA a.up.y),.string (aA a.up.z)]
theorem tOf {a:At}(ha:a.le (2^25))(hk:a.ok=true):Pure PP 49 [atV a] (.tuple #[aZo a,.int .i64 0]):=by
 have k1:=aT9 ha
 have k2:=aX9 ha hk
 unfold At.code at k1;rw[if_pos hk]at k1;unfold aZo atV at *;generalize aA a.ahead.x=x0,aA a.ahead.y=x1,aA a.ahead.z=x2,aA a.side.y=x4,aA a.side.z=x5,aA a.up.x=x6,aA a.up.y=x7,aA a.up.z=x8,aA a.h=h,aA a.t=t at *;clear ha hk;refine aH mixed tok [.g [.s (.v h),.s (.v t)]] Tryz.func49 rfl rfl rfl λc hc hR=>?_;apply zN hc;cbv;refine zC (.i .i64 (.l 0)) k1 aBe ?_;cbv;refine zC (.g [.s (.v x0),.s (.v x1),.s (.v x2),.s (.v ⟨#[48]⟩),.s (.v x4),.s (.v x5),.s (.v x6),.s (.v x7),.s (.v x8)]) k2 aMn ?_;cbv;exact zR
def At.water (a:At)(d:Rat):Pl:=⟨a.up,d⟩
theorem aUa {a:At}{d:Rat}(ha:a.le (2^25))(hd:sz d<=2^25):Pure PP 99 [atV a,.string (aA d)] (if a.ok=true then .tuple #[nZ (a.water d),.int .i64 0]else .tuple #[.agg #[.string ⟨#[]⟩,.string ⟨#[]⟩,.string ⟨#[]⟩,.string ⟨#[]⟩],.int .i64 2]):=by
 have k0:=bBq (aA a.h) (aA a.t) (lTr (bP a.h) (by have:=ha.1;omega)) (lTr (bP a.t) (by have:=ha.2;omega))
 rw[dA,dA]at k0;change Pure _ _ _ (.bool true)at k0;have kd:=fP (aA d) (lTr (bP d) zW);rw[dA]at kd;change Pure _ _ _ (.bool true)at kd;have k1:=aT9 ha;have k2:=aX9 ha;unfold At.code at k1;cases hk:a.ok with
 | true=>
  rw[if_pos hk]at k1;rw[if_pos rfl];have k2:=k2 hk;unfold At.water nZ;dsimp only;unfold atV at *;generalize aA a.ahead.x=x0,aA a.ahead.y=x1,aA a.ahead.z=x2,aA a.side.y=x4,aA a.side.z=x5,aA a.up.x=x6,aA a.up.y=x7,aA a.up.z=x8,aA a.h=h,aA a.t=t,aA d=sd at *;clear ha hk hd;refine aH mixed tok [.g [.s (.v h),.s (.v t)],.s (.v sd)] Tryz.func99 rfl rfl rfl λc hc hR=>?_;apply zN hc;cbv;refine zC (.b (.l true)) k0 rT ?_;cbv;refine zC (.b (.l true)) kd cC ?_;cbv;refine zC (.i .i64 (.l 0)) k1 aBe ?_;cbv;refine zC (.g [.s (.v x0),.s (.v x1),.s (.v x2),.s (.v ⟨#[48]⟩),.s (.v x4),.s (.v x5),.s (.v x6),.s (.v x7),.s (.v x8)]) k2 aMn ?_;cbv;exact zR
 | false=>
  rw[hk]at k1;rw[if_neg zV]at k1 |-;clear k2;unfold atV at *;generalize aA a.h=h,aA a.t=t,aA d=sd at *;clear ha hk hd;refine aH mixed tok [.g [.s (.v h),.s (.v t)],.s (.v sd)] Tryz.func99 rfl rfl rfl λc hc hR=>?_;apply zN hc;cbv;refine zC (.b (.l true)) k0 rT ?_;cbv;refine zC (.b (.l true)) kd cC ?_;cbv;refine zC (.i .i64 (.l 2)) k1 aBe ?_;cbv;exact zR
theorem aL1 {h t d:ByteArray}(hh:h.size<=2^31)(ht:t.size<=2^31)(hd:d.size<=2^31)(aDe:(gQ h&&gQ t&&gQ d)=false):Pure PP 99 [.agg #[.string h,.string t],.string d] (.tuple #[.agg #[.string ⟨#[]⟩,.string ⟨#[]⟩,.string ⟨#[]⟩,.string ⟨#[]⟩],.int .i64 1]):=by
 have k0:=bBq h t hh ht
 have kd:=fP d hd
 change (((pM h.data.toList).isSome&&(pM t.data.toList).isSome)&&(pM d.data.toList).isSome)=false at aDe
 generalize ((pM h.data.toList).isSome&&(pM t.data.toList).isSome)=b0,(pM d.data.toList).isSome=b1 at *;cases b0 with
 | false=>
  refine aH mixed tok [.g [.s (.v h),.s (.v t)],.s (.v d)] Tryz.func99 rfl rfl rfl λc hc hR=>?_;apply zN hc;cbv;refine zC (.b (.l false)) k0 rT ?_;cbv;exact zR
 | true=>
  have e:b1=false:=by simpa using aDe
  subst e;clear aDe;refine aH mixed tok [.g [.s (.v h),.s (.v t)],.s (.v d)] Tryz.func99 rfl rfl rfl λc hc hR=>?_;apply zN hc;cbv;refine zC (.b (.l true)) k0 rT ?_;cbv;refine zC (.b (.l false)) kd cC ?_;cbv;exact zR
theorem eG {x y:AV}(h:∀μ,aD μ x=aD μ y){v:Value}(hv:aD iN y=some v:=by exact rfl):aF iN [x]=some [v]:=by simp[aF,h,hv]
theorem aOg:aB PP 67:=zK
def bBo (l:List Tri):Rat:=l.foldl (λs t=>s+t.det) 0
def bG0 (l:List Tri):Rat:=bBo l*(1/6)
theorem qU:sz 0<=1:=lTr (iY 0) (by rw[gC];decide)
theorem cL {μ:Mu}{v u:Value}(h:aD μ (.q v)=some u):u=v:=by simp only[aD]at h;injection h with h;exact h.symm
theorem aWd {m:Ms}(hm:m.le (2^26)):Pure PP 67 [pK m] (if m.v=0 then .tuple #[.agg #[.string ⟨#[]⟩,.string ⟨#[]⟩,.string ⟨#[]⟩],.int .i64 16]else .tuple #[gE (m.f.scale (1/m.v)),.int .i64 0]):=by
 have k0:=bAu (hm.mono zV)
 by_cases h0:m.v=0
 ·rw[if_pos h0];have z0:aA m.v=⟨#[48]⟩:=by rw[h0];exact gC
  unfold pK at *;rw[z0]at k0 |-;clear hm h0 z0;generalize aA m.f.x=a1,aA m.f.y=a2,aA m.f.z=a3,aA m.xx=a4,aA m.yy=a5,aA m.zz=a6,aA m.xy=a7,aA m.yz=a8,aA m.zx=a9 at *;refine aH mixed tok [.g [.s (.v ⟨#[48]⟩),.s (.v a1),.s (.v a2),.s (.v a3),.s (.v a4),.s (.v a5),.s (.v a6),.s (.v a7),.s (.v a8),.s (.v a9)]] Tryz.func67 rfl rfl rfl λc hc hR=>?_;apply zN hc;cbv;refine zC (.b (.l true)) k0 aHe ?_;cbv;refine aE rfl 100 (λh=>?_) (λh=>by rw[aLs]at h;exact absurd rfl (of_decide_eq_false h));cbv;exact zR
 ·rw[if_neg h0];have k1:=bA2 (x:=1) (y:=m.v) h0 sz1 (lTr hm.1 zV);rw[rF]at k1;have k2:=bBt (u:=m.f) (q:=1/m.v) (hm.2.1.mono zV) (lTr (yQ _ _) (by have:=aGw;have:=hm.1;omega));have z0:=λh=>(h0 (is0 (q:=m.v) h)).elim (C:=False);unfold pK gE lE at *;clear hm h0;generalize aA (m.f.scale (1/m.v)).x=r1,aA (m.f.scale (1/m.v)).y=r2,aA (m.f.scale (1/m.v)).z=r3,aA (1/m.v)=q,aA m.v=a0,aA m.f.x=a1,aA m.f.y=a2,aA m.f.z=a3,aA m.xx=a4,aA m.yy=a5,aA m.zz=a6,aA m.xy=a7,aA m.yz=a8,aA m.zx=a9 at *;refine aH mixed tok [.g [.s (.v a0),.s (.v a1),.s (.v a2),.s (.v a3),.s (.v a4),.s (.v a5),.s (.v a6),.s (.v a7),.s (.v a8),.s (.v a9)]] Tryz.func67 rfl rfl rfl λc hc hR=>?_;apply zN hc;cbv;refine zC (.b (.l true)) k0 aHe ?_;cbv;refine aE rfl 100 (λh=>(z0 h).elim) (λh=>?_);cbv;refine zC (.t [.s (.v q),.i .i64 (.l 0)]) k1 aKb ?_;cbv;refine zC (.t [.g [.s (.v r1),.s (.v r2),.s (.v r3)],.i .i64 (.l 0)]) k2 aQ1 ?_;cbv;exact zR
theorem oE:aB PP 184:=zK
theorem aDy:aB PP 183:=zK
theorem aFn:aB PP 182:=zK
theorem aQf:aB PP 147:=zK
theorem mP:aB PP 211:=zK
structure Pl.fit (p:Pl)(k:Nat):Prop where
 h0:p.n≠V3.zero
 hn:p.n.le k
 ha:sz p.a<=k
theorem Pl.fit.mono {p:Pl}{k m:Nat}(h:p.fit k)(hm:k<=m):p.fit m:=⟨h.h0,h.hn.mono hm,lTr h.ha hm⟩
def Pl.over (p:Pl)(v:V3):Bool:=decide (0<p.height v)
theorem aDv {p:Pl}{u v:V3}(hp:p.fit (2^24))(hu:u.le (2^24))(hv:v.le (2^24))(hd:p.over u≠p.over v):Pure PP 184 [nZ p,gE u,gE v] (gE (p.cut u v)):=by
 have k1:=aFb hp.h0 hp.hn hp.ha hu hv (by
  unfold Pl.over at hd;by_cases h1:0<p.height u<;>by_cases h2:0<p.height v<;>simp[h1,h2]at hd |-)
 clear hp hu hv hd;unfold nZ gE lE at *;generalize aA p.n.x=a,aA p.n.y=b,aA p.n.z=d at *;generalize aA p.a=t,aA u.x=a',aA u.y=b',aA u.z=d',aA v.x=a2,aA v.y=b2,aA v.z=d2,aA (p.cut u v).x=y1,aA (p.cut u v).y=y2,aA (p.cut u v).z=y3 at *;refine aH mixed tok [.g [.s (.v a),.s (.v b),.s (.v d),.s (.v t)],iU a' b' d',iU a2 b2 d2] Tryz.func184 rfl rfl rfl λc hc hR=>?_;apply zN hc;cbv;refine zC (.t [iU y1 y2 y3,.i .i64 (.l 0)]) k1 dE ?_;cbv;exact zR
def Tri.rot (t:Tri):Nat->Tri
 | 0=>t
 | 1=>⟨t.b,t.c,t.a⟩
 | _=>⟨t.c,t.a,t.b⟩
theorem aU6 (t:Tri){i:Nat}(hi:i<3):Pure PP 183 [nW t,.int .i64 i] (nW (t.rot i)):=by
 unfold nW;match i,hi with
 | 0,_=>
  rw[show t.rot 0=t from rfl];generalize aA t.a.x=a1,aA t.a.y=a2,aA t.a.z=a3,aA t.b.x=b1,aA t.b.y=b2,aA t.b.z=b3,aA t.c.x=c1,aA t.c.y=c2,aA t.c.z=c3 at *;refine aH mixed tok [.g [.s (.v a1),.s (.v a2),.s (.v a3),.s (.v b1),.s (.v b2),.s (.v b3),.s (.v c1),.s (.v c2),.s (.v c3)],.i .i64 (.l 0)] Tryz.func183 rfl rfl rfl λc hc hR=>?_;apply zN hc;cbv;refine aP hc ⟨qL,qL,trivial⟩ ?_;refine zE ?_;cbv;exact zR
 | 1,_=>
  rw[show t.rot 1=⟨t.b,t.c,t.a⟩ from rfl];generalize aA t.a.x=a1,aA t.a.y=a2,aA t.a.z=a3,aA t.b.x=b1,aA t.b.y=b2,aA t.b.z=b3,aA t.c.x=c1,aA t.c.y=c2,aA t.c.z=c3 at *;refine aH mixed tok [.g [.s (.v a1),.s (.v a2),.s (.v a3),.s (.v b1),.s (.v b2),.s (.v b3),.s (.v c1),.s (.v c2),.s (.v c3)],.i .i64 (.l 1)] Tryz.func183 rfl rfl rfl λc hc hR=>?_;apply zN hc;cbv;refine aP hc ⟨qL,qL,trivial⟩ ?_;refine zE ?_;cbv;exact zR
 | 2,_=>
  rw[show t.rot 2=⟨t.c,t.a,t.b⟩ from rfl];generalize aA t.a.x=a1,aA t.a.y=a2,aA t.a.z=a3,aA t.b.x=b1,aA t.b.y=b2,aA t.b.z=b3,aA t.c.x=c1,aA t.c.y=c2,aA t.c.z=c3 at *;refine aH mixed tok [.g [.s (.v a1),.s (.v a2),.s (.v a3),.s (.v b1),.s (.v b2),.s (.v b3),.s (.v c1),.s (.v c2),.s (.v c3)],.i .i64 (.l 2)] Tryz.func183 rfl rfl rfl λc hc hR=>?_;apply zN hc;cbv;refine aP hc ⟨qL,qL,trivial⟩ ?_;refine zE ?_;cbv;exact zR
def aDd:Bool->Bool->Bool->Int × Bool
 | true,true,true=>(-1,true)
 | false,false,false=>(-1,false)
 | true,false,false=>(0,true)
 | false,true,false=>(1,true)
 | false,false,true=>(2,true)
 | false,true,true=>(0,false)
 | true,false,true=>(1,false)
 | true,true,false=>(2,false)
def Tri.cutP (t:Tri)(p:Pl):Int × Bool:=aDd (p.over t.a) (p.over t.b) (p.over t.c)
theorem xZ {μ:Mu}{a b d a' b' d':BE}(h1:a.den=a'.den)(h2:b.den=b'.den)(h3:d.den=d'.den):aF μ [.b a,.b b,.b d]=aF μ [.b a',.b b',.b d']:=by
 simp[aF,aD,h1,h2,h3]
theorem bEs {t:Tri}{p:Pl}(hp:p.fit (2^26))(ht:t.le (2^26)):Pure PP 182 [nW t,nZ p] (.tuple #[.int .i64 (t.cutP p).1,.bool (t.cutP p).2]):=by
 have k1:=aJu hp.h0 hp.hn hp.ha ht.1
 have k2:=aJu hp.h0 hp.hn hp.ha ht.2.1
 have k3:=aJu hp.h0 hp.hn hp.ha ht.2.2
 have e1:=pE (p.height t.a)
 have e2:=pE (p.height t.b)
 have e3:=pE (p.height t.c)
 obtain⟨r,hr⟩:=nm (t.cutP p);rw[<-hr];unfold Tri.cutP Pl.over at hr;rw[<-e1,<-e2,<-e3]at hr;clear e1 e2 e3 hp ht;generalize kU (p.height t.a) 0=s1,kU (p.height t.b) 0=s2,kU (p.height t.c) 0=s3 at *;unfold nZ nW gE lE at *;generalize aA p.n.x=q1,aA p.n.y=q2,aA p.n.z=q3,aA p.a=q4,aA t.a.x=a1,aA t.a.y=a2,aA t.a.z=a3,aA t.b.x=b1,aA t.b.y=b2,aA t.b.z=b3,aA t.c.x=c1,aA t.c.y=c2,aA t.c.z=c3 at *;refine aH mixed tok [.g [.s (.v a1),.s (.v a2),.s (.v a3),.s (.v b1),.s (.v b2),.s (.v b3),.s (.v c1),.s (.v c2),.s (.v c3)],.g [.s (.v q1),.s (.v q2),.s (.v q3),.s (.v q4)]] Tryz.func182 rfl rfl rfl λc hc hR=>?_;apply zN hc;cbv;refine aZ 4 (λp hp=>?_);refine hp _ _ _ ?_;apply zN hc;cbv;refine zC (.t [.i .i64 (.v s1),.i .i64 (.l 0)]) k1 mD ?_;cbv;refine aE rfl 100 (λh1=>?_) (λh1=>?_)
 ·have bb1:decide (0<s1)=true:=h1
  cbv;refine hp _ _ _ ?_;apply zN hc;cbv;refine zC (.t [.i .i64 (.v s2),.i .i64 (.l 0)]) k2 mD ?_;cbv;refine aE rfl 100 (λh2=>?_) (λh2=>?_)
  ·have bb2:decide (0<s2)=true:=h2
   cbv;refine hp _ _ _ ?_;apply zN hc;cbv;refine zC (.t [.i .i64 (.v s3),.i .i64 (.l 0)]) k3 mD ?_;cbv;refine aE rfl 100 (λh3=>?_) (λh3=>?_)
   ·have bb3:decide (0<s3)=true:=h3
    cbv;refine hp _ _ _ ?_;apply zN hc;cbv;exact bR hc hR rfl (by rw[hr,bb1,bb2,bb3];rfl)
   ·have bb3:decide (0<s3)=false:=h3
    cbv;refine iA 2 [.b (.l true),.b (.l true),.b (.l false)] rfl rfl (λμ=>by rw[xZ (a':=.l true) (b':=.l true) (d':=.l false) h1 h2 h3]) ?_;refine hp _ _ _ ?_;apply zN hc;cbv;refine cP hc Tryz.func211 mP (λc' tm FR hFR hc' L=>?_);apply zN hc';cbv;refine aZ 4 (λq hq=>?_);refine hq _ _ _ ?_;apply zN hc';cbv;refine aE (hc:=hc') rfl 100 (λh=>nomatch (show false=true from h)) (λh=>?_);cbv;refine hq _ _ _ ?_;apply zN hc';cbv;refine aE (hc:=hc') rfl 100 (λh=>nomatch (show false=true from h)) (λh=>?_);cbv;refine hq _ _ _ ?_;apply zN hc';cbv;refine aE (hc:=hc') rfl 100 (λh=>?_) (λh=>nomatch (show true=false from h));cbv;refine cK hc' L hFR (.head _) ?_;apply zN hc;cbv;exact bR hc hR rfl (by rw[hr,bb1,bb2,bb3];rfl)
  ·have bb2:decide (0<s2)=false:=h2
   cbv;refine hp _ _ _ ?_;apply zN hc;cbv;refine zC (.t [.i .i64 (.v s3),.i .i64 (.l 0)]) k3 mD ?_;cbv;refine aE rfl 100 (λh3=>?_) (λh3=>?_)
   ·have bb3:decide (0<s3)=true:=h3
    cbv;refine iA 2 [.b (.l true),.b (.l false),.b (.l true)] rfl rfl (λμ=>by rw[xZ (a':=.l true) (b':=.l false) (d':=.l true) h1 h2 h3]) ?_;refine hp _ _ _ ?_;apply zN hc;cbv;refine cP hc Tryz.func211 mP (λc' tm FR hFR hc' L=>?_);apply zN hc';cbv;refine aZ 4 (λq hq=>?_);refine hq _ _ _ ?_;apply zN hc';cbv;refine aE (hc:=hc') rfl 100 (λh=>nomatch (show false=true from h)) (λh=>?_);cbv;refine hq _ _ _ ?_;apply zN hc';cbv;refine aE (hc:=hc') rfl 100 (λh=>?_) (λh=>nomatch (show true=false from h));cbv;refine cK hc' L hFR (.head _) ?_;apply zN hc;cbv;exact bR hc hR rfl (by rw[hr,bb1,bb2,bb3];rfl)
   ·have bb3:decide (0<s3)=false:=h3
    cbv;refine iA 2 [.b (.l true),.b (.l false),.b (.l false)] rfl rfl (λμ=>by rw[xZ (a':=.l true) (b':=.l false) (d':=.l false) h1 h2 h3]) ?_;refine hp _ _ _ ?_;apply zN hc;cbv;refine cP hc Tryz.func211 mP (λc' tm FR hFR hc' L=>?_);apply zN hc';cbv;refine aZ 4 (λq hq=>?_);refine hq _ _ _ ?_;apply zN hc';cbv;refine aE (hc:=hc') rfl 100 (λh=>?_) (λh=>nomatch (show true=false from h));cbv;refine cK hc' L hFR (.head _) ?_;apply zN hc;cbv;exact bR hc hR rfl (by rw[hr,bb1,bb2,bb3];rfl)
 ·have bb1:decide (0<s1)=false:=h1
  cbv;refine hp _ _ _ ?_;apply zN hc;cbv;refine zC (.t [.i .i64 (.v s2),.i .i64 (.l 0)]) k2 mD ?_;cbv;refine aE rfl 100 (λh2=>?_) (λh2=>?_)
  ·have bb2:decide (0<s2)=true:=h2
   cbv;refine hp _ _ _ ?_;apply zN hc;cbv;refine zC (.t [.i .i64 (.v s3),.i .i64 (.l 0)]) k3 mD ?_;cbv;refine aE rfl 100 (λh3=>?_) (λh3=>?_)
   ·have bb3:decide (0<s3)=true:=h3
    cbv;refine iA 2 [.b (.l false),.b (.l true),.b (.l true)] rfl rfl (λμ=>by rw[xZ (a':=.l false) (b':=.l true) (d':=.l true) h1 h2 h3]) ?_;refine hp _ _ _ ?_;apply zN hc;cbv;refine cP hc Tryz.func211 mP (λc' tm FR hFR hc' L=>?_);apply zN hc';cbv;refine aZ 4 (λq hq=>?_);refine hq _ _ _ ?_;apply zN hc';cbv;refine aE (hc:=hc') rfl 100 (λh=>?_) (λh=>nomatch (show true=false from h));cbv;refine cK hc' L hFR (.head _) ?_;apply zN hc;cbv;exact bR hc hR rfl (by rw[hr,bb1,bb2,bb3];rfl)
   ·have bb3:decide (0<s3)=false:=h3
    cbv;refine iA 2 [.b (.l false),.b (.l true),.b (.l false)] rfl rfl (λμ=>by rw[xZ (a':=.l false) (b':=.l true) (d':=.l false) h1 h2 h3]) ?_;refine hp _ _ _ ?_;apply zN hc;cbv;refine cP hc Tryz.func211 mP (λc' tm FR hFR hc' L=>?_);apply zN hc';cbv;refine aZ 4 (λq hq=>?_);refine hq _ _ _ ?_;apply zN hc';cbv;refine aE (hc:=hc') rfl 100 (λh=>nomatch (show false=true from h)) (λh=>?_);cbv;refine hq _ _ _ ?_;apply zN hc';cbv;refine aE (hc:=hc') rfl 100 (λh=>?_) (λh=>nomatch (show true=false from h));cbv;refine cK hc' L hFR (.head _) ?_;apply zN hc;cbv;exact bR hc hR rfl (by rw[hr,bb1,bb2,bb3];rfl)
  ·have bb2:decide (0<s2)=false:=h2
   cbv;refine hp _ _ _ ?_;apply zN hc;cbv;refine zC (.t [.i .i64 (.v s3),.i .i64 (.l 0)]) k3 mD ?_;cbv;refine aE rfl 100 (λh3=>?_) (λh3=>?_)
   ·have bb3:decide (0<s3)=true:=h3
    cbv;refine iA 2 [.b (.l false),.b (.l false),.b (.l true)] rfl rfl (λμ=>by rw[xZ (a':=.l false) (b':=.l false) (d':=.l true) h1 h2 h3]) ?_;refine hp _ _ _ ?_;apply zN hc;cbv;refine cP hc Tryz.func211 mP (λc' tm FR hFR hc' L=>?_);apply zN hc';cbv;refine aZ 4 (λq hq=>?_);refine hq _ _ _ ?_;apply zN hc';cbv;refine aE (hc:=hc') rfl 100 (λh=>nomatch (show false=true from h)) (λh=>?_);cbv;refine hq _ _ _ ?_;apply zN hc';cbv;refine aE (hc:=hc') rfl 100 (λh=>nomatch (show false=true from h)) (λh=>?_);cbv;refine hq _ _ _ ?_;apply zN hc';cbv;refine aE (hc:=hc') rfl 100 (λh=>?_) (λh=>nomatch (show true=false from h));cbv;refine cK hc' L hFR (.head _) ?_;apply zN hc;cbv;exact bR hc hR rfl (by rw[hr,bb1,bb2,bb3];rfl)
   ·have bb3:decide (0<s3)=false:=h3
    cbv;refine hp _ _ _ ?_;apply zN hc;cbv;exact bR hc hR rfl (by rw[hr,bb1,bb2,bb3];rfl)
end Go.Ai
namespace Go.Ai
open Go Go.RowKit
def OF.rk (k:Nat)(base e sz n:Nat)(xs:List Value):OF where
 F μ b:=∃v,μ k=some (.val v)/\v.ownBlock=some b
 p μ w:=∃v,μ k=some (.val v)/\(∃a cap,v=.slice a n cap)/\w.ownsRow base e sz v n xs
 st μ μ' w w' hv hk h:=by
  obtain⟨v,h1,⟨a,cap,rfl⟩,h2⟩:=h;have h1':=hv.fx _ _ rfl h1;have hF:∀b,(Value.slice a n cap).ownBlock=some b->w'.heap[b]?=w.heap[b]?:=λb hb=>hk b ⟨_,h1,hb⟩;refine⟨⟨_,h1',⟨a,cap,rfl⟩,h2.1,?_⟩,λb=>?_⟩
  ·rcases h2.2 with hn | ⟨g,aS,cur,e1,hb,hg,hr⟩
   ·exact .inl hn
   ·exact .inr ⟨g,aS,cur,e1,hb,by rw[hF g (by rw[e1];simp[Value.ownBlock])];exact hg,hr⟩
  ·constructor
   ·rintro ⟨u,q1,q2⟩;rw[h1']at q1;injection q1 with q1;injection q1 with q1;subst q1;exact⟨_,h1,q2⟩
   ·rintro ⟨u,q1,q2⟩;rw[h1]at q1;injection q1 with q1;injection q1 with q1;subst q1;exact⟨_,h1',q2⟩
section
variable {c:Cx}{P:Program}{ty:Nat->Option TyI}{nt:Nat}{K:List KF}{S:St}
theorem aFx (hcP:c.P=P)(bC4:c.ty=ty){o:Oper}{n0:Nat}{D:Nat->Prop}{t e bt j n cap:Nat}{x y:Operand}{a0:Option Addr}{ti ei:TyI}{xs news:List Value}{cells:List AV}{pre post:List OF}{bytes sz m:Nat}
  (hop:o.op=.call {callee:=.builtin .append,args:=#[x,y],argTypes:=#[t,t]}) (hx:fE S.sl x=some (.xs a0 n cap)) (hy:fE S.sl y=some (.sl j 0 (.l (m:Int)) m)) (hm:Nat.ble 1 m=true) (hj:S.hp[j]?=some (.c bt cells)) (iF:aF iN cells=some news) (kB:cells.all AV.one=true) (hlen:cells.length=m*sz) (h0:Nat.ble 1 sz=true) (how:S.ow=pre++OF.rv (.slice a0 n cap) c.B.heap.size e sz n xs::post)
  (hti:ty t=some ti) (hk:ti.kind=.slice e sz) (hei:ty e=some ei) (hzs:ei.zero.length=sz) (hby:(P.info? e).map (·.bytes)=some bytes) (hle:(n+m)*bytes<=140737488355328) (h63:n+m<=9223372036854775807)
  (hD:∀t,Operand.tmp t∈o.op.operands->D t):
  Cert c K n0 D S o (.e S.hp.length) (some .e) [] (OF.rk S.hp.length c.B.heap.size e sz (n+m) (xs++news)::(pre++post)):=by
 intro X μ a w next Q P' hfr hn
 rw[hop]at hD;have hm1:1<=m:=lbl hm;have hs1:1<=sz:=lbl h0;have e1:=jH (aG P' hx (λt e=>hD t (by subst e;simp[Op.operands,Call.operands])));obtain⟨b,o1,hb1,e2⟩:=lM (aG P' hy (λt e=>hD t (by subst e;simp[Op.operands,Call.operands]))) (by simp only[IE.den];omega);simp only[IE.den]at e2;obtain⟨mv,hv1,hv2⟩:=uG hb1;have hok:=P'.heap j _ mv hj hv1;match mv,hv2,hok,hv1 with
 | .own b',hv2,hok,hv1=>
  simp only[MV.at,Option.some.injEq,Prod.mk.injEq]at hv2;obtain⟨rfl,rfl⟩:=hv2;obtain⟨vs,hvs,rB⟩:=hok;rw[cZ iF]at hvs;injection hvs with hvs
  subst hvs;have T:=c.tok t ti (by rw[bC4];exact hti);have hu:=T.und;rw[hk]at hu;obtain⟨u1,tj,u2,u3⟩:=hu;obtain⟨tj',z,h1,h2,h3,h4,h5⟩:=(c.tok e ei (by rw[bC4];exact hei)).info;rw[u2]at h1;injection h1 with h1;subst h1
  have hzs:z.cells.size=sz:=by have:=aW h4;rw[hzs]at this;simpa using this
  have hb2:tj.bytes=bytes:=by rw[<-hcP,u2]at hby;simpa using hby
  have hf0:OF.rv (.slice a0 n cap) c.B.heap.size e sz n xs∈S.ow:=by rw[how];simp
  obtain⟨hr0,hr1⟩:=P'.own.at_ _ hf0;have hr0:w.ownsRow c.B.heap.size e sz (.slice a0 n cap) n xs:=hr0;have hnl:news.length=m*sz:=by rw[aW iF,hlen]
  obtain⟨v',w',q1,q2,q3,q4⟩:=uI (P:=c.P) c.B.heap.size t o.type e tj z sz bytes u1 u2 h3 u3 hb2 hzs zW _ _ _ hr0 ⟨b',0+0,none⟩ m m news hnl (λq u hq=>by
    simp[add_eq,World.cell?,rB,hq]) (qN kB iF) (by simpa[maxLen]using h63) hle P'.bel.size
  have hv':∃a' aS,v'=.slice a' (n+m) aS:=by
   rcases q2.2 with⟨h6,h7⟩ | ⟨g,aS,cur,h6,_⟩
   ·omega
   ·exact⟨_,_,h6⟩
  obtain⟨a',aS,rfl⟩:=hv';have aKu:(execOp a.eval o).run c.P w=.ok (.value (.slice a' (n+m) aS)) w':=by
   simp only[execOp,hop,resolve,invoke,builtin,Sem.run_bind,Sem.run_pure,Result.andThen_ok,List.map_toArray,List.map_cons,List.map_nil,e1,e2];rw[Int.toNat_natCast,q1];rfl
  have bF0:Mu.le μ (μ.upd S.hp.length (.val (.slice a' (n+m) aS))):=Mu.le_upd (hfr rfl)
  have aB9:=Mu.upd_same μ S.hp.length (.val (.slice a' (n+m) aS))
  have hF:∀f,f∈S.ow->∀b,f.F μ b->c.B.heap.size<=b/\b<w.heap.size/\¬X b/\∀k,μ k≠some (.own b):=λf hf=>(P'.own.at_ f hf).2
  have hB:c.B.heap.size<=w.heap.size:=P'.bel.size
  have hap:=P'.own.apart
  rw[how,List.pairwise_append]at hap;obtain⟨p1,p2,p3⟩:=hap;have mH:∀f,f∈pre++post->f∈S.ow:=λf hf=>by
   rw[how];rcases List.mem_append.1 hf with h | h
   ·simp[h]
   ·simp[h]
  have hr:∀b,(Value.slice a0 n cap).ownBlock=some b->∃f,f∈S.ow/\f.F μ b:=λb hb=>⟨_,hf0,hb⟩
  have hr':∀f,f∈pre++post->∀b,(Value.slice a0 n cap).ownBlock=some b->¬f.F μ b:=λf hf b hb hb'=>by
   rcases List.mem_append.1 hf with h | h
   ·exact p3 f h _ List.mem_cons_self b hb' hb
   ·exact List.rel_of_pairwise_cons p2 h b hb hb'
  have sH:∀b,(Value.slice a' (n+m) aS).ownBlock=some b->(Value.slice a0 n cap).ownBlock=some b\/w.heap.size<=b:=λb hb=>by
   rcases q4 with h6 | h6
   ·left;rw[<-h6];exact hb
   ·right;rw[h6]at hb;injection hb with hb;exact Nat.le_of_eq hb
  have hlt:∀b,(Value.slice a' (n+m) aS).ownBlock=some b->b<w'.heap.size:=λb hb=>(World.ownsRow.lt q2 b hb).2
  have hst:∀f,f∈pre++post->f.p (μ.upd S.hp.length (.val (.slice a' (n+m) aS))) w'/\∀b,f.F (μ.upd S.hp.length (.val (.slice a' (n+m) aS))) b↔f.F μ b:=λf hf=>
   f.st μ _ w w' bF0.v (λk hk=>q3.block k (hF f (mH f hf) k hk).2.1 (λe2=>hr' f hf k e2.symm hk)) (P'.own.at_ f (mH f hf)).1
  have eE:∀k b,(μ.upd S.hp.length (.val (.slice a' (n+m) aS))) k=some (.own b)->μ k=some (.own b):=λk b hk=>by
   by_cases ek:k=S.hp.length
   ·rw[ek,aB9]at hk;injection hk with hk;cases hk
   ·simpa[Mu.upd,ek]using hk
  refine xL aKu (hn X _ _ w' ⟨below_grown q3 hB (λb hb=>?_),λb hb hnf=>?_,?_,⟨.val (.slice a' (n+m) aS),rfl,trivial,λb e=>by cases e⟩,λ_ h=>h,λ_ h=>.inl h,?_⟩ (λf hf=>by cases hf))
  ·obtain⟨f,h1,h2⟩:=hr b hb;exact(hF f h1 b h2).1
  ·refine q3.block b hb (λe=>?_);obtain⟨f,h1,h2⟩:=hr b e.symm;exact hnf f h1 h2
  ·simp only[aD,aB9]
  ·refine⟨λf hf=>?_,List.Pairwise.cons (λg hg' b hb hb'=>?_) ?_⟩
   ·rcases List.mem_cons.1 hf with e' | e'
    ·subst e';refine⟨⟨_,aB9,⟨a',aS,rfl⟩,q2⟩,λb hb=>?_⟩;obtain⟨u,u1,u2⟩:=hb;rw[aB9]at u1;injection u1 with u1;injection u1 with u1;subst u1
     rcases sH b u2 with h7 | e'
     ·obtain⟨f,h1,h2⟩:=hr b h7;obtain⟨q1,q2,q3,q4⟩:=hF f h1 b h2;exact⟨q1,hlt b u2,q3,λk hk=>q4 k (eE k b hk)⟩
     ·exact⟨lTr hB e',hlt _ u2,λhx=>by have:=P'.xlt _ hx;omega,λk hk=>by have:=(P'.loc k _ (eE k b hk)).2.2;omega⟩
    ·obtain⟨h1,h2⟩:=hst f e';refine⟨h1,λb hb=>?_⟩;obtain⟨q1,q2,q3',q4⟩:=hF f (mH f e') b ((h2 b).1 hb);exact⟨q1,Nat.lt_of_lt_of_le q2 q3.size,q3',λk hk=>q4 k (eE k b hk)⟩
   ·obtain⟨u,u1,u2⟩:=hb;rw[aB9]at u1;injection u1 with u1;injection u1 with u1;subst u1
    have bCu:=((hst g hg').2 b).1 hb'
    rcases sH b u2 with h7 | e'
    ·exact hr' g hg' b h7 bCu
    ·have:=(hF g (mH g hg') b bCu).2.1;omega
   ·have hpw:(pre++post).Pairwise λf g=>∀b,f.F μ b->¬g.F μ b:=List.pairwise_append.2 ⟨p1,List.Pairwise.of_cons p2,λf hf g hg=>p3 f hf g (List.mem_cons_of_mem _ hg)⟩
    refine List.Pairwise.imp_of_mem (λ{f g} hf hg h b hb hb'=>?_) hpw;exact h b (((hst f hf).2 b).1 hb) (((hst g hg).2 b).1 hb')
theorem dC (hc:Ctx c P ty nt){all:Array Oper}{i n0:Nat}{K0:List KF}{k:List KI}(o:Oper)(ho:all[i]?=some o)(hg:guardOf all S.sl o=some true)(hd:cA nt o.dst=true){t e bt j n cap:Nat}{x y:Operand}{a0:Option Addr}{ti ei:TyI}{xs news:List Value}{cells:List AV}(pre:List OF){post:List OF}{bytes sz m:Nat}{G:Option Addr->Nat->Nat->List Value->OF}(hG:∀a n cap l,G a n cap l=OF.rv (.slice a n cap) c.B.heap.size e sz n l)
  {GK:Nat->Nat->List Value->OF} (hGK:∀q n l,GK q n l=OF.rk q c.B.heap.size e sz n l)
  (hop:o.op=.call {callee:=.builtin .append,args:=#[x,y],argTypes:=#[t,t]}) (hx:fE S.sl x=some (.xs a0 n cap)) (hy:fE S.sl y=some (.sl j 0 (.l (m:Int)) m)) (hm:Nat.ble 1 m=true) (hj:S.hp[j]?=some (.c bt cells)) (iF:aF iN cells=some news) (kB:cells.all AV.one=true) (hlen:cells.length=m*sz) (h0:Nat.ble 1 sz=true) (how:S.ow=pre++G a0 n cap xs::post)
  (hti:ty t=some ti) (hk:ti.kind=.slice e sz) (hei:ty e=some ei) (hzs:ei.zero.length=sz)    (r:Nat)
  (h:∀n' l',n'=n+m->l'=xs++news->Goal c K (run ty nt K r (.dops all (i+1) n0 K0::k) (S.putO o.dst (.e S.hp.length) (some .e) (GK S.hp.length n' l'::(pre++post))) []))(hby:(P.info? e).map (·.bytes)=some bytes:=by kernel_rfl)(hle:(n+m)*bytes<=140737488355328:=by omega)(h63:n+m<=9223372036854775807:=by omega):Goal c K ⟨.dops all i n0 K0::k,S,[]⟩:=by
 rw[hG]at how;have hh:=h _ _ rfl rfl;rw[hGK]at hh;exact wY hc o ho hg (by unfold bU;rw[hop]) hd (λD hD=>aFx hc.hP hc.hty hop hx hy hm hj iF kB hlen h0 how hti hk hei hzs hby hle h63 hD) r hh
theorem bBj {ks:List KI}(d:Nat){k:Nat}(hp:iJ ks=true)(hl:look S.sl d=some (.e k)){e sz n:Nat}{l:List Value}{G:Option Addr->Nat->Nat->List Value->OF}(hG:∀a n cap l,G a n cap l=OF.rv (.slice a n cap) c.B.heap.size e sz n l)
  {GK:Nat->Nat->List Value->OF} (hGK:∀q n l,GK q n l=OF.rk q c.B.heap.size e sz n l) (pre:List OF) {post:List OF} (how:S.ow=pre++GK k n l::post)
  (h:∀a cap,Goal c K ⟨ks,{S with sl:=(d,.xs a n cap)::S.sl,ow:=pre++G a n cap l::post},[]⟩):Goal c K ⟨ks,S,[]⟩:=by
 refine fT (ι:=RowZ) (K':=λ_=>K) (S':=λz=>{S with sl:=(d,.xs z.a n z.cap)::S.sl,ow:=pre++G z.a n z.cap l::post}) (p:=λ_=>True) hp (λX μ a w H=>?_) (λz _=>h z.a z.cap);rw[hGK]at how;have hf0:OF.rk k c.B.heap.size e sz n l∈S.ow:=by rw[how];simp
 obtain⟨⟨v,h1,⟨ad,cap,rfl⟩,h2⟩,h3⟩:=H.toP.own.at_ _ hf0;refine⟨⟨ad,cap⟩,X,μ,trivial,?_⟩;rw[hG];have H1:Sim c K {S with ow:=pre++OF.rv (.slice ad n cap) c.B.heap.size e sz n l::post} X μ a w:=by
  have P:=H.toP
  refine⟨⟨P.dfr,P.size,P.slots,P.heap,P.all,P.inj,P.loc,P.xlt,P.xnew,P.xold,P.bel,P.kf,?_⟩,H.dom⟩;have hFF:∀b,(OF.rk k c.B.heap.size e sz n l).F μ b↔(OF.rv (.slice ad n cap) c.B.heap.size e sz n l).F μ b:=λb=>by
   constructor
   ·rintro ⟨u,q1,q2⟩;rw[h1]at q1;injection q1 with q1;injection q1 with q1;subst q1;exact q2
   ·intro q;exact⟨_,h1,q⟩
  have ha:=P.own.apart
  rw[how,List.pairwise_append]at ha;obtain⟨p1,p2,p3⟩:=ha;refine⟨λf hf=>?_,List.pairwise_append.2 ⟨p1,List.Pairwise.cons (λg hg b hb=>List.rel_of_pairwise_cons p2 hg b ((hFF b).2 hb)) (List.Pairwise.of_cons p2),λf hf g hg b hb hb'=>?_⟩⟩
  ·rcases List.mem_append.1 hf with q | q
   ·exact P.own.at_ f (by rw[how];simp[q])
   ·rcases List.mem_cons.1 q with q | q
    ·subst q;exact⟨h2,λb hb=>h3 b ((hFF b).2 hb)⟩
    ·exact P.own.at_ f (by rw[how];simp[q])
  ·rcases List.mem_cons.1 hg with q | q
   ·subst q;exact p3 f hf _ List.mem_cons_self b hb ((hFF b).2 hb')
   ·exact p3 f hf g (List.mem_cons_of_mem _ q) b hb hb'
 exact iL (S:={S with ow:=pre++OF.rv (.slice ad n cap) c.B.heap.size e sz n l::post}) H1 hl (by simp only[aD,h1])
theorem aNw {ks:List KI}(pre:List OF){x:OF}{post:List OF}(hp:iJ ks=true)(how:S.ow=x::(pre++post))(h:Goal c K ⟨ks,{S with ow:=pre++x::post},[]⟩):Goal c K ⟨ks,S,[]⟩:=by
 refine nS hp (λX μ a w H=>⟨X,μ,?_⟩) h;have P:=H.toP;refine⟨⟨P.dfr,P.size,P.slots,P.heap,P.all,P.inj,P.loc,P.xlt,P.xnew,P.xold,P.bel,P.kf,?_⟩,H.dom⟩;have ha:=P.own.apart;have hm:∀f,f∈pre++x::post->f∈S.ow:=λf hf=>by
  rw[how];rcases List.mem_append.1 hf with q | q
  ·simp[q]
  ·rcases List.mem_cons.1 q with q | q
   ·simp[q]
   ·simp[q]
 rw[how]at ha;have hx:=λg hg=>List.rel_of_pairwise_cons ha (a':=g) hg;have ht:=List.Pairwise.of_cons ha;rw[List.pairwise_append]at ht;obtain⟨p1,p2,p3⟩:=ht;refine⟨λf hf=>P.own.at_ f (hm f hf),List.pairwise_append.2 ⟨p1,List.Pairwise.cons (λg hg=>hx g (by simp[hg])) p2,λf hf g hg b hb hb'=>?_⟩⟩;rcases List.mem_cons.1 hg with q | q
 ·subst q;exact hx f (by simp[hf]) b hb' hb
 ·exact p3 f hf g q b hb hb'
theorem gK {ks:List KI}(d:Nat){k:Nat}(hp:iJ ks=true)(hl:look S.sl d=some (.e k)){e sz n:Nat}{l:List Value}{G:Option Addr->Nat->Nat->List Value->OF}(hG:∀a n cap l,G a n cap l=OF.rv (.slice a n cap) c.B.heap.size e sz n l)
  {GK:Nat->Nat->List Value->OF} (hGK:∀q n l,GK q n l=OF.rk q c.B.heap.size e sz n l) (pre:List OF) {post:List OF} (how:S.ow=GK k n l::(pre++post))
  (h:∀a cap,Goal c K ⟨ks,{S with sl:=(d,.xs a n cap)::S.sl,ow:=pre++G a n cap l::post},[]⟩):Goal c K ⟨ks,S,[]⟩:=
 aNw pre hp how (bBj (S:={S with ow:=pre++GK k n l::post}) d hp hl hG hGK pre rfl h)
end
end Go.Ai
namespace Go.Ai
open Go Go.Proofs Go.Num V3
theorem aQe:aB PP 106:=zK
theorem aN8:aB PP 148:=zK
theorem aJ1:aB PP 181:=zK
theorem aQg:aB PP 107:=zK
theorem aDx:aB PP 149:=zK
theorem aBa:aB PP 52:=zK
theorem V3.le_zero (k:Nat)(h:1<=k):V3.zero.le k:=⟨lTr qU h,lTr qU h,lTr qU h⟩
theorem aYq {p:Pl}(hp:p.fit (2^26)):Pure PP 147 [nZ p] (.int .i64 0):=by
 have k1:=aJu (v:=V3.zero) hp.h0 hp.hn hp.ha (V3.le_zero _ zV)
 unfold gE lE at k1;rw[show aA V3.zero.x=⟨#[48]⟩ from gC,show aA V3.zero.y=⟨#[48]⟩ from gC,show aA V3.zero.z=⟨#[48]⟩ from gC]at k1;clear hp;unfold nZ at *;generalize kU (p.height V3.zero) 0=s,aA p.n.x=a,aA p.n.y=b,aA p.n.z=d at *;generalize aA p.a=t at *;refine aH mixed tok [.g [.s (.v a),.s (.v b),.s (.v d),.s (.v t)]] Tryz.func147 rfl rfl rfl λc hc hR=>?_;apply zN hc;cbv;refine zC (.t [.i .i64 (.v s),.i .i64 (.l 0)]) k1 mD ?_;cbv;exact zR
theorem aYp {l:List Tri}{p:Pl}(hp:p.fit (2^26))(hl:∀t,t∈l->t.le (2^29))(hn:l.length<=512)(hok:fY l=true){X:Nat->Prop}{w:World}{v:Value}(hX:∀b,X b->b<w.heap.size)(hv:(rowS l.length (dR l)).p v X w):
  Fn PP 106 [v,nZ p] X w (dN (.int .i64 0)):=by
 have aB4:∀{X:Nat->Prop} {w:World} {v:Value},(∀b,X b->b<w.heap.size)->(rowS l.length (dR l)).p v X w->Fn PP 100 [v] X w (dN (.int .i64 0)):=λhX hv=>by
  have:=yG (l:=l) hl hn hX hv
  unfold iH at this;rwa [if_pos hok]at this
 have k1:=aYq hp
 obtain⟨R,hRR⟩:=nm (dN (.int .i64 0));obtain⟨N,hN⟩:=nm (l.length);rw[<-hN]at hv hn aB4;obtain⟨K,hK⟩:=nm ([KF.cst v (rowS N (dR l))]);rw[<-hRR];unfold nZ at *;generalize aA p.n.x=q1,aA p.n.y=q2,aA p.n.z=q3,aA p.a=q4 at *;refine bE mixed tok [.q v,.g [.s (.v q1),.s (.v q2),.s (.v q3),.s (.v q4)]] (K:=K) Tryz.func106 rfl rfl (lbl rfl) rfl hX (by rw[hK];simp;exact hv) λc hc hR=>?_;apply zN hc;cbv;refine bK hc (.i .i64 (.l 0)) rQ (λn0 D X μ a w aK H hv=>?_) 100 ?_
 ·obtain⟨u,rfl,e⟩:=aX hv;rw[cL e];exact aB4 H.xlt (H.cst (by rw[hK];exact .head _))
 cbv;refine zC (.i .i64 (.l 0)) k1 aQf ?_;cbv;refine aR hc hR rfl (λX μ a w v' H hv'=>?_);rw[hRR];simp only[aD]at hv';injection hv' with hv'
 exact hv'.symm
def Tri.turn (t:Tri)(p:Pl):Tri:=t.rot (t.cutP p).1.toNat
def Tri.cx (t:Tri)(p:Pl):V3:=p.cut (t.turn p).a (t.turn p).b
def Tri.cy (t:Tri)(p:Pl):V3:=p.cut (t.turn p).a (t.turn p).c
def Tri.seg (t:Tri)(p:Pl):List Seg:=
 if(t.cutP p).1<0 then []else if t.cx p=t.cy p then []else if(t.cutP p).2 then [⟨t.cx p,t.cy p⟩]else [⟨t.cy p,t.cx p⟩]
def dT (p:Pl)(l:List Tri):List Seg:=l.flatMap λt=>t.seg p
theorem aBr (a b d:Bool):((aDd a b d)=(-1,true)/\a=true/\b=true/\d=true)\/((aDd a b d)=(-1,false)/\a=false/\b=false/\d=false)\/(0<=(aDd a b d).1/\(aDd a b d).1<3):=by
 cases a<;>cases b<;>cases d<;>simp[aDd]
theorem aP2 {t:Tri}{p:Pl}(h:0<=(t.cutP p).1):p.over (t.turn p).a=(t.cutP p).2/\p.over (t.turn p).b= !(t.cutP p).2/\p.over (t.turn p).c= !(t.cutP p).2:=by
 unfold Tri.turn;unfold Tri.cutP at *;cases ha:p.over t.a<;>cases hb:p.over t.b<;>cases hd:p.over t.c<;>simp only[ha,hb,hd,aDd]at h |-<;>first | (exact absurd h zV) | (refine⟨?_,?_,?_⟩<;>simp[Tri.rot,ha,hb,hd])
theorem aS1 {t:Tri}{k:Nat}(h:t.le k)(i:Nat):(t.rot i).le k:=by
 unfold Tri.rot;split
 ·exact h
 ·exact⟨h.2.1,h.2.2,h.1⟩
 ·exact⟨h.2.2,h.1,h.2.1⟩
theorem aZf (t:Tri)(p:Pl):(t.cutP p).1.toNat<3:=by
 unfold Tri.cutP;rcases aBr (p.over t.a) (p.over t.b) (p.over t.c)with h | h | h
 ·rw[h.1];decide
 ·rw[h.1];decide
 ·omega
theorem bDz {t:Tri}{p:Pl}{k:Nat}(hp:p.fit k)(h:t.le k):(t.cx p).le (25*k+14)/\(t.cy p).le (25*k+14):=by
 have h1:=aS1 h (t.cutP p).1.toNat
 exact⟨aGe hp.hn hp.ha h1.1 h1.2.1,aGe hp.hn hp.ha h1.1 h1.2.2⟩
theorem aW6 (t:Tri)(p:Pl):(t.seg p).length<=1:=by
 unfold Tri.seg;split
 ·simp
 ·split
  ·simp
  ·split<;>simp
theorem nA {p:Pl}{l:List Tri}{i:Nat}{t:Tri}(h:l[i]?=some t):dT p (l.take (i+1))=dT p (l.take i)++t.seg p:=by
 obtain⟨h1,h2⟩:=List.getElem?_eq_some_iff.1 h;unfold dT;rw[List.take_succ_eq_append_getElem h1,List.flatMap_append,h2];simp
theorem aCu (p:Pl)(l:List Tri):(dT p l).length<=l.length:=by
 unfold dT;induction l with
 | nil=>simp
 | cons t l ih=>have:=aW6 t p;simp only[List.flatMap_cons,List.length_append,List.length_cons];omega
theorem aNz {p:Pl}{l:List Tri}{k:Nat}(hp:p.fit k)(hl:∀t,t∈l->t.le k){s:Seg}(hs:s∈dT p l):s.a.le (25*k+14)/\s.b.le (25*k+14):=by
 unfold dT at hs;obtain⟨t,ht,h⟩:=List.mem_flatMap.1 hs;have h1:=bDz hp (hl t ht);unfold Tri.seg at h;split at h
 ·cases h
 split at h
 ·cases h
 split at h
 ·simp at h;subst h;exact h1
 ·simp at h;subst h;exact⟨h1.2,h1.1⟩
theorem aO:aB PP 158:=zK
theorem aQp:aB PP 117:=zK
theorem aK6 {p:Pl}{v:V3}(hp:p.fit (2^26))(hv:v.le (2^26)):Pure PP 158 [nZ p,gE v] (.bool (p.over v)):=by
 have k1:=aJu hp.h0 hp.hn hp.ha hv
 have e:=pE (p.height v)
 unfold Pl.over;rw[<-e];clear hp hv e;unfold nZ gE lE at *;generalize kU (p.height v) 0=s,aA p.n.x=a,aA p.n.y=b,aA p.n.z=d at *;generalize aA p.a=t,aA v.x=a',aA v.y=b',aA v.z=d' at *;refine aH mixed tok [.g [.s (.v a),.s (.v b),.s (.v d),.s (.v t)],iU a' b' d'] Tryz.func158 rfl rfl rfl λc hc hR=>?_;apply zN hc;cbv;refine zC (.t [.i .i64 (.v s),.i .i64 (.l 0)]) k1 mD ?_;cbv;exact zR
theorem tV {d x y z x' y' z':Rat}{k m:Nat}(hd:sz d<=m)(hx:sz x<=k)(hy:sz y<=k)(hz:sz z<=k)(hx':sz x'<=k)(hy':sz y'<=k)(hz':sz z'<=k):sz (nV d x y z x' y' z')<=m+12*k+12:=by
 unfold nV;have h1:=sz_aa (sz_aa hx hy) hz;have h2:=sz_aa (sz_aa hx' hy') hz';have h3:=sz_aa (sz_aa (sz_aa (sz_mm h1 h2) (sz_mm hx hx')) (sz_mm hy hy')) (sz_mm hz hz');exact lTr (sz_mm (sz_mm hd h3) aX8) zW
theorem aL0 {d x y z:Rat}{k m:Nat}(hd:sz d<=m)(hx:sz x<=k)(hy:sz y<=k)(hz:sz z<=k):sz (d*(x+y+z)*(1/24))<=m+3*k+6:=
 lTr (sz_mm (sz_mm hd (sz_aa (sz_aa hx hy) hz)) aT6) zW
theorem aAy {t:Tri}{k:Nat}(h:t.le k):t.mass.le (27*k+17):=by
 have hd:=aT7 h
 obtain⟨⟨a1,a2,a3⟩,⟨b1,b2,b3⟩,c1,c2,c3⟩:=h;refine⟨lTr (sz_mm hd sz6) zW,⟨?_,?_,?_⟩,?_,?_,?_,?_,?_,?_⟩
 ·exact lTr (aL0 hd a1 b1 c1) zW
 ·exact lTr (aL0 hd a2 b2 c2) zW
 ·exact lTr (aL0 hd a3 b3 c3) zW
 ·exact lTr (tV hd a1 b1 c1 a1 b1 c1) zW
 ·exact lTr (tV hd a2 b2 c2 a2 b2 c2) zW
 ·exact lTr (tV hd a3 b3 c3 a3 b3 c3) zW
 ·exact lTr (tV hd a1 b1 c1 a2 b2 c2) zW
 ·exact lTr (tV hd a2 b2 c2 a3 b3 c3) zW
 ·exact lTr (tV hd a3 b3 c3 a1 b1 c1) zW
def Pl.low (p:Pl)(a n:V3):List V3:=(if p.over a then []else [a])++(if p.over a=p.over n then []else [p.cut a n])
def Tri.low (t:Tri)(p:Pl):List V3:=p.low t.a t.b++p.low t.b t.c++p.low t.c t.a
def fan:List V3->Ms->Ms
 | [a,b,c],s=>s.add (Tri.mass ⟨a,b,c⟩)
 | [a,b,c,d],s=>(s.add (Tri.mass ⟨a,b,c⟩)).add (Tri.mass ⟨a,c,d⟩)
 | _,s=>s
def bBk (l:List Seg):Ms:=l.foldl (λs g=>s.add (Tri.mass ⟨(l.headD ⟨V3.zero,V3.zero⟩).a,g.a,g.b⟩)) Ms.none
def aWc (p:Pl)(l:List Tri)(s:Ms):Ms:=l.foldl (λs t=>fan (t.low p) s) s
def aU (p:Pl)(l:List Tri):Ms:=aWc p l (bBk (dT p l))
theorem Ms.none_le:Ms.none.le 1:=⟨qU,⟨qU,qU,qU⟩,qU,qU,qU,qU,qU,qU⟩
theorem aZm {p:Pl}{t:Tri}{s:Ms}{k m:Nat}(hp:p.fit k)(ht:t.le k)(hs:s.le m):(fan (t.low p) s).le (m+2*(27*(25*k+14)+18)):=by
 have hc:∀u v:V3,u.le k->v.le k->(p.cut u v).le (25*k+14):=λu v hu hv=>aGe hp.hn hp.ha hu hv
 have key:∀u v w:V3,u.le (25*k+14)->v.le (25*k+14)->w.le (25*k+14)->∀{s:Ms} {m:Nat},s.le m->(s.add (Tri.mass ⟨u,v,w⟩)).le (m+(27*(25*k+14)+18)):=λu v w hu hv hw s m hs=>(Ms.le_add hs (aAy (t:=⟨u,v,w⟩) ⟨hu,hv,hw⟩)).mono zW
 have oV:∀v,v∈t.low p->v.le (25*k+14):=by
  intro v hv;have hl:∀a n:V3,a.le k->n.le k->v∈p.low a n->v.le (25*k+14):=by
   intro a n ha hn hv;unfold Pl.low at hv;rcases List.mem_append.1 hv with h | h
   ·split at h
    ·cases h
    ·simp at h;subst h;exact ha.mono zW
   ·split at h
    ·cases h
    ·simp at h;subst h;exact hc _ _ ha hn
  unfold Tri.low at hv;rcases List.mem_append.1 hv with h | h
  ·rcases List.mem_append.1 h with h | h
   ·exact hl _ _ ht.1 ht.2.1 h
   ·exact hl _ _ ht.2.1 ht.2.2 h
  ·exact hl _ _ ht.2.2 ht.1 h
 generalize t.low p=L at oV;unfold fan;split
 ·exact(key _ _ _ (oV _ zA) (oV _ zA) (oV _ zA) hs).mono zW
 ·exact(key _ _ _ (oV _ zA) (oV _ zA) (oV _ zA) (key _ _ _ (oV _ zA) (oV _ zA) (oV _ zA) hs)).mono zW
 ·exact hs.mono zW
theorem kX {α β:Type}(f:β->α->β)(b:β){l:List α}{i:Nat}{x:α}(h:l[i]?=some x):(l.take (i+1)).foldl f b=f ((l.take i).foldl f b) x:=by
 obtain⟨h1,h2⟩:=List.getElem?_eq_some_iff.1 h;rw[List.take_succ_eq_append_getElem h1,List.foldl_append,h2];rfl
theorem aF6 {α:Type}(f:Ms->α->Ms){l:List α}{b:Ms}{m d:Nat}(hb:b.le m)(hf:∀(s:Ms) (x:α) (k:Nat),x∈l->s.le k->(f s x).le (k+d)):∀i,i<=l.length->((l.take i).foldl f b).le (m+i*d)
 | 0,_=>by simpa using hb
 | i+1,h=>by
  have h1:l[i]?=some l[i]:=zA
  rw[kX f b h1];exact(hf _ _ _ (List.getElem_mem _) (aF6 f hb hf i zW)).mono (by rw[Nat.add_mul];omega)
theorem rM:aB PP 97:=zK
theorem vS:aB PP 98:=zK
theorem aDz:aB PP 142:=zK
theorem kR:aB PP 143:=zK
theorem aG9:aB PP 132:=zK
theorem aHa:aB PP 134:=zK
theorem aQj:aB PP 172:=zK
theorem aQk:aB PP 173:=zK
def cD (n:Nat):Int:=if n=0 then 9 else if 512<n then 8 else 0
theorem aRx {L:List ByteArray}{N:Nat}(hL:L.length=9*N){X:Nat->Prop}{w:World}{v:Value}(hX:∀b,X b->b<w.heap.size)(hv:(rowS N L).p v X w):
  Fn PP 97 [v] X w (dN (.int .i64 (cD N))):=by
 obtain⟨R,hRR⟩:=nm (dN (.int .i64 (cD N)));obtain⟨Q,hQ⟩:=nm (9*N);obtain⟨K,hK⟩:=nm ([KF.cst v (rowS N L)]);rw[<-hRR];have hs8:N≠0->(512:Int)<(N:Int)->cD N=8:=λh h2=>by unfold cD;rw[if_neg h,if_pos zW]
 have hs0:N≠0->¬(512:Int)<(N:Int)->cD N=0:=λh h2=>by unfold cD;rw[if_neg h,if_neg zW]
 refine bE mixed tok [.q v] (K:=K) Tryz.func97 rfl rfl (lbl rfl) rfl hX (by rw[hK];simp;exact hv) λc hc hR=>?_;refine gY 0 N Q L (by rw[hL,hQ]) rfl rfl (λX μ a w v' H hv'=>bZ H (by rw[hK];exact .head _) hv') (λf cap hf cR=>?_);have fin:∀k:Int,cD N=k->∀{v':Value} {X:Nat->Prop} {w:World} {μ:Mu},aD μ (.i .i64 (.l k))=some v'->R.p v' X w:=λk hk v' X w μ hv'=>by
  rw[hRR,hk];simp only[aD,IE.den]at hv';injection hv' with hv'
  exact hv'.symm
 apply zN hc;cbv;refine aE rfl 100 (λh=>?_) (λh=>?_)
 ·have h:N=0:=by
   have h:decide ((N:Int)=0)=true:=h
   have:=of_decide_eq_true h
   omega
  cbv;exact aR hc hR rfl (λX μ a w v' H hv'=>fin 9 (by unfold cD;rw[if_pos h]) hv')
 ·have h:N≠0:=by
   have h:decide ((N:Int)=0)=false:=h
   have:=of_decide_eq_false h
   omega
  cbv;refine aE rfl 100 (λh2=>?_) (λh2=>?_)
  ·have h2:(512:Int)<(N:Int):=BE.lt_t h2
   cbv;exact aR hc hR rfl (λX μ a w v' H hv'=>fin 8 (hs8 h h2) hv')
  ·have h2:¬(512:Int)<(N:Int):=BE.lt_f h2
   cbv;exact aR hc hR rfl (λX μ a w v' H hv'=>fin 0 (hs0 h h2) hv')
theorem aBz {a b d:ByteArray}(ha:a.size<=2^31)(hb:b.size<=2^31)(hd:d.size<=2^31):Pure PP 143 [lE a b d] (.bool (!(gQ a&&gQ b&&gQ d))):=by
 have k1:=aUp ha hb hd
 unfold lE at *;generalize (gQ a&&gQ b&&gQ d)=r at *;refine aH mixed tok [iU a b d] Tryz.func143 rfl rfl rfl λc hc hR=>?_;apply zN hc;cbv;refine zC (.b (.v r)) k1 eR ?_;cbv;exact zR
def aJy (a1 a2 a3 b1 b2 b3 d1 d2 d3:ByteArray):Bool:= !(gQ a1&&gQ a2&&gQ a3)|| !(gQ b1&&gQ b2&&gQ b3)|| !(gQ d1&&gQ d2&&gQ d3)
theorem aVw {a1 a2 a3 b1 b2 b3 d1 d2 d3:ByteArray}(h1:a1.size<=2^31)(h2:a2.size<=2^31)(h3:a3.size<=2^31)(h4:b1.size<=2^31)(h5:b2.size<=2^31)(h6:b3.size<=2^31)(h7:d1.size<=2^31)(h8:d2.size<=2^31)(h9:d3.size<=2^31):
  Pure PP 142 [.agg #[.string a1,.string a2,.string a3,.string b1,.string b2,.string b3,.string d1,.string d2,.string d3]] (.bool (aJy a1 a2 a3 b1 b2 b3 d1 d2 d3)):=by
 have k1:=aBz h1 h2 h3
 have k2:=aBz h4 h5 h6
 have k3:=aBz h7 h8 h9
 unfold aJy;unfold lE at *;clear h1 h2 h3 h4 h5 h6 h7 h8 h9;generalize (!(gQ a1&&gQ a2&&gQ a3))=x1,(!(gQ b1&&gQ b2&&gQ b3))=x2,(!(gQ d1&&gQ d2&&gQ d3))=x3 at *;refine aH mixed tok [.g [.s (.v a1),.s (.v a2),.s (.v a3),.s (.v b1),.s (.v b2),.s (.v b3),.s (.v d1),.s (.v d2),.s (.v d3)]] Tryz.func142 rfl rfl rfl λc hc hR=>?_;apply zN hc;cbv;refine cP hc Tryz.func134 aHa (λc1 tm1 FR1 gN hc1 L1=>?_);apply zN hc1;cbv;refine cP hc1 Tryz.func173 aQk (λc2 tm2 FR2 aB3 hc2 L2=>?_);apply zN hc2;cbv;refine aZ 4 (λp hp=>?_);refine hp _ _ _ ?_;apply zN hc2;cbv;cases x1
 ·refine zC (hc:=hc2) (.b (.l false)) k1 kR ?_;cbv;refine hp _ _ _ ?_;apply zN hc2;cbv;cases x2
  ·refine zC (hc:=hc2) (.b (.l false)) k2 kR ?_;cbv;refine hp _ _ _ ?_;apply zN hc2;cbv;cases x3
   ·refine zC (hc:=hc2) (.b (.l false)) k3 kR ?_;cbv;refine hp _ _ _ ?_;apply zN hc2;cbv;refine cK hc2 L2 aB3 (.head _) ?_;apply zN hc1;cbv;refine cK hc1 L1 gN (.tail _ (.head _)) ?_;apply zN hc;cbv;exact zR
   ·refine zC (hc:=hc2) (.b (.l true)) k3 kR ?_;cbv;refine cK hc2 L2 aB3 (.head _) ?_;apply zN hc1;cbv;refine cK hc1 L1 gN (.tail _ (.head _)) ?_;apply zN hc;cbv;exact zR
  ·refine zC (hc:=hc2) (.b (.l true)) k2 kR ?_;cbv;refine cK hc2 L2 aB3 (.head _) ?_;apply zN hc1;cbv;refine cK hc1 L1 gN (.tail _ (.head _)) ?_;apply zN hc;cbv;exact zR
 ·refine zC (hc:=hc2) (.b (.l true)) k1 kR ?_;cbv;refine cK hc2 L2 aB3 (.head _) ?_;apply zN hc1;cbv;refine cK hc1 L1 gN (.tail _ (.head _)) ?_;apply zN hc;cbv;exact zR
def rL (L:List ByteArray):Bool:= !(L.all gQ)
theorem nine {L:List ByteArray}{N x:Nat}(hL:L.length=9*N)(hx:x<N):∃a1 a2 a3 b1 b2 b3 d1 d2 d3,L[x*9+0]?=some a1/\L[x*9+1]?=some a2/\L[x*9+2]?=some a3/\L[x*9+3]?=some b1/\L[x*9+4]?=some b2/\L[x*9+5]?=some b3/\L[x*9+6]?=some d1/\L[x*9+7]?=some d2/\L[x*9+8]?=some d3:=by
 have h:∀i,i<9->∃a,L[x*9+i]?=some a:=λi hi=>⟨L[x*9+i]'zW,zA⟩
 obtain⟨a1,e1⟩:=h 0 zW;obtain⟨a2,e2⟩:=h 1 zW;obtain⟨a3,e3⟩:=h 2 zW;obtain⟨b1,e4⟩:=h 3 zW;obtain⟨b2,e5⟩:=h 4 zW;obtain⟨b3,e6⟩:=h 5 zW;obtain⟨d1,e7⟩:=h 6 zW;obtain⟨d2,e8⟩:=h 7 zW;obtain⟨d3,e9⟩:=h 8 zW;exact⟨_,_,_,_,_,_,_,_,_,e1,e2,e3,e4,e5,e6,e7,e8,e9⟩
def aZn (L:List ByteArray)(x:Nat):Prop:=∀i a,i<x*9->L[i]?=some a->gQ a=true
theorem aR0 {L:List ByteArray}{N:Nat}(hL:L.length=9*N)(h:aZn L N):rL L=false:=by
 unfold rL;rw[Bool.not_eq_false',List.all_eq_true];intro a ha;obtain⟨i,hi⟩:=List.getElem?_of_mem ha;exact h i a (by have:=(List.getElem?_eq_some_iff.1 hi).1;omega) hi
theorem pW {L:List ByteArray}{i:Nat}{a:ByteArray}(h:L[i]?=some a)(hb:gQ a=false):rL L=true:=by
 unfold rL;rw[Bool.not_eq_true',<-Bool.not_eq_true,List.all_eq_true];intro h2;have:=h2 a (List.mem_of_getElem? h);rw[hb]at this;cases this
theorem aRy {L:List ByteArray}{N:Nat}(hL:L.length=9*N)(hN:N<=512)(hs:∀a,a∈L->a.size<=2^31){X:Nat->Prop}{w:World}{v:Value}(hX:∀b,X b->b<w.heap.size)(hv:(rowS N L).p v X w):
  Fn PP 98 [v] X w (dN (.bool (!rL L))):=by
 obtain⟨R,hRR⟩:=nm (dN (.bool (!rL L)));obtain⟨Q,hQ⟩:=nm (9*N);obtain⟨K,hK⟩:=nm ([KF.cst v (rowS N L)]);rw[<-hRR];have fin:∀k:Bool,rL L=k->∀{v':Value} {X:Nat->Prop} {w:World} {μ:Mu},aD μ (.b (.l (!k)))=some v'->R.p v' X w:=λk hk v' X w μ hv'=>by
  rw[hRR,hk];simp only[aD,BE.den]at hv';injection hv' with hv'
  exact hv'.symm
 refine bE mixed tok [.q v] (K:=K) Tryz.func98 rfl rfl (lbl rfl) rfl hX (by rw[hK];simp;exact hv) λc hc hR=>?_;refine gY 0 N Q L (by rw[hL,hQ]) rfl rfl (λX μ a w v' H hv'=>bZ H (by rw[hK];exact .head _) hv') (λf cap hf cR=>?_);apply zN hc;cbv;refine cP hc Tryz.func132 aG9 (λc1 tm1 FR1 gN hc1 L1=>?_);apply zN hc1;cbv;refine cP hc1 Tryz.func172 aQj (λc2 tm2 FR2 aB3 hc2 L2=>?_);apply zN hc2;cbv;let ι:={x:Nat//x<=N/\aZn L x};let I:ι->St:=λx=>⟨[(0,.sl 0 0 (.n N) cap),(1,.f (.func 142) [] []),(7,.i .i64 (.n N)),(8,.i .i64 (.n x.1))],[.xs Q f],[]⟩
 let x0:ι:=⟨0,Nat.zero_le _,λi a hi=>zW⟩
 refine zU 1 (S':=I x0) (K':=FR2::FR1::K) zL (by subst hK;exact⟨⟨.head _,by rw[aB3];exact KFr.fr rfl _⟩,⟨.tail _ (.head _),by rw[gN];exact KFr.fr rfl _⟩,⟨.tail _ (.tail _ (.head _)),KFr.cst _ _ _⟩,trivial⟩) trivial ?_;refine bQ hc2 I (λx=>N - x.1) x0 100 ?_;rintro p ⟨x,hx,aXr⟩ hy;cbv;refine aE (hc:=hc2) rfl 100 (λh=>?_) (λh=>?_)
 ·have hxN:x<N:=BE.ltn_t h
  obtain⟨a1,a2,a3,b1,b2,b3,d1,d2,d3,e0,e1,e2,e3,e4,e5,e6,e7,e8⟩:=nine hL hxN;have r9:=re9 (hf _ _ e0) (hf _ _ e1) (hf _ _ e2) (hf _ _ e3) (hf _ _ e4) (hf _ _ e5) (hf _ _ e6) (hf _ _ e7) (hf _ _ e8);have sz:∀{i:Nat} {a:ByteArray},L[i]?=some a->a.size<=2^31:=λh=>hs _ (List.mem_of_getElem? h);have k1:=aVw (sz e0) (sz e1) (sz e2) (sz e3) (sz e4) (sz e5) (sz e6) (sz e7) (sz e8);have o1:(Obl.ltE (.n x) (.n N)).ok:=by show _/\_;simp only[IE.den];omega
  have o2:(Obl.ix 0 (.n x) 9 0 9 Q).ok:=by show aV 0 (x:Int) 9 0+9<=Q;simp only[aV,Int.toNat_natCast];omega
  have o3:(Obl.inR .i64 (.add (.n x) (.l 1))).ok:=by show lo _<=_/\_<=hi _;simp only[lo,hi,IE.den];omega
  obtain⟨x',hx'⟩:=nm (x+1);have hi1:((IE.n x).add (IE.l 1)).den=(IE.n x').den:=by simp only[IE.den,hx'];omega
  have aDe:aJy a1 a2 a3 b1 b2 b3 d1 d2 d3=true->rL L=true:=λhb=>by
   unfold aJy at hb;simp only[Bool.or_eq_true,Bool.not_eq_true',Bool.and_eq_false_iff]at hb;rcases hb with((((h | h) | h) | ((h | h) | h)) | ((h | h) | h))
   ·exact pW e0 h
   ·exact pW e1 h
   ·exact pW e2 h
   ·exact pW e3 h
   ·exact pW e4 h
   ·exact pW e5 h
   ·exact pW e6 h
   ·exact pW e7 h
   ·exact pW e8 h
  have tZ:aJy a1 a2 a3 b1 b2 b3 d1 d2 d3=false->aZn L x':=λhb=>by
   unfold aJy at hb;simp only[Bool.or_eq_false_iff,Bool.not_eq_false',Bool.and_eq_true]at hb;obtain⟨⟨⟨⟨h0,h1⟩,h2⟩,⟨⟨h3,h4⟩,h5⟩⟩,⟨⟨h6,h7⟩,h8⟩⟩:=hb;intro i a hi ha;by_cases hix:i<x*9
   ·exact aXr i a hix ha
   ·have aR8:i=x*9+0\/i=x*9+1\/i=x*9+2\/i=x*9+3\/i=x*9+4\/i=x*9+5\/i=x*9+6\/i=x*9+7\/i=x*9+8:=zW
    rcases aR8 with h | h | h | h | h | h | h | h | h<;>subst h
    ·rw[e0]at ha;injection ha with ha;subst ha;exact h0
    ·rw[e1]at ha;injection ha with ha;subst ha;exact h1
    ·rw[e2]at ha;injection ha with ha;subst ha;exact h2
    ·rw[e3]at ha;injection ha with ha;subst ha;exact h3
    ·rw[e4]at ha;injection ha with ha;subst ha;exact h4
    ·rw[e5]at ha;injection ha with ha;subst ha;exact h5
    ·rw[e6]at ha;injection ha with ha;subst ha;exact h6
    ·rw[e7]at ha;injection ha with ha;subst ha;exact h7
    ·rw[e8]at ha;injection ha with ha;subst ha;exact h8
  clear e0 e1 e2 e3 e4 e5 e6 e7 e8;generalize aJy a1 a2 a3 b1 b2 b3 d1 d2 d3=b at k1 aDe tZ;cases b with
  | true=>
   have aDe:=aDe rfl
   cbv;refine aP hc2 ⟨o1,o2,trivial⟩ ?_;refine gJ hc2 (.b (.l true)) k1 aDz (eG (dM r9)) rfl 100 ?_;cbv;refine cK hc2 L2 aB3 (.head _) ?_;apply zN hc1;cbv;refine cK hc1 L1 gN (.tail _ (.head _)) ?_;apply zN hc;cbv;refine aR hc hR rfl (λX μ a w v' H hv'=>?_);refine fin true aDe (μ:=μ) ?_;rw[<-hv'];show some (Value.bool _)=some (Value.bool _)
   have:decide ((0:Int)<=(x:Int))=true:=decide_eq_true (Int.natCast_nonneg x)
   congr 2
  | false=>
   have tZ:=tZ rfl
   have hyx:=hy ⟨x',zW,tZ⟩ (by show N - x'<N - x;omega)
   clear hy;cbv;refine aP hc2 ⟨o1,o2,trivial⟩ ?_;refine gJ hc2 (.b (.l false)) k1 aDz (eG (dM r9)) rfl 100 ?_;cbv;refine aP hc2 ⟨o3,trivial⟩ ?_;exact zU 1 (S':=I ⟨x',zW,tZ⟩) (K':=FR2::FR1::K) ⟨zS,zS,zS,zI rfl rfl hi1,trivial⟩ (by subst hK;exact⟨⟨.head _,by rw[aB3];exact KFr.fr rfl _⟩,⟨.tail _ (.head _),by rw[gN];exact KFr.fr rfl _⟩,⟨.tail _ (.tail _ (.head _)),KFr.cst _ _ _⟩,trivial⟩) trivial hyx
 ·have hxN:x=N:=by have:=BE.ltn_f h;omega
  have aDe:rL L=false:=aR0 hL (hxN▸aXr)
  clear hy;cbv;refine cK hc2 L2 aB3 (.head _) ?_;apply zN hc1;cbv;refine cK hc1 L1 gN (.tail _ (.head _)) ?_;apply zN hc;cbv;refine aR hc hR rfl (λX μ a w v' H hv'=>?_);exact fin false aDe (μ:=μ) (by rw[<-hv'];rfl)
theorem aBc:aB PP 48:=zK
theorem rN:aB PP 60:=zK
theorem xR:aB PP 19:=zK
structure Raw where
 L:List ByteArray
 N:Nat
 h:ByteArray
 t:ByteArray
 d:ByteArray
def Raw.attV (r:Raw):Value:=.agg #[.string r.h,.string r.t]
inductive Raw.errs (r:Raw):Int->Prop
 | solid:cD r.N≠0->r.errs (cD r.N)
 | bad:cD r.N=0->rL r.L=true->(∀a,a∈r.L->a.size<=2^31)->r.errs 1
 | att (e:Int):cD r.N=0->rL r.L=false->(∀a,a∈r.L->a.size<=2^31)->e≠0->Pure PP 99 [r.attV,.string r.d] (.tuple #[.agg #[.string ⟨#[]⟩,.string ⟨#[]⟩,.string ⟨#[]⟩,.string ⟨#[]⟩],.int .i64 e])->r.errs e
 | op (l:List Tri) (p:Pl):cD r.N=0->rL r.L=false->(∀a,a∈r.L->a.size<=2^31)->r.L=dR l->(∀t,t∈l->t.le (2^29))->Pure PP 99 [r.attV,.string r.d] (.tuple #[nZ p,.int .i64 0])->fY l=false->r.errs 17
structure Raw.good (r:Raw)(l:List Tri)(p:Pl):Prop where
 so:cD r.N=0
 ba:rL r.L=false
 sz:∀a,a∈r.L->a.size<=2^31
 eq:r.L=dR l
 le:∀t,t∈l->t.le (2^29)
 kw:Pure PP 99 [r.attV,.string r.d] (.tuple #[nZ p,.int .i64 0])
 ok:fY l=true
theorem xF {n:Nat}(h:cD n=0):n<=512/\n≠0:=by
 unfold cD at h;split at h
 ·cases h
 ·split at h
  ·cases h
  ·omega
theorem aKp {r:Raw}{e:Int}(hr:r.errs e)(hL:r.L.length=9*r.N){X:Nat->Prop}{w:World}{v:Value}(hX:∀b,X b->b<w.heap.size)(hv:(rowS r.N r.L).p v X w):
  Fn PP 48 [v,r.attV,.string r.d] X w (dN (.tuple #[.agg #[.string ⟨#[]⟩,.string ⟨#[]⟩,.string ⟨#[]⟩,.string ⟨#[]⟩],.int .i64 e])):=by
 have ksol:∀{X:Nat->Prop} {w:World} {v:Value},(∀b,X b->b<w.heap.size)->(rowS r.N r.L).p v X w->Fn PP 97 [v] X w (dN (.int .i64 (cD r.N))):=λhX hv=>aRx hL hX hv
 have sJ:cD r.N=0->(∀a,a∈r.L->a.size<=2^31)->∀{X:Nat->Prop} {w:World} {v:Value},(∀b,X b->b<w.heap.size)->(rowS r.N r.L).p v X w->Fn PP 98 [v] X w (dN (.bool (!rL r.L))):=λh0 hs X w v hX hv=>aRy hL (xF h0).1 hs hX hv
 obtain⟨R,hRR⟩:=nm (dN (.tuple #[.agg #[.string ⟨#[]⟩,.string ⟨#[]⟩,.string ⟨#[]⟩,.string ⟨#[]⟩],.int .i64 e]));rw[<-hRR];unfold Raw.attV;obtain⟨RS,hRS⟩:=nm (rowS r.N r.L);rw[<-hRS]at hv ksol sJ;obtain⟨K,hK⟩:=nm ([KF.cst v RS]);have fin:∀{v':Value} {X:Nat->Prop} {w:World} {μ:Mu},aD μ (.t [.g [.s (.v ⟨#[]⟩),.s (.v ⟨#[]⟩),.s (.v ⟨#[]⟩),.s (.v ⟨#[]⟩)],.i .i64 (.v e)])=some v'->R.p v' X w:=λ{v'} {X} {w} {μ} hv'=>by
  rw[hRR];simp only[aD,aF,IE.den,SE.den]at hv';injection hv' with hv'
  exact hv'.symm
 refine bE mixed tok [.q v,.g [.s (.v r.h),.s (.v r.t)],.s (.v r.d)] (K:=K) Tryz.func48 rfl rfl (lbl rfl) rfl hX (by rw[hK];simp;exact hv) λc hc hR=>?_;have hne:e≠0:=by
  cases hr with
  | solid h=>exact h
  | bad h h2=>decide
  | att e h h2 h3 h4=>exact h4
  | op l p h h2 h3 h4 h5 h6 h7=>decide
 cases hr with
 | solid h0=>
  clear h0;generalize cD r.N=e at *;apply zN hc;cbv;refine bK hc (.i .i64 (.v e)) rM (λn0 D X μ a w aK H hv=>?_) 100 ?_
  ·obtain⟨u,rfl,e'⟩:=aX hv;rw[cL e'];exact ksol H.xlt (H.cst (by rw[hK];exact .head _))
  cbv;refine aE rfl 100 (λh=>?_) (λh=>?_)
  ·cbv;refine aR hc hR rfl (λX μ a w v' H hv'=>fin (μ:=μ) hv')
  ·have h:(!decide (e=0))=false:=h
   simp at h;exact absurd h hne
 | bad h0 hb hs=>
  rw[h0]at ksol;have sJ:=@sJ h0 hs;rw[hb]at sJ;apply zN hc;cbv;refine bK hc (.i .i64 (.l 0)) rM (λn0 D X μ a w aK H hv=>?_) 100 ?_
  ·obtain⟨u,rfl,e'⟩:=aX hv;rw[cL e'];exact ksol H.xlt (H.cst (by rw[hK];exact .head _))
  cbv;refine bK hc (.b (.l false)) vS (λn0 D X μ a w aK H hv=>?_) 100 ?_
  ·obtain⟨u,rfl,e'⟩:=aX hv;rw[cL e'];exact sJ H.xlt (H.cst (by rw[hK];exact .head _))
  cbv;refine aR hc hR rfl (λX μ a w v' H hv'=>fin (μ:=μ) hv')
 | att e h0 hb hs bHj kw=>
  rw[h0]at ksol;have sJ:=@sJ h0 hs;rw[hb]at sJ;unfold Raw.attV at kw;apply zN hc;cbv;refine bK hc (.i .i64 (.l 0)) rM (λn0 D X μ a w aK H hv=>?_) 100 ?_
  ·obtain⟨u,rfl,e'⟩:=aX hv;rw[cL e'];exact ksol H.xlt (H.cst (by rw[hK];exact .head _))
  cbv;refine bK hc (.b (.l true)) vS (λn0 D X μ a w aK H hv=>?_) 100 ?_
  ·obtain⟨u,rfl,e'⟩:=aX hv;rw[cL e'];exact sJ H.xlt (H.cst (by rw[hK];exact .head _))
  cbv;refine zC (.t [.g [.s (.v ⟨#[]⟩),.s (.v ⟨#[]⟩),.s (.v ⟨#[]⟩),.s (.v ⟨#[]⟩)],.i .i64 (.v e)]) kw aBf ?_;cbv;refine aE rfl 100 (λh=>?_) (λh=>?_)
  ·cbv;refine aR hc hR rfl (λX μ a w v' H hv'=>fin (μ:=μ) hv')
  ·have h:(!decide (e=0))=false:=h
   simp at h;exact absurd h hne
 | op l p h0 hb hs hLe hle kw hop=>
  rw[h0]at ksol;have sJ:=@sJ h0 hs;rw[hb]at sJ;have hlen:l.length=r.N:=by
   have:=hL
   rw[hLe,fM]at this;omega
  have kmesh:∀{X:Nat->Prop} {w:World} {v:Value},(∀b,X b->b<w.heap.size)->RS.p v X w->Fn PP 100 [v] X w (dN (.int .i64 17)):=λ{X} {w} {v} hX hv=>by
   rw[hRS,hLe,<-hlen]at hv;have:=yG (l:=l) hle (by have:=(xF h0).1;omega) hX hv;unfold iH at this;rwa [hop]at this
  unfold Raw.attV nZ at kw;generalize aA p.n.x=q1,aA p.n.y=q2,aA p.n.z=q3,aA p.a=q4 at *;apply zN hc;cbv;refine bK hc (.i .i64 (.l 0)) rM (λn0 D X μ a w aK H hv=>?_) 100 ?_
  ·obtain⟨u,rfl,e'⟩:=aX hv;rw[cL e'];exact ksol H.xlt (H.cst (by rw[hK];exact .head _))
  cbv;refine bK hc (.b (.l true)) vS (λn0 D X μ a w aK H hv=>?_) 100 ?_
  ·obtain⟨u,rfl,e'⟩:=aX hv;rw[cL e'];exact sJ H.xlt (H.cst (by rw[hK];exact .head _))
  cbv;refine zC (.t [.g [.s (.v q1),.s (.v q2),.s (.v q3),.s (.v q4)],.i .i64 (.l 0)]) kw aBf ?_;cbv;refine bK hc (.i .i64 (.l 17)) rQ (λn0 D X μ a w aK H hv=>?_) 100 ?_
  ·obtain⟨u,rfl,e'⟩:=aX hv;rw[cL e'];exact kmesh H.xlt (H.cst (by rw[hK];exact .head _))
  cbv;refine aR hc hR rfl (λX μ a w v' H hv'=>fin (μ:=μ) hv')
theorem aEi {r:Raw}{l:List Tri}{p:Pl}(hg:r.good l p)(hL:r.L.length=9*r.N){X:Nat->Prop}{w:World}{v:Value}(hX:∀b,X b->b<w.heap.size)(hv:(rowS r.N r.L).p v X w):
  Fn PP 48 [v,r.attV,.string r.d] X w (dN (.tuple #[nZ p,.int .i64 0])):=by
 have ksol:∀{X:Nat->Prop} {w:World} {v:Value},(∀b,X b->b<w.heap.size)->(rowS r.N r.L).p v X w->Fn PP 97 [v] X w (dN (.int .i64 (cD r.N))):=λhX hv=>aRx hL hX hv
 have sJ:∀{X:Nat->Prop} {w:World} {v:Value},(∀b,X b->b<w.heap.size)->(rowS r.N r.L).p v X w->Fn PP 98 [v] X w (dN (.bool (!rL r.L))):=λ{X} {w} {v} hX hv=>aRy hL (xF hg.so).1 hg.sz hX hv
 rw[hg.so]at ksol;rw[hg.ba]at sJ;have hlen:l.length=r.N:=by
  have:=hL
  rw[hg.eq,fM]at this;omega
 obtain⟨R,hRR⟩:=nm (dN (.tuple #[nZ p,.int .i64 0]));rw[<-hRR];have kmesh:∀{X:Nat->Prop} {w:World} {v:Value},(∀b,X b->b<w.heap.size)->(rowS r.N r.L).p v X w->Fn PP 100 [v] X w (dN (.int .i64 0)):=λ{X} {w} {v} hX hv=>by
  rw[hg.eq,<-hlen]at hv;have:=yG (l:=l) hg.le (by have:=(xF hg.so).1;omega) hX hv;unfold iH at this;rwa [hg.ok]at this
 have kw:=hg.kw
 clear hg;unfold Raw.attV at *;obtain⟨RS,hRS⟩:=nm (rowS r.N r.L);rw[<-hRS]at hv ksol sJ kmesh;obtain⟨K,hK⟩:=nm ([KF.cst v RS]);unfold nZ at *;generalize aA p.n.x=q1,aA p.n.y=q2,aA p.n.z=q3,aA p.a=q4 at *;refine bE mixed tok [.q v,.g [.s (.v r.h),.s (.v r.t)],.s (.v r.d)] (K:=K) Tryz.func48 rfl rfl (lbl rfl) rfl hX (by rw[hK];simp;exact hv) λc hc hR=>?_;apply zN hc;cbv;refine bK hc (.i .i64 (.l 0)) rM (λn0 D X μ a w aK H hv=>?_) 100 ?_
 ·obtain⟨u,rfl,e'⟩:=aX hv;rw[cL e'];exact ksol H.xlt (H.cst (by rw[hK];exact .head _))
 cbv;refine bK hc (.b (.l true)) vS (λn0 D X μ a w aK H hv=>?_) 100 ?_
 ·obtain⟨u,rfl,e'⟩:=aX hv;rw[cL e'];exact sJ H.xlt (H.cst (by rw[hK];exact .head _))
 cbv;refine zC (.t [.g [.s (.v q1),.s (.v q2),.s (.v q3),.s (.v q4)],.i .i64 (.l 0)]) kw aBf ?_;cbv;refine bK hc (.i .i64 (.l 0)) rQ (λn0 D X μ a w aK H hv=>?_) 100 ?_
 ·obtain⟨u,rfl,e'⟩:=aX hv;rw[cL e'];exact kmesh H.xlt (H.cst (by rw[hK];exact .head _))
 cbv;refine aR hc hR rfl (λX μ a w v' H hv'=>?_);rw[hRR];simp only[aD,aF]at hv';injection hv' with hv'
 exact hv'.symm
end Go.Ai
