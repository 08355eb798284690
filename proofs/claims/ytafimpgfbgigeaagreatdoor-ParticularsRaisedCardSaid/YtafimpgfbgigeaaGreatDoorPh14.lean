/- Part 15: lemmas for the particulars laws -/
import Derived.Test.YtafimpgfbgigeaaGreatDoorPh13
set_option linter.all false
namespace Go.Ai
open Go Go.Proofs Go.Num
structure V3 where
 x:Rat
 y:Rat
 z:Rat
deriving DecidableEq
namespace V3
def add (u v:V3):V3:=⟨u.x+v.x,u.y+v.y,u.z+v.z⟩
def sub (u v:V3):V3:=⟨u.x - v.x,u.y - v.y,u.z - v.z⟩
def scale (u:V3)(s:Rat):V3:=⟨u.x*s,u.y*s,u.z*s⟩
def dot (u v:V3):Rat:=u.x*v.x+u.y*v.y+u.z*v.z
def cross (u v:V3):V3:=⟨u.y*v.z - u.z*v.y,u.z*v.x - u.x*v.z,u.x*v.y - u.y*v.x⟩
def le (u:V3)(k:Nat):Prop:=sz u.x<=k/\sz u.y<=k/\sz u.z<=k
theorem le.mono {u:V3}{k m:Nat}(h:u.le k)(hm:k<=m):u.le m:=⟨lTr h.1 hm,lTr h.2.1 hm,lTr h.2.2 hm⟩
theorem le_add {u v:V3}{k m:Nat}(h:u.le k)(h':v.le m):(u.add v).le (k+m+1):=by
 obtain⟨a,b,c⟩:=h;obtain⟨a',b',c'⟩:=h';exact⟨lTr (aAq _ _) zW,lTr (aAq _ _) zW,lTr (aAq _ _) zW⟩
theorem le_sub {u v:V3}{k m:Nat}(h:u.le k)(h':v.le m):(u.sub v).le (k+m+1):=by
 obtain⟨a,b,c⟩:=h;obtain⟨a',b',c'⟩:=h';exact⟨lTr (aEe _ _) zW,lTr (aEe _ _) zW,lTr (aEe _ _) zW⟩
theorem le_scale {u:V3}{k m:Nat}{s:Rat}(h:u.le k)(h':sz s<=m):(u.scale s).le (k+m):=by
 obtain⟨a,b,c⟩:=h;exact⟨lTr (aAr _ _) zW,lTr (aAr _ _) zW,lTr (aAr _ _) zW⟩
theorem sz_mm {a b:Rat}{k m:Nat}(h:sz a<=k)(h':sz b<=m):sz (a*b)<=k+m:=lTr (aAr _ _) zW
theorem sz_aa {a b:Rat}{k m:Nat}(h:sz a<=k)(h':sz b<=m):sz (a+b)<=k+m+1:=lTr (aAq _ _) zW
theorem sz_ss {a b:Rat}{k m:Nat}(h:sz a<=k)(h':sz b<=m):sz (a - b)<=k+m+1:=lTr (aEe _ _) zW
theorem sz_dot {u v:V3}{k m:Nat}(h:u.le k)(h':v.le m):sz (u.dot v)<=3*(k+m)+2:=by
 have:=sz_aa (sz_aa (sz_mm h.1 h'.1) (sz_mm h.2.1 h'.2.1)) (sz_mm h.2.2 h'.2.2)
 exact lTr this zW
theorem le_cross {u v:V3}{k m:Nat}(h:u.le k)(h':v.le m):(u.cross v).le (2*(k+m)+1):=
 ⟨lTr (sz_ss (sz_mm h.2.1 h'.2.2) (sz_mm h.2.2 h'.2.1)) zW,lTr (sz_ss (sz_mm h.2.2 h'.1) (sz_mm h.1 h'.2.2)) zW,lTr (sz_ss (sz_mm h.1 h'.2.1) (sz_mm h.2.1 h'.1)) zW⟩
end V3
def gA (u:V3):Value:=gT (aA u.x) (aA u.y) (aA u.z)
theorem aLm {u v:V3}(hu:u.le (2^29))(hv:v.le (2^29)):Pure PP 149 [.func (.func 194) #[] #[],gA u,gA v] (gT (aA (u.x*v.x)) (aA (u.y*v.y)) (aA (u.z*v.z))):=
 bDe vV (aIh hu.1 hv.1) (aIh hu.2.1 hv.2.1) (aIh hu.2.2 hv.2.2)
theorem aV8 {u v:V3}(hu:u.le (2^29))(hv:v.le (2^29)):Pure PP 149 [.func (.func 195) #[] #[],gA u,gA v] (gA (u.add v)):=
 bDe aL2 (aV2 hu.1 hv.1) (aV2 hu.2.1 hv.2.1) (aV2 hu.2.2 hv.2.2)
theorem aLn {u v:V3}(hu:u.le (2^29))(hv:v.le (2^29)):Pure PP 149 [.func (.func 150) #[] #[],gA u,gA v] (gA (u.sub v)):=
 bDe aAb (aLl hu.1 hv.1) (aLl hu.2.1 hv.2.1) (aLl hu.2.2 hv.2.2)
theorem aI8:aB PP 184:=zK
theorem aV6 {u:V3}{s:Rat}(hu:u.le (2^29))(hs:sz s<=2^29):Pure PP 184 [gA u,.string (aA s)] (gA (u.scale s)):=by
 have h1:=vof (aA s) (aA s) (aA s)
 have h2:=aLm (v:=⟨s,s,s⟩) hu ⟨hs,hs,hs⟩
 unfold V3.scale gA gT at *;dsimp only at h2 |-;generalize aA (u.x*s)=r1,aA (u.y*s)=r2,aA (u.z*s)=r3,aA u.x=a,aA u.y=b,aA u.z=d at h2 |-;generalize aA s=t at h1 h2 |-;refine zF [iI a b d,.s (.v t)] Tryz.func184 λc hc hR=>?_;cbv;refine zD (iI t t t) h1 aOg ?_;cbv;refine zD (iI r1 r2 r3) h2 aCq ?_;cbv;refine zE ?_;cbv;exact zR
theorem aL3:aB PP 152:=zK
theorem bDd {u v:V3}(hu:u.le (2^26))(hv:v.le (2^26)):Pure PP 152 [gA u,gA v] (.string (aA (u.dot v))):=by
 have h1:=aLm (hu.mono zV) (hv.mono zV)
 have m1:=V3.sz_mm hu.1 hv.1
 have m2:=V3.sz_mm hu.2.1 hv.2.1
 have m3:=V3.sz_mm hu.2.2 hv.2.2
 have h2:=aV2 (lTr m1 zV) (lTr m2 zV)
 have h3:=aV2 (lTr (V3.sz_aa m1 m2) zV) (lTr m3 zV)
 unfold V3.dot gA gT at *;generalize aA (u.x*v.x+u.y*v.y+u.z*v.z)=r at h3 |-;generalize aA (u.x*v.x+u.y*v.y)=q at h2 h3;generalize aA (u.x*v.x)=r1,aA (u.y*v.y)=r2 at h1 h2;generalize aA (u.z*v.z)=r3 at h1 h3;generalize aA u.x=a,aA u.y=b,aA u.z=d,aA v.x=a',aA v.y=b',aA v.z=d' at h1 |-;refine zF [iI a b d,iI a' b' d'] Tryz.func152 λc hc hR=>?_;cbv;refine zC (iI r1 r2 r3) h1 aCq ?_;cbv;refine zD (.s (.v q)) h2 aL2 ?_;cbv;refine zD (.s (.v r)) h3 aL2 ?_;cbv;refine zE ?_;cbv;exact zR
theorem rU:(Obl.nz (.l 3)).ok:=by show(3:Int)≠0;decide
theorem aSn:aB PP 215:=zK
theorem bDc {u v:V3}(hu:u.le (2^27))(hv:v.le (2^27)):Pure PP 215 [gA u,gA v] (gA (u.cross v)):=by
 have k1:=aEk (aA u.x) (aA u.y) (aA u.z)
 have k2:=aEk (aA v.x) (aA v.y) (aA v.z)
 have k3:=vof (aA (u.y*v.z - u.z*v.y)) (aA (u.z*v.x - u.x*v.z)) (aA (u.x*v.y - u.y*v.x))
 have big:2^27<=2^29:=zV
 have hu':=hu.mono big
 have hv':=hv.mono big
 have h1:=aIh hu'.2.1 hv'.2.2
 have h2:=aIh hu'.2.2 hv'.2.1
 have h3:=aLl (lTr (V3.sz_mm hu.2.1 hv.2.2) zV) (lTr (V3.sz_mm hu.2.2 hv.2.1) zV)
 have h4:=aIh hu'.2.2 hv'.1
 have h5:=aIh hu'.1 hv'.2.2
 have h6:=aLl (lTr (V3.sz_mm hu.2.2 hv.1) zV) (lTr (V3.sz_mm hu.1 hv.2.2) zV)
 have h7:=aIh hu'.1 hv'.2.1
 have h8:=aIh hu'.2.1 hv'.1
 have h9:=aLl (lTr (V3.sz_mm hu.1 hv.2.1) zV) (lTr (V3.sz_mm hu.2.1 hv.1) zV)
 unfold V3.cross gA gT at *;dsimp only at k3 |-;generalize aA (u.y*v.z - u.z*v.y)=r1 at h3 k3 |-;generalize aA (u.z*v.x - u.x*v.z)=r2 at h6 k3 |-;generalize aA (u.x*v.y - u.y*v.x)=r3 at h9 k3 |-;generalize aA (u.y*v.z)=p1 at h1 h3;generalize aA (u.z*v.y)=p2 at h2 h3;generalize aA (u.z*v.x)=p3 at h4 h6;generalize aA (u.x*v.z)=p4 at h5 h6;generalize aA (u.x*v.y)=p5 at h7 h9;generalize aA (u.y*v.x)=p6 at h8 h9;generalize aA u.x=a,aA u.y=b,aA u.z=d,aA v.x=a',aA v.y=b',aA v.z=d' at *;refine zF [iI a b d,iI a' b' d'] Tryz.func215 λc hc hR=>?_;cbv;refine zD (iI a b d) k1 sX ?_;cbv;refine zD (iI a' b' d') k2 sX ?_;cbv;refine zE ?_;cbv;refine aV 4 (λp hp=>?_);refine hp _ _ _ ?_;apply zN hc;cbv;refine aP hc ⟨rU,rU,trivial⟩ ?_;refine zD (.s (.v p1)) h1 vV ?_;cbv;refine zD (.s (.v p2)) h2 vV ?_;cbv;refine zD (.s (.v r1)) h3 aAb ?_;cbv;refine zE ?_;cbv;refine hp _ _ _ ?_;apply zN hc;cbv;refine aP hc ⟨rU,rU,trivial⟩ ?_;refine zD (.s (.v p3)) h4 vV ?_;cbv;refine zD (.s (.v p4)) h5 vV ?_;cbv;refine zD (.s (.v r2)) h6 aAb ?_;cbv;refine zE ?_;cbv;refine hp _ _ _ ?_;apply zN hc;cbv;refine aP hc ⟨rU,rU,trivial⟩ ?_;refine zD (.s (.v p5)) h7 vV ?_;cbv;refine zD (.s (.v p6)) h8 vV ?_;cbv;refine zD (.s (.v r3)) h9 aAb ?_;cbv;refine zE ?_;cbv;refine hp _ _ _ ?_;apply zN hc;cbv;refine zC (iI r1 r2 r3) k3 aOg ?_;cbv;exact zR
structure Pl where
 n:V3
 a:Rat
def pC (p:Pl):Value:=.agg #[.string (aA p.n.x),.string (aA p.n.y),.string (aA p.n.z),.string (aA p.a)]
def Pl.height (p:Pl)(v:V3):Rat:=p.n.dot v - p.a
theorem qW {p:Pl}{v:V3}{k m l:Nat}(h:p.n.le k)(h':v.le m)(hl:sz p.a<=l):sz (p.height v)<=3*(k+m)+l+3:=lTr (V3.sz_ss (V3.sz_dot h h') hl) zW
theorem aAa:aB PP 211:=zK
theorem aIg {p:Pl}{v:V3}(hn:p.n.le (2^26))(hv:v.le (2^26))(ha:sz p.a<=2^29):Pure PP 211 [pC p,gA v] (.string (aA (p.height v))):=by
 have h1:=bDd hn hv
 have h2:=aLl (lTr (V3.sz_dot hn hv) zV) ha
 unfold Pl.height pC gA gT at *;generalize aA (p.n.dot v - p.a)=r at h2 |-;generalize aA (p.n.dot v)=q at h1 h2;generalize aA p.a=t at h2 |-;generalize aA p.n.x=a,aA p.n.y=b,aA p.n.z=d,aA v.x=a',aA v.y=b',aA v.z=d' at h1 |-;refine zF [.g [.s (.v a),.s (.v b),.s (.v d),.s (.v t)],iI a' b' d'] Tryz.func211 λc hc hR=>?_;cbv;refine zD (.s (.v q)) h1 aL3 ?_;cbv;refine zD (.s (.v r)) h2 aAb ?_;cbv;refine zE ?_;cbv;exact zR
def cA (s:ByteArray):Bool:=(sO s.data.toList).isSome
theorem mH (q:Rat):cA (aA q)=true:=by unfold cA;rw[dC];rfl
theorem dA:aB PP 83:=zK
theorem aEj {a b d:ByteArray}(ha:a.size<=2^31)(hb:b.size<=2^31)(hd:d.size<=2^31):Pure PP 83 [gT a b d] (.bool (cA a&&cA b&&cA d)):=by
 have k0:=aEk a b d
 have k1:=fY a ha
 have k2:=fY b hb
 have k3:=fY d hd
 change Pure _ _ _ (.bool (cA a))at k1
 change Pure _ _ _ (.bool (cA b))at k2
 change Pure _ _ _ (.bool (cA d))at k3
 unfold gT at *;generalize cA a=x at k1 |-;generalize cA b=y at k2 |-;generalize cA d=z at k3 |-;refine zF [iI a b d] Tryz.func83 λc hc hR=>?_;cbv;refine zC (iI a b d) k0 sX ?_;cbv;refine aV 4 (λp hp=>?_);refine hp _ _ _ ?_;apply zN hc;cbv;cases x with
 | false=>
  refine zC (.b (.l false)) k1 cB ?_;cbv;exact zR
 | true=>
 refine zC (.b (.l true)) k1 cB ?_;cbv;refine hp _ _ _ ?_;apply zN hc;cbv;cases y with
 | false=>
  refine zC (.b (.l false)) k2 cB ?_;cbv;exact zR
 | true=>
 refine zC (.b (.l true)) k2 cB ?_;cbv;refine hp _ _ _ ?_;apply zN hc;cbv;cases z with
 | false=>
  refine zC (.b (.l false)) k3 cB ?_;cbv;exact zR
 | true=>
 refine zC (.b (.l true)) k3 cB ?_;cbv;refine hp _ _ _ ?_;apply zN hc;cbv;exact zR
theorem dB {u:V3}(hu:u.le (2^29)):Pure PP 83 [gA u] (.bool true):=by
 have:=aEj (lTr (aZ u.x) (by have:=hu.1;omega)) (lTr (aZ u.y) (by have:=hu.2.1;omega)) (lTr (aZ u.z) (by have:=hu.2.2;omega))
 rw[mH,mH,mH]at this;exact this
theorem xG:aB PP 151:=zK
theorem aSk:aB PP 85:=zK
theorem bGa {u v:V3}(hu:u.le (2^26))(hv:v.le (2^26)):Pure PP 85 [gA u,gA v] (.tuple #[.string (aA (u.dot v)),.int .i64 0]):=by
 have h1:=bDd hu hv
 have k1:=dB (hu.mono zV)
 have k2:=dB (hv.mono zV)
 unfold gA gT at *;generalize aA (u.dot v)=r at h1 |-;generalize aA u.x=a,aA u.y=b,aA u.z=d,aA v.x=a',aA v.y=b',aA v.z=d' at *;refine zF [iI a b d,iI a' b' d'] Tryz.func85 λc hc hR=>?_;cbv;refine cO hc Tryz.func151 xG (λc' tm FR hFR hc' L=>?_);apply zN hc';cbv;refine aV 3 (λp hp=>?_);refine hp _ _ _ ?_;apply zN hc';cbv;refine zC (hc:=hc') (.b (.l true)) k1 dA ?_;cbv;refine hp _ _ _ ?_;apply zN hc';cbv;refine zC (hc:=hc') (.b (.l true)) k2 dA ?_;cbv;refine hp _ _ _ ?_;apply zN hc';cbv;refine cY hc' L hFR (.head _) ?_;apply zN hc;cbv;refine zC (.s (.v r)) h1 aL3 ?_;cbv;exact zR
theorem bAk:aB PP 178:=zK
theorem bIu {u v z:V3}(hu:u.le (2^26))(hv:v.le (2^23))(hz:z.le (2^23)):Pure PP 178 [gA u,gA v,gA z] (.tuple #[.string (aA (u.dot (v.cross z))),.int .i64 0]):=by
 have h1:=bDc (hv.mono zV) (hz.mono zV)
 have h2:=bDd hu ((V3.le_cross hv hz).mono zV)
 have k1:=dB (hu.mono zV)
 have k2:=dB (hv.mono zV)
 have k3:=dB (hz.mono zV)
 unfold gA gT at *;generalize aA (u.dot (v.cross z))=r at h2 |-;generalize aA (v.cross z).x=p1,aA (v.cross z).y=p2,aA (v.cross z).z=p3,aA u.x=a,aA u.y=b,aA u.z=d,aA v.x=a',aA v.y=b',aA v.z=d',aA z.x=a2,aA z.y=b2,aA z.z=d2 at *;refine zF [iI a b d,iI a' b' d',iI a2 b2 d2] Tryz.func178 λc hc hR=>?_;cbv;refine cO hc Tryz.func151 xG (λc' tm FR hFR hc' L=>?_);apply zN hc';cbv;refine aV 4 (λp hp=>?_);refine hp _ _ _ ?_;apply zN hc';cbv;refine zC (hc:=hc') (.b (.l true)) k1 dA ?_;cbv;refine hp _ _ _ ?_;apply zN hc';cbv;refine zC (hc:=hc') (.b (.l true)) k2 dA ?_;cbv;refine hp _ _ _ ?_;apply zN hc';cbv;refine zC (hc:=hc') (.b (.l true)) k3 dA ?_;cbv;refine hp _ _ _ ?_;apply zN hc';cbv;refine cY hc' L hFR (.head _) ?_;apply zN hc;cbv;refine zD (iI p1 p2 p3) h1 aSn ?_;cbv;refine zD (.s (.v r)) h2 aL3 ?_;cbv;refine zE ?_;cbv;exact zR
theorem aSl:aB PP 135:=zK
theorem bDa {u:V3}{q:Rat}(hu:u.le (2^29))(hq:sz q<=2^29):Pure PP 135 [gA u,.string (aA q)] (.tuple #[gA (u.scale q),.int .i64 0]):=by
 have h1:=aV6 hu hq
 have k1:=dB hu
 have k2:=fY (aA q) (lTr (aZ q) zW)
 rw[dC]at k2;change Pure _ _ _ (.bool true)at k2;unfold gA gT at *;generalize aA (u.scale q).x=r1,aA (u.scale q).y=r2,aA (u.scale q).z=r3,aA u.x=a,aA u.y=b,aA u.z=d,aA q=t at *;refine zF [iI a b d,.s (.v t)] Tryz.func135 λc hc hR=>?_;cbv;refine zC (.b (.l true)) k1 dA ?_;cbv;refine zC (.b (.l true)) k2 cB ?_;cbv;refine zC (iI r1 r2 r3) h1 aI8 ?_;cbv;exact zR
def V3.zero:V3:=⟨0,0,0⟩
theorem BE.and_tt {a b:BE}(h:(a.and b).den=true):a.den=true/\b.den=true:=by
 have h:(a.den&&b.den)=true:=h
 exact Bool.and_eq_true_iff.1 h
theorem is0 {q:Rat}(h:(BE.seq (.v (aA q)) (.v ⟨#[48]⟩)).den=true):q=0:=by
 rw[aKz rfl eS.symm]at h;exact of_decide_eq_true h
theorem aI7:aB PP 210:=zK
theorem aV5 {p:Pl}(h0:p.n≠V3.zero)(hn:p.n.le (2^29))(ha:sz p.a<=2^29):Pure PP 210 [pC p] (.int .i64 0):=by
 have k1:=dB hn
 have k2:=fY (aA p.a) (lTr (aZ p.a) zW)
 rw[dC]at k2;change Pure _ _ _ (.bool true)at k2;have k3:=vof ⟨#[48]⟩ ⟨#[48]⟩ ⟨#[48]⟩;have z0:((BE.seq (.v (aA p.n.x)) (.v ⟨#[48]⟩)).and ((BE.seq (.v (aA p.n.y)) (.v ⟨#[48]⟩)).and (BE.seq (.v (aA p.n.z)) (.v ⟨#[48]⟩)))).den=true->False:=λh=>by
  obtain⟨e1,h⟩:=BE.and_tt h;obtain⟨e2,e3⟩:=BE.and_tt h;refine h0 ?_;obtain⟨⟨x,y,z⟩,q⟩:=p;have e1:x=0:=is0 e1;have e2:y=0:=is0 e2;have e3:z=0:=is0 e3;rw[e1,e2,e3];rfl
 clear h0;unfold pC gA gT at *;generalize aA p.n.x=a,aA p.n.y=b,aA p.n.z=d at *;generalize aA p.a=t at *;refine zF [.g [.s (.v a),.s (.v b),.s (.v d),.s (.v t)]] Tryz.func210 λc hc hR=>?_;cbv;refine zD (.b (.l true)) k1 dA ?_;cbv;refine zD (.b (.l true)) k2 cB ?_;cbv;refine zD (iI ⟨#[48]⟩ ⟨#[48]⟩ ⟨#[48]⟩) k3 aOg ?_;cbv;refine zE ?_;cbv;refine aE rfl 100 (λh=>(z0 h).elim) (λh=>?_);cbv;exact zR
theorem nE:aB PP 209:=zK
theorem aLk {p:Pl}{v:V3}(h0:p.n≠V3.zero)(hn:p.n.le (2^26))(ha:sz p.a<=2^26)(hv:v.le (2^26)):Pure PP 209 [pC p,gA v] (.tuple #[.int .i64 (jJ (p.height v) 0),.int .i64 0]):=by
 have k1:=aV5 h0 (hn.mono zV) (lTr ha zV)
 have k2:=dB (hv.mono zV)
 have k3:=aIg hn hv (lTr ha zV)
 have k4:=aV7 (lTr (qW hn hv ha) zV)
 unfold pC gA gT at *;generalize jJ (p.height v) 0=s,aA (p.height v)=r,aA p.n.x=a,aA p.n.y=b,aA p.n.z=d at *;generalize aA p.a=t,aA v.x=a',aA v.y=b',aA v.z=d' at *;refine zF [.g [.s (.v a),.s (.v b),.s (.v d),.s (.v t)],iI a' b' d'] Tryz.func209 λc hc hR=>?_;cbv;refine zC (.i .i64 (.l 0)) k1 aI7 ?_;cbv;refine zC (.b (.l true)) k2 dA ?_;cbv;refine zC (.s (.v r)) k3 aAa ?_;cbv;refine zC (.i .i64 (.v s)) k4 aG6 ?_;cbv;exact zR
def Pl.cut (p:Pl)(u v:V3):V3:=u.add ((v.sub u).scale (p.height u/(p.height u - p.height v)))
theorem aHy {p:Pl}{u v:V3}{k:Nat}(hn:p.n.le k)(ha:sz p.a<=k)(hu:u.le k)(hv:v.le k):(p.cut u v).le (25*k+14):=by
 have e1:=qW hn hu ha
 have e2:=qW hn hv ha
 have e3:=V3.sz_ss e1 e2
 have e4:sz (p.height u/(p.height u - p.height v))<=_:=lTr (kF _ _) (Nat.add_le_add e1 e3)
 exact(V3.le_add hu (V3.le_scale (V3.le_sub hv hu) e4)).mono zW
theorem aS5 {x y:Rat}(hd:(0<x/\¬0<y)\/(¬0<x/\0<y)):x - y≠0:=by
 intro e;have e:x=y:=by grind
 subst e;rcases hd with⟨a,b⟩ | ⟨a,b⟩
 ·exact b a
 ·exact a b
theorem mK (x:Rat):decide (0<jJ x 0)=decide (0<x):=by
 unfold jJ;split
 ·rename_i h;rw[decide_eq_false (Rat.not_lt.2 (Rat.le_of_lt h))];rfl
 ·split
  ·rename_i h;rw[decide_eq_true h];rfl
  ·rename_i h;rw[decide_eq_false h];rfl
theorem bAu {x y:Rat}(hd:(0<x/\¬0<y)\/(¬0<x/\0<y)):decide (0<jJ x 0)=decide (0<jJ y 0)->False:=by
 rw[mK,mK];rcases hd with⟨a,b⟩ | ⟨a,b⟩<;>simp[a,b]
theorem dM:aB PP 175:=zK
theorem aGo {p:Pl}{u v:V3}(h0:p.n≠V3.zero)(hn:p.n.le (2^24))(ha:sz p.a<=2^24)(hu:u.le (2^24))(hv:v.le (2^24))(hd:(0<p.height u/\¬0<p.height v)\/(¬0<p.height u/\0<p.height v)):
  Pure PP 175 [pC p,gA u,gA v] (.tuple #[gA (p.cut u v),.int .i64 0]):=by
 have k1:=aV5 h0 (hn.mono zV) (lTr ha zV)
 have k2:=dB (hu.mono zV)
 have k3:=dB (hv.mono zV)
 have k4:=aIg (hn.mono zV) (hu.mono zV) (lTr ha zV)
 have k5:=aIg (hn.mono zV) (hv.mono zV) (lTr ha zV)
 have e1:=qW hn hu ha
 have e2:=qW hn hv ha
 have e3:=V3.sz_ss e1 e2
 have k6:=aV7 (lTr e1 zV)
 have k7:=aV7 (lTr e2 zV)
 have k8:=aLn (u:=v) (v:=u) (hv.mono zV) (hu.mono zV)
 have k9:=aLl (lTr e1 zV) (lTr e2 zV)
 have k10:=bIw (x:=p.height u) (y:=p.height u - p.height v) (aS5 hd) (lTr e1 zV) (lTr e3 zV)
 have e4:sz (p.height u/(p.height u - p.height v))<=_:=lTr (kF _ _) (Nat.add_le_add e1 e3)
 have e5:=V3.le_sub hv hu
 have k11:=aV6 (s:=p.height u/(p.height u - p.height v)) (e5.mono zV) (lTr e4 zV)
 have k12:=aV8 (hu.mono zV) ((V3.le_scale e5 e4).mono zV)
 change Pure _ _ _ (gA (p.cut u v))at k12
 have z0:=bAu hd
 clear e1 e2 e3 e4 e5 hd;generalize (v.sub u).scale (p.height u/(p.height u - p.height v))=X at *;generalize v.sub u=Y at *;unfold pC gA gT at *;generalize aA p.n.x=a,aA p.n.y=b,aA p.n.z=d at *;generalize aA p.a=t,aA u.x=a',aA u.y=b',aA u.z=d',aA v.x=a2,aA v.y=b2,aA v.z=d2,jJ (p.height u) 0=s1,jJ (p.height v) 0=s2,aA (p.height u/(p.height u - p.height v))=f,aA (p.height u - p.height v)=g,aA (p.height u)=q1,aA (p.height v)=q2,aA X.x=x1,aA X.y=x2,aA X.z=x3,aA Y.x=w1,aA Y.y=w2,aA Y.z=w3,aA (p.cut u v).x=y1,aA (p.cut u v).y=y2,aA (p.cut u v).z=y3 at *;refine zF [.g [.s (.v a),.s (.v b),.s (.v d),.s (.v t)],iI a' b' d',iI a2 b2 d2] Tryz.func175 λc hc hR=>?_;cbv;refine zC (.i .i64 (.l 0)) k1 aI7 ?_;cbv;refine cO hc Tryz.func151 xG (λc' tm FR hFR hc' L=>?_);apply zN hc';cbv;refine aV 3 (λp hp=>?_);refine hp _ _ _ ?_;apply zN hc';cbv;refine zC (hc:=hc') (.b (.l true)) k2 dA ?_;cbv;refine hp _ _ _ ?_;apply zN hc';cbv;refine zC (hc:=hc') (.b (.l true)) k3 dA ?_;cbv;refine hp _ _ _ ?_;apply zN hc';cbv;refine cY hc' L hFR (.head _) ?_;apply zN hc;cbv;refine zD (.s (.v q1)) k4 aAa ?_;cbv;refine zD (.s (.v q2)) k5 aAa ?_;cbv;refine zE ?_;cbv;refine zC (.i .i64 (.v s1)) k6 aG6 ?_;cbv;refine zC (.i .i64 (.v s2)) k7 aG6 ?_;cbv;refine aE rfl 100 (λh=>?_) (λh=>?_)
 ·have h:(decide ((0:Int)<s1)==decide ((0:Int)<s2))=true:=h
  exact(z0 (eq_of_beq h)).elim
 cbv;refine zD (iI w1 w2 w3) k8 aCq ?_;cbv;refine zD (.s (.v g)) k9 aAb ?_;cbv;refine zD (.s (.v f)) k10 bAm ?_;cbv;refine zD (iI x1 x2 x3) k11 aI8 ?_;cbv;refine zD (iI y1 y2 y3) k12 aCq ?_;cbv;refine zE ?_;cbv;exact zR
end Go.Ai
namespace Go.Ai
open Go Go.RowKit
def kH (P:Program)(g:Nat)(ls:List ByteArray)(r:Value):Prop:=
 ∀w b ty,Glob P w->w.heap[b]?=some (.cells (ls.map Value.string).toArray ty (0,0))->Calls P g #[.slice (some ⟨b,0,none⟩) ls.length ls.length] w λe w'=>e=.returned r/\Below w.heap.size w w'
theorem aSt {c:Cx}{K:List KF}{n0:Nat}{D:Nat->Prop}{S:St}{o:Oper}{g k n m T:Nat}{cells:List AV}{ls:List ByteArray}{av:AV}{r:Value}(h:iS S.sl o.op=some (g,[.sl k 0 (.l (n:Int)) m]))(hD:∀t,Operand.tmp t∈o.op.operands->D t)(hg:aB c.P g)
  (hp:kH c.P g ls r) (hb:S.hp[k]?=some (.c T cells)) (ha:aF hJ cells=some (ls.map Value.string)) (hn:n=ls.length) (hm:m=ls.length) (hr:aD hJ av=some r):Cert c K n0 D S o av none [] S.ow:=by
 refine qJ h hD hg λX μ a w aK H hv=>?_;obtain⟨v1,rfl,e1⟩:=bN hv;cases hk:μ k with
 | none=>simp[aD,atS,hk]at e1
 | some mv=>
  have hok:=H.heap k _ mv hb hk
  cases mv with
  | ext a=>exact hok.elim
  | val v=>exact hok.elim
  | own b=>
   obtain⟨vs,q1,q2⟩:=hok;rw[cW ha]at q1;injection q1 with q1;subst q1
   have hv1:v1=.slice (some ⟨b,0,none⟩) ls.length ls.length:=by
    simp[aD,atS,hk,MV.atS,IE.den,hn,hm]at e1;exact e1.symm
   subst hv1;refine(hp w b T H.glob q2).mono ?_;rintro e w' ⟨rfl,hbl⟩;exact⟨X,r,rfl,mI H hbl (fE hr),λf hf=>by cases hf⟩
section
variable {c:Cx}{P:Program}{ty:Nat->Option TyI}{nt:Nat}{K:List KF}
theorem iO (hc:Ctx c P ty nt)(av:AV){g k n m T:Nat}{cells:List AV}{ls:List ByteArray}{all:Array Oper}{i:Nat}{ks:List KI}{S:St}{r:Value}(hp:kH P g ls r)(hg:aB P g)(N:Nat)
  (h:Goal c K (run ty nt K N (.ops all (i+1)::ks) (S.put (eX all i) av none) []))(hb:S.hp[k]?=some (.c T cells):=by exact rfl)(ha:aF hJ cells=some (ls.map Value.string):=by exact rfl)(hn:n=ls.length:=by exact rfl)(hm:m=ls.length:=by exact rfl)(hr:aD hJ av=some r:=by exact rfl):Goal c K ⟨.cal g [.sl k 0 (.l (n:Int)) m] all i::ks,S,[]⟩:=
 .mk0 (aAk (Kn:=[]) (ow:=S.ow) (λo n0 D ho hD _=>aSt ho hD (hc.hP▸hg) (hc.hP▸hp) hb ha hn hm hr) (dX hc N h))
theorem bL (hc:Ctx c P ty nt)(av:AV){g k n m T:Nat}{cells:List AV}{ls:List ByteArray}{all:Array Oper}{i n0:Nat}{K0:List KF}{ks:List KI}{S:St}{r:Value}(hp:kH P g ls r)(hg:aB P g)(N:Nat)
  (h:Goal c K (run ty nt K N (.dops all (i+1) n0 K0::ks) (S.put (eX all i) av none) []))(hb:S.hp[k]?=some (.c T cells):=by exact rfl)(ha:aF hJ cells=some (ls.map Value.string):=by exact rfl)(hn:n=ls.length:=by exact rfl)(hm:m=ls.length:=by exact rfl)(hr:aD hJ av=some r:=by exact rfl):Goal c K ⟨.dcal g [.sl k 0 (.l (n:Int)) m] all i n0 K0::ks,S,[]⟩:=
 .mk0 (uO (Kn:=[]) (ow:=S.ow) (λo D ho hD=>aSt ho hD (hc.hP▸hg) (hc.hP▸hp) hb ha hn hm hr) (dX hc N h))
def aH8 (l:List ByteArray):VF where
 p v X w:=∃b ty,v=.slice (some ⟨b,0,none⟩) l.length l.length/\X b/\w.heap[b]?=some (.cells (l.map Value.string).toArray ty (0,0))
 st v X X' w w' hs hw h:=by
  obtain⟨b,ty,h1,h2,h3⟩:=h;exact⟨b,ty,h1,hs _ h2,by rw[hw _ h2];exact h3⟩
theorem kH.of_fn {P:Program}{g:Nat}{ls:List ByteArray}{r:Value}(h:∀X w v,(∀b,X b->b<w.heap.size)->(aH8 ls).p v X w->Fn P g [v] X w (eE r)):kH P g ls r:=by
 intro w b ty hg hb;have hlt:b<w.heap.size:=by
  rcases Nat.lt_or_ge b w.heap.size with h | h
  ·exact h
  ·rw[Array.getElem?_eq_none h]at hb;cases hb
 refine(h (λc=>c<w.heap.size) w _ (λ_ h=>h) ⟨b,ty,rfl,hlt,hb⟩ hg).mono ?_;rintro e w' ⟨v,X',rfl,h1,_,_,h2⟩;have h2:v=r:=h2;exact⟨by rw[h2],h1⟩
structure RowTX where
 f:Nat->ByteArray
theorem aAn {ks:List KI}{S:St}(d:Nat){av:AV}(l:List ByteArray)(N:Nat)(hN:N=l.length)(hp:jT ks=true)(hl:look S.sl d=some av)(hr:∀X μ a w v,Sim c K S X μ a w->aD μ av=some v->(aH8 l).p v X w)
  (h:∀f,(∀i x,l[i]?=some x->f i=x)->Goal c K ⟨ks,{S with sl:=(d,.sl S.hp.length 0 (.l (N:Int)) N)::S.sl,hp:=S.hp++[.xs N f]},[]⟩):Goal c K ⟨ks,S,[]⟩:=by
 refine jD (ι:=RowTX) (K':=λ_=>K) (S':=λx=>{S with sl:=(d,.sl S.hp.length 0 (.l (N:Int)) N)::S.sl,hp:=S.hp++[.xs N x.f]}) (p:=λx=>∀i y,l[i]?=some y->x.f i=y) hp ?_ (λx hx=>h x.f hx);intro X μ a w H;obtain⟨v,hv,hs⟩:=H.toP.slots d av trivial hl;obtain⟨b,ty,e1,e2,e3⟩:=hr X μ a w v H hv;subst hN;have hok:(Blk.xs l.length (λi=>l.getD i default)).ok X (μ.upd S.hp.length (.ext (some (b,0)))) w (.ext (some (b,0))):=
  ⟨e2,_,(ty,(0,0)),e3,λi hi=>by simp[hi]⟩
 refine⟨⟨λi=>l.getD i default⟩,X,μ.upd S.hp.length (.ext (some (b,0))),λi y hy=>by simp[List.getD_eq_getElem?_getD,hy],?_⟩;have H1:=sB H (blk:=.xs l.length (λi=>l.getD i default)) (m:=.ext (some (b,0))) (λb e=>by cases e) hok;refine jW (av:=av) H1 hl ?_;rw[iN (Mu.le_upd (H.dom _ (lRf _))) av v hv];have hz:(0:Int)<=(IE.l (l.length:Int)).den:=by simp[IE.den]
 refine(iU (len:=.l (l.length:Int)) (a:=some (b,0)) (by simp[atS,Mu.upd_same,MV.atS]) hz (λe=>by cases e)).trans ?_;rw[e1];simp[IE.den]
def uZ (P:Program)(g:Nat)(pre:List Value)(s:List ByteArray)(r:Value):Prop:=
 ∀(w:World) (b ty:Nat),Glob P w->w.heap[b]?=some (Obj.cells (s.map Value.string).toArray ty (0,0))->Calls P g (pre++[Value.pointer (some ⟨b,0,none⟩)]).toArray w λe w'=>e=.returned r/\Below w.heap.size w w'
theorem aFk {μ:Mu}:∀{l:List AV} {x:AV} {vs:List Value},aF μ (l++[x])=some vs->∃us v,aF μ l=some us/\aD μ x=some v/\vs=us++[v]
 | [],x,vs,h=>by
  obtain⟨v,rfl,h1⟩:=bN h;exact⟨[],v,rfl,h1,rfl⟩
 | y::l,x,vs,h=>by
  simp only[List.cons_append,aF]at h;cases h1:aD μ y with
  | none=>rw[h1]at h;cases h
  | some u=>
   cases h2:aF μ (l++[x])with
   | none=>rw[h1,h2]at h;cases h
   | some us=>
    rw[h1,h2]at h;injection h with h;subst h
    obtain⟨us',v,e1,e2,rfl⟩:=aFk h2;exact⟨u::us',v,by simp[aF,h1,e1],e2,rfl⟩
theorem bAr {n0:Nat}{D:Nat->Prop}{S:St}{o:Oper}{g k T:Nat}{pre:List AV}{prev:List Value}{cell:List AV}{s:List ByteArray}{av:AV}{r:Value}(h:iS S.sl o.op=some (g,pre++[.p k 0]))(hD:∀t,Operand.tmp t∈o.op.operands->D t)(hg:aB c.P g)
  (hp:uZ c.P g prev s r) (aT6:aF hJ pre=some prev) (hb:S.hp[k]?=some (.c T cell)) (ha:aF hJ cell=some (s.map Value.string)) (hr:aD hJ av=some r):Cert c K n0 D S o av none [] S.ow:=by
 refine qJ h hD hg λX μ a w aK H hv=>?_;obtain⟨us,v1,e0,e1,rfl⟩:=aFk hv;rw[cW aT6]at e0;injection e0 with e0;subst e0
 cases hk:μ k with
 | none=>simp[aD,rA,atS,hk]at e1
 | some mv=>
  have hok:=H.heap k _ mv hb hk
  cases mv with
  | ext a=>exact hok.elim
  | val v=>exact hok.elim
  | own b=>
   obtain⟨vs,q1,q2⟩:=hok;rw[cW ha]at q1;injection q1 with q1;subst q1
   have hv1:v1=.pointer (some ⟨b,0,none⟩):=by
    simp[aD,rA,hk,MV.at]at e1;exact e1.symm
   subst hv1;refine(hp w b T H.glob q2).mono ?_;rintro e w' ⟨rfl,hbl⟩;exact⟨X,r,rfl,mI H hbl (fE hr),λf hf=>by cases hf⟩
theorem iB (hc:Ctx c P ty nt)(av:AV){g k T:Nat}{pre avs:List AV}{prev:List Value}{cell:List AV}{s:List ByteArray}{all:Array Oper}{i n0:Nat}{K0:List KF}{ks:List KI}{S:St}{r:Value}(hp:uZ P g prev s r)(hg:aB P g)(N:Nat)
  (h:Goal c K (run ty nt K N (.dops all (i+1) n0 K0::ks) (S.put (eX all i) av none) []))(hav:avs=pre++[.p k 0]:=by exact rfl)(aT6:aF hJ pre=some prev:=by exact rfl)(hb:S.hp[k]?=some (.c T cell):=by exact rfl)(ha:aF hJ cell=some (s.map Value.string):=by exact rfl)(hr:aD hJ av=some r:=by exact rfl):Goal c K ⟨.dcal g avs all i n0 K0::ks,S,[]⟩:=by
 subst hav;exact .mk0 (uO (Kn:=[]) (ow:=S.ow) (λo D ho hD=>bAr ho hD (hc.hP▸hg) (hc.hP▸hp) aT6 hb ha hr) (dX hc N h))
def aUw (s:List ByteArray):VF where
 p v X w:=∃b ty,v=.pointer (some ⟨b,0,none⟩)/\X b/\w.heap[b]?=some (.cells (s.map Value.string).toArray ty (0,0))
 st v X X' w w' hs hw h:=by
  obtain⟨b,ty,h1,h2,h3⟩:=h;exact⟨b,ty,h1,hs _ h2,by rw[hw _ h2];exact h3⟩
theorem uZ.of_fn {P:Program}{g:Nat}{pre:List Value}{s:List ByteArray}{r:Value}(h:∀X w v,(∀b,X b->b<w.heap.size)->(aUw s).p v X w->Fn P g (pre++[v]) X w (eE r)):uZ P g pre s r:=by
 intro w b ty hg hb;have hlt:b<w.heap.size:=by
  rcases Nat.lt_or_ge b w.heap.size with h | h
  ·exact h
  ·rw[Array.getElem?_eq_none h]at hb;cases hb
 refine(h (λc=>c<w.heap.size) w _ (λ_ h=>h) ⟨b,ty,rfl,hlt,hb⟩ hg).mono ?_;rintro e w' ⟨v,X',rfl,h1,_,_,h2⟩;have h2:v=r:=h2;exact⟨by rw[h2],h1⟩
theorem aNg {ks:List KI}{S:St}(d:Nat){av:AV}(s:List ByteArray)(hp:jT ks=true)(hl:look S.sl d=some av)(hr:∀X μ a w v,Sim c K S X μ a w->aD μ av=some v->(aUw s).p v X w)
  (h:∀f:Nat->ByteArray,(∀i x,s[i]?=some x->f i=x)->Goal c K ⟨ks,{S with sl:=(d,.p S.hp.length 0)::S.sl,hp:=S.hp++[.xs s.length f]},[]⟩):Goal c K ⟨ks,S,[]⟩:=by
 refine jD (ι:=RowTX) (K':=λ_=>K) (S':=λx=>{S with sl:=(d,.p S.hp.length 0)::S.sl,hp:=S.hp++[.xs s.length x.f]}) (p:=λx=>∀i y,s[i]?=some y->x.f i=y) hp ?_ (λx hx=>h x.f hx);intro X μ a w H;obtain⟨v,hv,hs⟩:=H.toP.slots d av trivial hl;obtain⟨b,ty,e1,e2,e3⟩:=hr X μ a w v H hv;have hok:(Blk.xs s.length (λi=>s.getD i default)).ok X (μ.upd S.hp.length (.ext (some (b,0)))) w (.ext (some (b,0))):=
  ⟨e2,_,(ty,(0,0)),e3,λi hi=>by simp[hi]⟩
 refine⟨⟨λi=>s.getD i default⟩,X,μ.upd S.hp.length (.ext (some (b,0))),λi y hy=>by simp[List.getD_eq_getElem?_getD,hy],?_⟩;have H1:=sB H (blk:=.xs s.length (λi=>s.getD i default)) (m:=.ext (some (b,0))) (λb e=>by cases e) hok;refine jW (av:=av) H1 hl ?_;rw[iN (Mu.le_upd (H.dom _ (lRf _))) av v hv,e1];simp[aD,rA,Mu.upd_same,MV.at]
end
end Go.Ai
namespace Go.Ai
open Go Go.Proofs Go.Num
theorem oW:aA 1=⟨#[49]⟩:=by
 have:aA 1=aW 1:=rfl
 rw[this,show(1:Int)=((1:Nat):Int) from rfl,lM,aLh]
theorem sz1:sz 1<=2^29:=lTr (gS 1) (by rw[oW];decide)
theorem lP {off sz inner size n:Nat}{i:IE}(h:Nat.ble (aY off i.den sz inner+size) n=true:=by exact rfl):(Obl.ix off i sz inner size n).ok:=lbl h
theorem iR:aB PP 127:=zK
theorem eN:aB PP 129:=zK
theorem vL {x y:Rat}(hx:sz x<=2^29)(hy:sz y<=2^29):kH PP 127 [aA x,aA y] (.string (aA (x+y))):=by
 have t0:=aBi (x:=0) (y:=x) sz0 hx
 rw[Rat.zero_add,eS]at t0;have t1:=aBi hx hy;obtain⟨a1,ha1⟩:=nm (aA (x+y));rw[<-ha1]at t1 |-;generalize aA x=s0 at t0 t1 |-;generalize aA y=s1 at t1 |-;refine kH.of_fn (λX w v hX hv=>?_);obtain⟨R,hRR⟩:=nm (eE (.string a1));obtain⟨K,hK⟩:=nm ([KF.cst v (aH8 [s0,s1])]);rw[<-hRR];refine bJ mixed tok [.q v] (K:=K) Tryz.func127 rfl rfl (lbl rfl) rfl hX (by rw[hK];simp;exact hv) λc hc hR=>?_;refine aAn 0 [s0,s1] 2 rfl rfl rfl (λX μ a w v' H hv'=>cD H (by rw[hK];exact .head _) hv') (λf hf=>?_);have e0:f 0=s0:=hf 0 _ rfl;have e1:f 1=s1:=hf 1 _ rfl;clear hf;subst e0;subst e1;apply zN hc;cbv;refine aV 3 (λp hp=>?_);refine hp _ _ _ ?_;apply zN hc;cbv;refine aP hc ⟨lP,trivial⟩ ?_;refine zC (.t [.s (.v (f 0)),.i .i64 (.l 0)]) t0 mR ?_;cbv;refine hp _ _ _ ?_;apply zN hc;cbv;refine aP hc ⟨lP,trivial⟩ ?_;refine zC (.t [.s (.v (a1)),.i .i64 (.l 0)]) t1 mR ?_;cbv;refine hp _ _ _ ?_;apply zN hc;cbv;refine bB hc hR rfl (λX μ a w v' H hv'=>?_);rw[hRR,dW hv'];rfl
theorem aKc {x y z:Rat}(hx:sz x<=2^29)(hy:sz y<=2^29)(hz:sz z<=2^29)(b1:sz (x+y)<=2^29):kH PP 127 [aA x,aA y,aA z] (.string (aA ((x+y)+z))):=by
 have t0:=aBi (x:=0) (y:=x) sz0 hx
 rw[Rat.zero_add,eS]at t0;have t1:=aBi hx hy;have t2:=aBi b1 hz;obtain⟨a2,ha2⟩:=nm (aA ((x+y)+z));rw[<-ha2]at t2 |-;obtain⟨a1,ha1⟩:=nm (aA (x+y));rw[<-ha1]at t1 t2;generalize aA x=s0 at t0 t1 |-;generalize aA y=s1 at t1 |-;generalize aA z=s2 at t2 |-;refine kH.of_fn (λX w v hX hv=>?_);obtain⟨R,hRR⟩:=nm (eE (.string a2));obtain⟨K,hK⟩:=nm ([KF.cst v (aH8 [s0,s1,s2])]);rw[<-hRR];refine bJ mixed tok [.q v] (K:=K) Tryz.func127 rfl rfl (lbl rfl) rfl hX (by rw[hK];simp;exact hv) λc hc hR=>?_;refine aAn 0 [s0,s1,s2] 3 rfl rfl rfl (λX μ a w v' H hv'=>cD H (by rw[hK];exact .head _) hv') (λf hf=>?_);have e0:f 0=s0:=hf 0 _ rfl;have e1:f 1=s1:=hf 1 _ rfl;have e2:f 2=s2:=hf 2 _ rfl;clear hf;subst e0;subst e1;subst e2;apply zN hc;cbv;refine aV 4 (λp hp=>?_);refine hp _ _ _ ?_;apply zN hc;cbv;refine aP hc ⟨lP,trivial⟩ ?_;refine zC (.t [.s (.v (f 0)),.i .i64 (.l 0)]) t0 mR ?_;cbv;refine hp _ _ _ ?_;apply zN hc;cbv;refine aP hc ⟨lP,trivial⟩ ?_;refine zC (.t [.s (.v (a1)),.i .i64 (.l 0)]) t1 mR ?_;cbv;refine hp _ _ _ ?_;apply zN hc;cbv;refine aP hc ⟨lP,trivial⟩ ?_;refine zC (.t [.s (.v (a2)),.i .i64 (.l 0)]) t2 mR ?_;cbv;refine hp _ _ _ ?_;apply zN hc;cbv;refine bB hc hR rfl (λX μ a w v' H hv'=>?_);rw[hRR,dW hv'];rfl
theorem aY6 {x y z u:Rat}(hx:sz x<=2^29)(hy:sz y<=2^29)(hz:sz z<=2^29)(hu:sz u<=2^29)(b1:sz (x+y)<=2^29)(b2:sz ((x+y)+z)<=2^29):kH PP 127 [aA x,aA y,aA z,aA u] (.string (aA (((x+y)+z)+u))):=by
 have t0:=aBi (x:=0) (y:=x) sz0 hx
 rw[Rat.zero_add,eS]at t0;have t1:=aBi hx hy;have t2:=aBi b1 hz;have t3:=aBi b2 hu;obtain⟨a3,ha3⟩:=nm (aA (((x+y)+z)+u));rw[<-ha3]at t3 |-;obtain⟨a2,ha2⟩:=nm (aA ((x+y)+z));rw[<-ha2]at t2 t3;obtain⟨a1,ha1⟩:=nm (aA (x+y));rw[<-ha1]at t1 t2;generalize aA x=s0 at t0 t1 |-;generalize aA y=s1 at t1 |-;generalize aA z=s2 at t2 |-;generalize aA u=s3 at t3 |-;refine kH.of_fn (λX w v hX hv=>?_);obtain⟨R,hRR⟩:=nm (eE (.string a3));obtain⟨K,hK⟩:=nm ([KF.cst v (aH8 [s0,s1,s2,s3])]);rw[<-hRR];refine bJ mixed tok [.q v] (K:=K) Tryz.func127 rfl rfl (lbl rfl) rfl hX (by rw[hK];simp;exact hv) λc hc hR=>?_;refine aAn 0 [s0,s1,s2,s3] 4 rfl rfl rfl (λX μ a w v' H hv'=>cD H (by rw[hK];exact .head _) hv') (λf hf=>?_);have e0:f 0=s0:=hf 0 _ rfl;have e1:f 1=s1:=hf 1 _ rfl;have e2:f 2=s2:=hf 2 _ rfl;have e3:f 3=s3:=hf 3 _ rfl;clear hf;subst e0;subst e1;subst e2;subst e3;apply zN hc;cbv;refine aV 5 (λp hp=>?_);refine hp _ _ _ ?_;apply zN hc;cbv;refine aP hc ⟨lP,trivial⟩ ?_;refine zC (.t [.s (.v (f 0)),.i .i64 (.l 0)]) t0 mR ?_;cbv;refine hp _ _ _ ?_;apply zN hc;cbv;refine aP hc ⟨lP,trivial⟩ ?_;refine zC (.t [.s (.v (a1)),.i .i64 (.l 0)]) t1 mR ?_;cbv;refine hp _ _ _ ?_;apply zN hc;cbv;refine aP hc ⟨lP,trivial⟩ ?_;refine zC (.t [.s (.v (a2)),.i .i64 (.l 0)]) t2 mR ?_;cbv;refine hp _ _ _ ?_;apply zN hc;cbv;refine aP hc ⟨lP,trivial⟩ ?_;refine zC (.t [.s (.v (a3)),.i .i64 (.l 0)]) t3 mR ?_;cbv;refine hp _ _ _ ?_;apply zN hc;cbv;refine bB hc hR rfl (λX μ a w v' H hv'=>?_);rw[hRR,dW hv'];rfl
theorem oM {x y:Rat}(hx:sz x<=2^29)(hy:sz y<=2^29):kH PP 129 [aA x,aA y] (.string (aA (x*y))):=by
 have t0:=aH6 (x:=1) (y:=x) sz1 hx
 rw[Rat.one_mul,oW]at t0;have t1:=aH6 hx hy;obtain⟨a1,ha1⟩:=nm (aA (x*y));rw[<-ha1]at t1 |-;generalize aA x=s0 at t0 t1 |-;generalize aA y=s1 at t1 |-;refine kH.of_fn (λX w v hX hv=>?_);obtain⟨R,hRR⟩:=nm (eE (.string a1));obtain⟨K,hK⟩:=nm ([KF.cst v (aH8 [s0,s1])]);rw[<-hRR];refine bJ mixed tok [.q v] (K:=K) Tryz.func129 rfl rfl (lbl rfl) rfl hX (by rw[hK];simp;exact hv) λc hc hR=>?_;refine aAn 0 [s0,s1] 2 rfl rfl rfl (λX μ a w v' H hv'=>cD H (by rw[hK];exact .head _) hv') (λf hf=>?_);have e0:f 0=s0:=hf 0 _ rfl;have e1:f 1=s1:=hf 1 _ rfl;clear hf;subst e0;subst e1;apply zN hc;cbv;refine aV 3 (λp hp=>?_);refine hp _ _ _ ?_;apply zN hc;cbv;refine aP hc ⟨lP,trivial⟩ ?_;refine zC (.t [.s (.v (f 0)),.i .i64 (.l 0)]) t0 rE ?_;cbv;refine hp _ _ _ ?_;apply zN hc;cbv;refine aP hc ⟨lP,trivial⟩ ?_;refine zC (.t [.s (.v (a1)),.i .i64 (.l 0)]) t1 rE ?_;cbv;refine hp _ _ _ ?_;apply zN hc;cbv;refine bB hc hR rfl (λX μ a w v' H hv'=>?_);rw[hRR,dW hv'];rfl
theorem yC {x y z:Rat}(hx:sz x<=2^29)(hy:sz y<=2^29)(hz:sz z<=2^29)(b1:sz (x*y)<=2^29):kH PP 129 [aA x,aA y,aA z] (.string (aA ((x*y)*z))):=by
 have t0:=aH6 (x:=1) (y:=x) sz1 hx
 rw[Rat.one_mul,oW]at t0;have t1:=aH6 hx hy;have t2:=aH6 b1 hz;obtain⟨a2,ha2⟩:=nm (aA ((x*y)*z));rw[<-ha2]at t2 |-;obtain⟨a1,ha1⟩:=nm (aA (x*y));rw[<-ha1]at t1 t2;generalize aA x=s0 at t0 t1 |-;generalize aA y=s1 at t1 |-;generalize aA z=s2 at t2 |-;refine kH.of_fn (λX w v hX hv=>?_);obtain⟨R,hRR⟩:=nm (eE (.string a2));obtain⟨K,hK⟩:=nm ([KF.cst v (aH8 [s0,s1,s2])]);rw[<-hRR];refine bJ mixed tok [.q v] (K:=K) Tryz.func129 rfl rfl (lbl rfl) rfl hX (by rw[hK];simp;exact hv) λc hc hR=>?_;refine aAn 0 [s0,s1,s2] 3 rfl rfl rfl (λX μ a w v' H hv'=>cD H (by rw[hK];exact .head _) hv') (λf hf=>?_);have e0:f 0=s0:=hf 0 _ rfl;have e1:f 1=s1:=hf 1 _ rfl;have e2:f 2=s2:=hf 2 _ rfl;clear hf;subst e0;subst e1;subst e2;apply zN hc;cbv;refine aV 4 (λp hp=>?_);refine hp _ _ _ ?_;apply zN hc;cbv;refine aP hc ⟨lP,trivial⟩ ?_;refine zC (.t [.s (.v (f 0)),.i .i64 (.l 0)]) t0 rE ?_;cbv;refine hp _ _ _ ?_;apply zN hc;cbv;refine aP hc ⟨lP,trivial⟩ ?_;refine zC (.t [.s (.v (a1)),.i .i64 (.l 0)]) t1 rE ?_;cbv;refine hp _ _ _ ?_;apply zN hc;cbv;refine aP hc ⟨lP,trivial⟩ ?_;refine zC (.t [.s (.v (a2)),.i .i64 (.l 0)]) t2 rE ?_;cbv;refine hp _ _ _ ?_;apply zN hc;cbv;refine bB hc hR rfl (λX μ a w v' H hv'=>?_);rw[hRR,dW hv'];rfl
theorem aNr:aA (-1)=⟨#[45,49]⟩:=by
 have:aA (-1)=aW (-1):=rfl
 rw[this,show(-1:Int)=-((1:Nat):Int) from rfl,aLj zV,aLh];rfl
theorem bF7:sz (-1)<=2^29:=lTr (gS (-1)) (by rw[aNr];decide)
theorem bAa:aB PP 140:=zK
theorem bIe {x y:Rat}(hx:sz x<=2^29)(hy:sz y<=2^29):Pure PP 140 [.string (aA x),.string (aA y)] (.string (aA (x - y))):=by
 have h1:=oM (x:=-1) (y:=y) bF7 hy
 rw[show -1*y=-y by grind,aNr]at h1;have h2:=vL (x:=x) (y:=-y) hx (by rw[qB];exact hy);rw[show x+-y=x - y from(Rat.sub_eq_add_neg x y).symm]at h2;generalize aA (x - y)=r at h2 |-;generalize aA (-y)=q at h1 h2;generalize aA x=sx at h2 |-;generalize aA y=sy at h1 |-;refine zF [.s (.v sx),.s (.v sy)] Tryz.func140 λc hc hR=>?_;cbv;refine iO hc (n:=2) (.s (.v q)) h1 eN 100 ?_;cbv;refine iO hc (n:=2) (.s (.v r)) h2 iR 100 ?_;cbv;exact zR
theorem aR8:aB PP 206:=zK
theorem pW {x y:Rat}(hx:sz x<=2^29)(hy:sz y<=2^29):Pure PP 206 [.string (aA x),.string (aA y)] (.string (aA (x+y))):=by
 have h2:=vL hx hy
 generalize aA (x+y)=r,aA x=sx,aA y=sy at h2 |-;refine zF [.s (.v sx),.s (.v sy)] Tryz.func206 λc hc hR=>?_;cbv;refine iO hc (n:=2) (.s (.v r)) h2 iR 100 ?_;cbv;exact zR
structure Tri where
 a:V3
 b:V3
 c:V3
def Tri.le (t:Tri)(k:Nat):Prop:=t.a.le k/\t.b.le k/\t.c.le k
def Tri.det (t:Tri):Rat:=t.a.dot (t.b.cross t.c)
def oU (t:Tri):Value:=.agg #[.string (aA t.a.x),.string (aA t.a.y),.string (aA t.a.z),.string (aA t.b.x),.string (aA t.b.y),.string (aA t.b.z),.string (aA t.c.x),.string (aA t.c.y),.string (aA t.c.z)]
theorem aZ9:aB PP 128:=zK
theorem bIc {t:Tri}(ht:t.le (2^23)):Pure PP 128 [oU t] (.string (aA t.det)):=by
 have h1:=bIu (ht.1.mono zV) ht.2.1 ht.2.2
 unfold Tri.det oU gA gT at *;generalize aA (t.a.dot (t.b.cross t.c))=r,aA t.a.x=a1,aA t.a.y=a2,aA t.a.z=a3,aA t.b.x=b1,aA t.b.y=b2,aA t.b.z=b3,aA t.c.x=c1,aA t.c.y=c2,aA t.c.z=c3 at *;refine zF [.g [.s (.v a1),.s (.v a2),.s (.v a3),.s (.v b1),.s (.v b2),.s (.v b3),.s (.v c1),.s (.v c2),.s (.v c3)]] Tryz.func128 λc hc hR=>?_;cbv;refine zC (.t [.s (.v r),.i .i64 (.l 0)]) h1 bAk ?_;cbv;exact zR
theorem aBm:aB PP 171:=zK
theorem aY7:Pure PP 171 [] (.agg #[.string ⟨#[48]⟩,.string ⟨#[48]⟩,.string ⟨#[48]⟩,.string ⟨#[48]⟩,.string ⟨#[48]⟩,.string ⟨#[48]⟩,.string ⟨#[48]⟩,.string ⟨#[48]⟩,.string ⟨#[48]⟩,.string ⟨#[48]⟩]):=by
 refine zF [] Tryz.func171 λc hc hR=>?_;cbv;exact zR
theorem aHd (x y:Rat):decide (jJ x y<0)=decide (x<y):=by
 unfold jJ;by_cases h:x<y
 ·simp[h]
 ·by_cases h2:y<x<;>simp[h,h2]
theorem aGv:aB PP 232:=zK
theorem aGx:aB PP 228:=zK
theorem zH:aB PP 230:=zK
theorem aGw:aB PP 231:=zK
theorem pD:aB PP 227:=zK
theorem aE6:aB PP 197:=zK
theorem wY:aB PP 158:=zK
theorem aIt:aB PP 229:=zK
theorem aRp:aB PP 198:=zK
theorem aRq:aB PP 199:=zK
theorem bDn {x y:Rat}(hx:sz x<=2^29)(hy:sz y<=2^29):Pure PP 232 [.string (aA x),.string (aA y)] (.string (aA (x+y))):=by
 have h1:=aBi hx hy
 generalize aA (x+y)=r,aA x=sx,aA y=sy at h1 |-;refine zF [.s (.v sx),.s (.v sy)] Tryz.func232 λc hc hR=>?_;cbv;refine zC (.t [.s (.v r),.i .i64 (.l 0)]) h1 mR ?_;cbv;exact zR
theorem bDp {x y:Rat}(hx:sz x<=2^29)(hy:sz y<=2^29):Pure PP 228 [.string (aA x),.string (aA y)] (.string (aA (x - y))):=by
 have h1:=bCh hx hy
 generalize aA (x - y)=r,aA x=sx,aA y=sy at h1 |-;refine zF [.s (.v sx),.s (.v sy)] Tryz.func228 λc hc hR=>?_;cbv;refine zC (.t [.s (.v r),.i .i64 (.l 0)]) h1 aL0 ?_;cbv;exact zR
theorem aZ0 {x y:Rat}(hx:sz x<=2^29)(hy:sz y<=2^29):Pure PP 230 [.string (aA x),.string (aA y)] (.string (aA (x*y))):=by
 have h1:=aH6 hx hy
 generalize aA (x*y)=r,aA x=sx,aA y=sy at h1 |-;refine zF [.s (.v sx),.s (.v sy)] Tryz.func230 λc hc hR=>?_;cbv;refine zC (.t [.s (.v r),.i .i64 (.l 0)]) h1 rE ?_;cbv;exact zR
theorem bDo {x y:Rat}(h0:y≠0)(hx:sz x<=2^29)(hy:sz y<=2^29):Pure PP 231 [.string (aA x),.string (aA y)] (.string (aA (x/y))):=by
 have h1:=aXz h0 hx hy
 generalize aA (x/y)=r,aA x=sx,aA y=sy at h1 |-;refine zF [.s (.v sx),.s (.v sy)] Tryz.func231 λc hc hR=>?_;cbv;refine zC (.t [.s (.v r),.i .i64 (.l 0)]) h1 aG3 ?_;cbv;exact zR
theorem aYq {x y:Rat}(hx:sz x<=2^29)(hy:sz y<=2^29):Pure PP 227 [.string (aA x),.string (aA y)] (.bool (decide (x<y))):=by
 have h1:=yI hx hy
 have e:=aHd x y
 generalize decide (x<y)=b at e |-;generalize jJ x y=r at h1 e;generalize aA x=sx,aA y=sy at h1 |-;refine zF [.s (.v sx),.s (.v sy)] Tryz.func227 λc hc hR=>?_;cbv;refine zC (.t [.i .i64 (.v r),.i .i64 (.l 0)]) h1 rD ?_;cbv;exact bR hc hR rfl (by show some (Value.bool (decide (r<0)))=_;rw[e])
theorem aN0 {x y:Rat}(hx:sz x<=2^28)(hy:sz y<=2^28):Pure PP 197 [.string (aA x),.string (aA y)] (.bool (!decide (y<x)&& !decide (x< -y))):=by
 have h1:=aYq (x:=y) (y:=x) (lTr hy zV) (lTr hx zV)
 have h2:=bDp (x:=0) (y:=y) sz0 (lTr hy zV)
 rw[show(0:Rat) - y=-y by grind,eS]at h2;have h3:=aYq (x:=x) (y:=-y) (lTr hx zV) (by rw[qB];exact lTr hy zV);generalize decide (y<x)=b1 at h1 |-;generalize decide (x< -y)=b2 at h3 |-;generalize aA (-y)=r at h2 h3;generalize aA x=sx,aA y=sy at h1 h2 h3 |-;refine zF [.s (.v sx),.s (.v sy)] Tryz.func197 λc hc hR=>?_;cbv;cases b1
 ·first | refine zC (.b (.l false)) h1 pD ?_ | refine zD (.b (.l false)) h1 pD ?_
  cbv;first | refine zC (.s (.v r)) h2 aGx ?_ | refine zD (.s (.v r)) h2 aGx ?_
  cbv;cases b2
  ·first | refine zC (.b (.l false)) h3 pD ?_ | refine zD (.b (.l false)) h3 pD ?_
   cbv;try (refine zE ?_;cbv)
   exact zR
  ·first | refine zC (.b (.l true)) h3 pD ?_ | refine zD (.b (.l true)) h3 pD ?_
   cbv;try (refine zE ?_;cbv)
   exact zR
 ·first | refine zC (.b (.l true)) h1 pD ?_ | refine zD (.b (.l true)) h1 pD ?_
  cbv;try (refine zE ?_;cbv)
  exact zR
theorem aZy {x:Rat}(hx:sz x<=2^28):Pure PP 158 [.string (aA x)] (.bool (!decide (1<x)&& !decide (x< -1))):=by
 have k2:=fY (aA x) (lTr (aZ x) zW)
 rw[dC]at k2;change Pure _ _ _ (.bool true)at k2;have h:=aN0 (x:=x) (y:=1) hx (lTr (gS 1) (by rw[oW];decide));rw[oW]at h;generalize (!decide (1<x)&& !decide (x< -1))=b at h |-;generalize aA x=sx at h k2 |-;refine zF [.s (.v sx)] Tryz.func158 λc hc hR=>?_;cbv;refine zC (.b (.l true)) k2 cB ?_;cbv;refine zC (.b (.l b)) h aE6 ?_;cbv;exact zR
theorem aNv {x:Rat}(hx:sz x<=2^28)(h1:-1<=x)(h2:x<=1):kH PP 229 [aA x] (.int .i64 0):=by
 have k2:=fY (aA x) (lTr (aZ x) zW)
 rw[dC]at k2;change Pure _ _ _ (.bool true)at k2;have h:=aN0 (x:=x) (y:=1) hx (lTr (gS 1) (by rw[oW];decide));rw[oW,show(!decide (1<x)&& !decide (x< -1))=true by simp;grind]at h;clear h1 h2 hx;generalize aA x=s0 at k2 h |-;refine kH.of_fn (λX w v hX hv=>?_);obtain⟨R,hRR⟩:=nm (eE (.int .i64 0));obtain⟨K,hK⟩:=nm ([KF.cst v (aH8 [s0])]);rw[<-hRR];refine bJ mixed tok [.q v] (K:=K) Tryz.func229 rfl rfl (lbl rfl) rfl hX (by rw[hK];simp;exact hv) λc hc hR=>?_;refine aAn 0 [s0] 1 rfl rfl rfl (λX μ a w v' H hv'=>cD H (by rw[hK];exact .head _) hv') (λf hf=>?_);have e0:f 0=s0:=hf 0 _ rfl;clear hf;subst e0;apply zN hc;cbv;refine aV 2 (λp hp=>?_);refine hp _ _ _ ?_;apply zN hc;cbv;refine aP hc ⟨lP,trivial⟩ ?_;apply zN hc;cbv;refine zC (.b (.l true)) k2 cB ?_;cbv;refine hp _ _ _ ?_;apply zN hc;cbv;refine aV 2 (λp hp=>?_);refine hp _ _ _ ?_;apply zN hc;cbv;refine aP hc ⟨lP,trivial⟩ ?_;apply zN hc;cbv;refine zC (.b (.l true)) h aE6 ?_;cbv;refine hp _ _ _ ?_;apply zN hc;cbv;refine bB hc hR rfl (λX μ a w v H hv=>?_);rw[hRR];simp only[aD]at hv;injection hv with hv
 exact hv.symm
end Go.Ai
namespace Go.Ai
open Go Go.Proofs Go.Num V3
theorem aVy:aA 2=⟨#[50]⟩:=(qA (s:=⟨#[50]⟩) (by decide+kernel)).symm
theorem aLi:aA (1/2)=⟨#[49,47,50]⟩:=(qA (s:=⟨#[49,47,50]⟩) (by decide+kernel)).symm
theorem sz2:sz 2<=1:=lTr (gS _) (by rw[aVy];decide)
theorem szh:sz (1/2)<=3:=lTr (gS _) (by rw[aLi];decide)
theorem aIe:sz 1<=1:=lTr (gS 1) (by rw[oW];decide)
theorem bF6 (t:Rat):0<=t*t:=by
 rcases(Rat.le_total:(0:Rat)<=t\/t<=0)with h | h
 ·exact Rat.mul_nonneg h h
 ·have:0<=(-t)*(-t):=Rat.mul_nonneg (by grind) (by grind)
  grind
theorem aDv (t:Rat):(1:Rat)+t*t≠0:=by have:=bF6 t;grind
def jK (t:Rat):Rat:=(1 - t*t)/(1+t*t)
def gR (t:Rat):Rat:=2*t/(1+t*t)
theorem nN {t:Rat}{k:Nat}(h:sz t<=k):sz (jK t)<=4*k+4:=by
 have h1:=sz_mm h h
 have h2:=sz_ss aIe h1
 have h3:=sz_aa aIe h1
 exact lTr (kF _ _) zW
theorem nO {t:Rat}{k:Nat}(h:sz t<=k):sz (gR t)<=3*k+3:=by
 have h1:=sz_mm h h
 have h2:=sz_mm sz2 h
 have h3:=sz_aa aIe h1
 exact lTr (kF _ _) zW
theorem bGf {t:Rat}(ht:sz t<=2^25)(h1:-1<=t)(h2:t<=1):Pure PP 198 [.string (aA t)] (.tuple #[.string (aA (jK t)),.int .i64 0]):=by
 have k0:=aNv (lTr ht zV) h1 h2
 have hm:=sz_mm ht ht
 have k1:=aZ0 (x:=t) (y:=t) (lTr ht zV) (lTr ht zV)
 have k2:=bDp (x:=1) (y:=t*t) sz1 (lTr hm zV)
 have k3:=bDn (x:=1) (y:=t*t) sz1 (lTr hm zV)
 have k4:=bDo (x:=1 - t*t) (y:=1+t*t) (aDv t) (lTr (sz_ss aIe hm) zV) (lTr (sz_aa aIe hm) zV)
 rw[show(1 - t*t)/(1+t*t)=jK t from rfl]at k4;rw[oW]at k2 k3;clear hm ht h1 h2;generalize aA (jK t)=r at k4 |-;generalize aA (1 - t*t)=p at k2 k4;generalize aA (1+t*t)=q at k3 k4;generalize aA (t*t)=m at k1 k2 k3;generalize aA t=s at k0 k1 |-;refine zF [.s (.v s)] Tryz.func198 λc hc hR=>?_;cbv;refine iO hc (n:=1) (.i .i64 (.l 0)) k0 aIt 100 ?_;cbv;first | refine zC (.s (.v m)) k1 zH ?_ | refine zD (.s (.v m)) k1 zH ?_
 cbv;first | refine zC (.s (.v p)) k2 aGx ?_ | refine zD (.s (.v p)) k2 aGx ?_
 cbv;first | refine zC (.s (.v q)) k3 aGv ?_ | refine zD (.s (.v q)) k3 aGv ?_
 cbv;first | refine zC (.s (.v r)) k4 aGw ?_ | refine zD (.s (.v r)) k4 aGw ?_
 cbv;try (refine zE ?_;cbv)
 exact zR
theorem bGg {t:Rat}(ht:sz t<=2^25)(h1:-1<=t)(h2:t<=1):Pure PP 199 [.string (aA t)] (.tuple #[.string (aA (gR t)),.int .i64 0]):=by
 have k0:=aNv (lTr ht zV) h1 h2
 have hm:=sz_mm ht ht
 have k1:=aZ0 (x:=t) (y:=t) (lTr ht zV) (lTr ht zV)
 have k2:=aZ0 (x:=2) (y:=t) (lTr sz2 zV) (lTr ht zV)
 have k3:=bDn (x:=1) (y:=t*t) sz1 (lTr hm zV)
 have k4:=bDo (x:=2*t) (y:=1+t*t) (aDv t) (lTr (sz_mm sz2 ht) zV) (lTr (sz_aa aIe hm) zV)
 rw[show 2*t/(1+t*t)=gR t from rfl]at k4;rw[oW]at k3;rw[aVy]at k2;clear hm ht h1 h2;generalize aA (gR t)=r at k4 |-;generalize aA (2*t)=p at k2 k4;generalize aA (1+t*t)=q at k3 k4;generalize aA (t*t)=m at k1 k3;generalize aA t=s at k0 k1 k2 |-;refine zF [.s (.v s)] Tryz.func199 λc hc hR=>?_;cbv;refine iO hc (n:=1) (.i .i64 (.l 0)) k0 aIt 100 ?_;cbv;first | refine zC (.s (.v p)) k2 zH ?_ | refine zD (.s (.v p)) k2 zH ?_
 cbv;first | refine zC (.s (.v m)) k1 zH ?_ | refine zD (.s (.v m)) k1 zH ?_
 cbv;first | refine zC (.s (.v q)) k3 aGv ?_ | refine zD (.s (.v q)) k3 aGv ?_
 cbv;first | refine zC (.s (.v r)) k4 aGw ?_ | refine zD (.s (.v r)) k4 aGw ?_
 cbv;try (refine zE ?_;cbv)
 exact zR
theorem pS:aB PP 162:=zK
theorem xF:aB PP 159:=zK
theorem sV:aB PP 160:=zK
theorem vU:aB PP 157:=zK
theorem aBp:aB PP 161:=zK
theorem aOf:aB PP 90:=zK
theorem sU:aB PP 89:=zK
theorem aCp:aB PP 34:=zK
theorem aSj:aB PP 138:=zK
theorem aVq {x y:Rat}(hx:sz x<=2^29)(hy:sz y<=2^29):Pure PP 162 [.string (aA x),.string (aA y)] (.string (aA (x*y))):=by
 have h1:=aH6 hx hy
 generalize aA (x*y)=r,aA x=sx,aA y=sy at h1 |-;refine zF [.s (.v sx),.s (.v sy)] Tryz.func162 λc hc hR=>?_;cbv;refine zC (.t [.s (.v r),.i .i64 (.l 0)]) h1 rE ?_;cbv;exact zR
theorem aZm {x y:Rat}(hx:sz x<=2^29)(hy:sz y<=2^29):Pure PP 159 [.string (aA x),.string (aA y)] (.bool (decide (x<y))):=by
 have h1:=yI hx hy
 have e:=aHd x y
 generalize decide (x<y)=b at e |-;generalize jJ x y=r at h1 e;generalize aA x=sx,aA y=sy at h1 |-;refine zF [.s (.v sx),.s (.v sy)] Tryz.func159 λc hc hR=>?_;cbv;refine zC (.t [.i .i64 (.v r),.i .i64 (.l 0)]) h1 rD ?_;cbv;exact bR hc hR rfl (by show some (Value.bool (decide (r<0)))=_;rw[e])
theorem aYk {x:Rat}(hx:sz x<=2^29):Pure PP 160 [.string (aA x)] (.string (aA (-x))):=by
 have h1:=aVq (x:=-1) (y:=x) bF7 hx
 rw[show -1*x=-x by grind,aNr]at h1;generalize aA (-x)=r,aA x=sx at h1 |-;refine zF [.s (.v sx)] Tryz.func160 λc hc hR=>?_;cbv;first | refine zC (.s (.v r)) h1 pS ?_ | refine zD (.s (.v r)) h1 pS ?_
 cbv;try (refine zE ?_;cbv)
 exact zR
theorem bC7 (s t:ByteArray)(hs:s.size<=2^31)(ht:t.size<=2^31):Pure PP 157 [.agg #[.string s,.string t]] (.bool ((sO s.data.toList).isSome&&(sO t.data.toList).isSome)):=by
 have h1:=fY s hs
 have h2:=fY t ht
 generalize (sO s.data.toList).isSome=b1 at h1 |-;generalize (sO t.data.toList).isSome=b2 at h2 |-;refine zF [.g [.s (.v s),.s (.v t)]] Tryz.func157 λc hc hR=>?_;cbv;cases b1
 ·first | refine zC (.b (.l false)) h1 cB ?_ | refine zD (.b (.l false)) h1 cB ?_
  cbv;try (refine zE ?_;cbv)
  exact zR
 ·first | refine zC (.b (.l true)) h1 cB ?_ | refine zD (.b (.l true)) h1 cB ?_
  cbv;first | refine zC (.b (.l b2)) h2 cB ?_ | refine zD (.b (.l b2)) h2 cB ?_
  cbv;try (refine zE ?_;cbv)
  exact zR
theorem aZn {t:Rat}(ht:sz t<=2^25)(h1:-1<=t)(h2:t<=1):Pure PP 161 [.string (aA t)] (.tuple #[.string (aA (jK t)),.string (aA (gR t))]):=by
 have k1:=bGf ht h1 h2
 have k2:=bGg ht h1 h2
 clear ht h1 h2;generalize aA (jK t)=c1 at k1 |-;generalize aA (gR t)=s1 at k2 |-;generalize aA t=s at k1 k2 |-;refine zF [.s (.v s)] Tryz.func161 λc hc hR=>?_;cbv;first | refine zC (.t [.s (.v c1),.i .i64 (.l 0)]) k1 aRp ?_ | refine zD (.t [.s (.v c1),.i .i64 (.l 0)]) k1 aRp ?_
 cbv;first | refine zC (.t [.s (.v s1),.i .i64 (.l 0)]) k2 aRq ?_ | refine zD (.t [.s (.v s1),.i .i64 (.l 0)]) k2 aRq ?_
 cbv;try (refine zE ?_;cbv)
 exact zR
structure At where
 h:Rat
 t:Rat
def At.ok (a:At):Bool:=decide (-1<=a.h)&&decide (a.h<=1)&&decide (-(1/2)<=a.t)&&decide (a.t<=1/2)
def At.ahead (a:At):V3:=⟨jK a.t,-(gR a.h*gR a.t),jK a.h*gR a.t⟩
def At.side (a:At):V3:=⟨0,jK a.h,gR a.h⟩
def At.up (a:At):V3:=⟨-(gR a.t),-(gR a.h*jK a.t),jK a.h*jK a.t⟩
def At.le (a:At)(k:Nat):Prop:=sz a.h<=k/\sz a.t<=k
def atV (a:At):Value:=.agg #[.string (aA a.h),.string (aA a.t)]
theorem At.ok_iff (a:At):a.ok=true↔-1<=a.h/\a.h<=1/\-(1/2)<=a.t/\a.t<=1/2:=by
 unfold At.ok;simp[and_assoc]
theorem At.le_ahead {a:At}{k:Nat}(h:a.le k):a.ahead.le (7*k+7):=by
 have h1:=nN h.1
 have h2:=nO h.1
 have h3:=nN h.2
 have h4:=nO h.2
 refine⟨lTr h3 zW,?_,lTr (sz_mm h1 h4) zW⟩;show sz (-(_))<=_
 rw[qB];exact lTr (sz_mm h2 h4) zW
theorem At.le_side {a:At}{k:Nat}(h:a.le k):a.side.le (7*k+7):=by
 have h1:=nN h.1
 have h2:=nO h.1
 exact⟨lTr (gS 0) (by rw[eS];show 1<=_;omega),lTr h1 zW,lTr h2 zW⟩
theorem At.le_up {a:At}{k:Nat}(h:a.le k):a.up.le (8*k+8):=by
 have h1:=nN h.1
 have h2:=nO h.1
 have h3:=nN h.2
 have h4:=nO h.2
 refine⟨?_,?_,lTr (sz_mm h1 h3) zW⟩
 ·show sz (-(_))<=_
  rw[qB];exact lTr h4 zW
 ·show sz (-(_))<=_
  rw[qB];exact lTr (sz_mm h2 h3) zW
theorem aZl {a:At}(ha:a.le (2^25))(hk:a.ok=true):Pure PP 90 [atV a] (.agg #[.string (aA a.ahead.x),.string (aA a.ahead.y),.string (aA a.ahead.z),.string ⟨#[48]⟩,.string (aA a.side.y),.string (aA a.side.z),.string (aA a.up.x),.string (aA a.up.y),.string (aA a.up.z)]):=by
 obtain⟨o1,o2,o3,o4⟩:=(At.ok_iff a).1 hk;have k1:=aZn ha.1 o1 o2;have k2:=aZn ha.2 (by grind) (by grind);have b1:=nN ha.1;have b2:=nO ha.1;have b3:=nN ha.2;have b4:=nO ha.2;have m1:=aVq (x:=gR a.h) (y:=gR a.t) (lTr b2 zV) (lTr b4 zV);have n1:=aYk (x:=gR a.h*gR a.t) (lTr (sz_mm b2 b4) zV);have m2:=aVq (x:=jK a.h) (y:=gR a.t) (lTr b1 zV) (lTr b4 zV);have n2:=aYk (x:=gR a.t) (lTr b4 zV);have m3:=aVq (x:=gR a.h) (y:=jK a.t) (lTr b2 zV) (lTr b3 zV);have n3:=aYk (x:=gR a.h*jK a.t) (lTr (sz_mm b2 b3) zV);have m4:=aVq (x:=jK a.h) (y:=jK a.t) (lTr b1 zV) (lTr b3 zV);clear b1 b2 b3 b4 o1 o2 o3 o4 ha hk;unfold At.ahead At.side At.up atV;dsimp only;generalize aA (-(gR a.h*gR a.t))=x1,aA (gR a.h*gR a.t)=x2,aA (jK a.h*gR a.t)=x3,aA (-gR a.t)=x4,aA (-(gR a.h*jK a.t))=x5,aA (gR a.h*jK a.t)=x6,aA (jK a.h*jK a.t)=x7,aA (jK a.h)=ch,aA (gR a.h)=sh,aA (jK a.t)=ct,aA (gR a.t)=st,aA a.h=h,aA a.t=t at *;refine zF [.g [.s (.v h),.s (.v t)]] Tryz.func90 λc hc hR=>?_;cbv;first | refine zC (.t [.s (.v ch),.s (.v sh)]) k1 aBp ?_ | refine zD (.t [.s (.v ch),.s (.v sh)]) k1 aBp ?_
 cbv;first | refine zC (.t [.s (.v ct),.s (.v st)]) k2 aBp ?_ | refine zD (.t [.s (.v ct),.s (.v st)]) k2 aBp ?_
 cbv;first | refine zC (.s (.v x2)) m1 pS ?_ | refine zD (.s (.v x2)) m1 pS ?_
 cbv;first | refine zC (.s (.v x1)) n1 sV ?_ | refine zD (.s (.v x1)) n1 sV ?_
 cbv;first | refine zC (.s (.v x3)) m2 pS ?_ | refine zD (.s (.v x3)) m2 pS ?_
 cbv;first | refine zC (.s (.v x4)) n2 sV ?_ | refine zD (.s (.v x4)) n2 sV ?_
 cbv;first | refine zC (.s (.v x6)) m3 pS ?_ | refine zD (.s (.v x6)) m3 pS ?_
 cbv;first | refine zC (.s (.v x5)) n3 sV ?_ | refine zD (.s (.v x5)) n3 sV ?_
 cbv;first | refine zC (.s (.v x7)) m4 pS ?_ | refine zD (.s (.v x7)) m4 pS ?_
 cbv;try (refine zE ?_;cbv)
 exact zR
def At.code (a:At):Int:=if a.ok=true then 0 else 2
theorem At.ok_b (a:At):a.ok=((!decide (1<a.h)&& !decide (a.h< -1))&& !decide (1/2<a.t)&& !decide (a.t< -(1/2))):=by
 unfold At.ok;rw[Bool.eq_iff_iff];simp;grind
theorem aNq {a:At}(ha:a.le (2^25)):Pure PP 89 [atV a] (.int .i64 a.code):=by
 have k0:=bC7 (aA a.h) (aA a.t) (lTr (aZ a.h) (by have:=ha.1;omega)) (lTr (aZ a.t) (by have:=ha.2;omega))
 rw[dC,dC]at k0;change Pure _ _ _ (.bool true)at k0;have k1:=aZy (x:=a.h) (lTr ha.1 zV);have k2:=aZm (x:=1/2) (y:=a.t) (lTr szh zV) (lTr ha.2 zV);have k3:=aYk (x:=1/2) (lTr szh zV);have k4:=aZm (x:=a.t) (y:=-(1/2)) (lTr ha.2 zV) (by rw[qB];exact lTr szh zV);rw[aLi]at k2 k3;have e:=At.ok_b a;unfold At.code;generalize a.ok=ok at e |-;generalize (!decide (1<a.h)&& !decide (a.h< -1))=b1 at k1 e;generalize decide (1/2<a.t)=b2 at k2 e;generalize decide (a.t< -(1/2))=b3 at k4 e;unfold atV at *;generalize aA (-(1/2))=q at k3 k4;generalize aA a.h=h,aA a.t=t at *;clear ha;cases b1
 ·have e:ok=false:=by rw[e];rfl
  subst e;refine zF [.g [.s (.v h),.s (.v t)]] Tryz.func89 λc hc hR=>?_;cbv;refine zC (.b (.l true)) k0 vU ?_;cbv;refine zD (.b (.l false)) k1 wY ?_;cbv;refine zE ?_;cbv;exact zR
 cases b2 with
 | true=>
  have e:ok=false:=by rw[e];rfl
  subst e;refine zF [.g [.s (.v h),.s (.v t)]] Tryz.func89 λc hc hR=>?_;cbv;refine zC (.b (.l true)) k0 vU ?_;cbv;refine zD (.b (.l true)) k1 wY ?_;cbv;refine zD (.b (.l true)) k2 xF ?_;cbv;refine zE ?_;cbv;exact zR
 | false=>
 cases b3 with
 | true=>
  have e:ok=false:=by rw[e];rfl
  subst e;refine zF [.g [.s (.v h),.s (.v t)]] Tryz.func89 λc hc hR=>?_;cbv;refine zC (.b (.l true)) k0 vU ?_;cbv;refine zD (.b (.l true)) k1 wY ?_;cbv;refine zD (.b (.l false)) k2 xF ?_;cbv;refine zD (.s (.v q)) k3 sV ?_;cbv;refine zD (.b (.l true)) k4 xF ?_;cbv;refine zE ?_;cbv;exact zR
 | false=>
  have e:ok=true:=by rw[e];rfl
  subst e;refine zF [.g [.s (.v h),.s (.v t)]] Tryz.func89 λc hc hR=>?_;cbv;refine zC (.b (.l true)) k0 vU ?_;cbv;refine zD (.b (.l true)) k1 wY ?_;cbv;refine zD (.b (.l false)) k2 xF ?_;cbv;refine zD (.s (.v q)) k3 sV ?_;cbv;refine zD (.b (.l false)) k4 xF ?_;cbv;refine zE ?_;cbv;exact zR
def aHn (a:At):Value:=.agg #[.string (aA a.ahead.x),.string (aA a.ahead.y),.string (aA a.ahead.z),.string ⟨#[48]⟩,.string (aA a.side.y),.string (aA a.side.z),.string (aA a.up.x),.string (aA a.up.y),.string (aA a.up.z)]
theorem tOf {a:At}(ha:a.le (2^25))(hk:a.ok=true):Pure PP 34 [atV a] (.tuple #[aHn a,.int .i64 0]):=by
 have k1:=aNq ha
 have k2:=aZl ha hk
 unfold At.code at k1;rw[if_pos hk]at k1;unfold aHn atV at *;generalize aA a.ahead.x=x0,aA a.ahead.y=x1,aA a.ahead.z=x2,aA a.side.y=x4,aA a.side.z=x5,aA a.up.x=x6,aA a.up.y=x7,aA a.up.z=x8,aA a.h=h,aA a.t=t at *;clear ha hk;refine zF [.g [.s (.v h),.s (.v t)]] Tryz.func34 λc hc hR=>?_;cbv;refine zC (.i .i64 (.l 0)) k1 sU ?_;cbv;refine zC (.g [.s (.v x0),.s (.v x1),.s (.v x2),.s (.v ⟨#[48]⟩),.s (.v x4),.s (.v x5),.s (.v x6),.s (.v x7),.s (.v x8)]) k2 aOf ?_;cbv;exact zR
def At.water (a:At)(d:Rat):Pl:=⟨a.up,d⟩
theorem bC6 {a:At}{d:Rat}(ha:a.le (2^25))(hd:sz d<=2^25):Pure PP 138 [atV a,.string (aA d)] (if a.ok=true then .tuple #[pC (a.water d),.int .i64 0]else .tuple #[.agg #[.string ⟨#[]⟩,.string ⟨#[]⟩,.string ⟨#[]⟩,.string ⟨#[]⟩],.int .i64 2]):=by
 have k0:=bC7 (aA a.h) (aA a.t) (lTr (aZ a.h) (by have:=ha.1;omega)) (lTr (aZ a.t) (by have:=ha.2;omega))
 rw[dC,dC]at k0;change Pure _ _ _ (.bool true)at k0;have kd:=fY (aA d) (lTr (aZ d) zW);rw[dC]at kd;change Pure _ _ _ (.bool true)at kd;have k1:=aNq ha;have k2:=aZl ha;unfold At.code at k1;cases hk:a.ok with
 | true=>
  rw[if_pos hk]at k1;rw[if_pos rfl];have k2:=k2 hk;unfold At.water pC;dsimp only;unfold atV at *;generalize aA a.ahead.x=x0,aA a.ahead.y=x1,aA a.ahead.z=x2,aA a.side.y=x4,aA a.side.z=x5,aA a.up.x=x6,aA a.up.y=x7,aA a.up.z=x8,aA a.h=h,aA a.t=t,aA d=sd at *;clear ha hk hd;refine zF [.g [.s (.v h),.s (.v t)],.s (.v sd)] Tryz.func138 λc hc hR=>?_;cbv;refine zC (.b (.l true)) k0 vU ?_;cbv;refine zC (.b (.l true)) kd cB ?_;cbv;refine zC (.i .i64 (.l 0)) k1 sU ?_;cbv;refine zC (.g [.s (.v x0),.s (.v x1),.s (.v x2),.s (.v ⟨#[48]⟩),.s (.v x4),.s (.v x5),.s (.v x6),.s (.v x7),.s (.v x8)]) k2 aOf ?_;cbv;exact zR
 | false=>
  rw[hk]at k1;rw[if_neg zV]at k1 |-;clear k2;unfold atV at *;generalize aA a.h=h,aA a.t=t,aA d=sd at *;clear ha hk hd;refine zF [.g [.s (.v h),.s (.v t)],.s (.v sd)] Tryz.func138 λc hc hR=>?_;cbv;refine zC (.b (.l true)) k0 vU ?_;cbv;refine zC (.b (.l true)) kd cB ?_;cbv;refine zC (.i .i64 (.l 2)) k1 sU ?_;cbv;exact zR
end Go.Ai
