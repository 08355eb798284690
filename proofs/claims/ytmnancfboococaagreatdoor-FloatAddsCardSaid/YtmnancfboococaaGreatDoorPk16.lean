/- Part 17 of the proof: garboardlaw17.FloatAdds returns true, whatever the input. -/
import Derived.Test.YtmnancfboococaaGreatDoorPk6
import Derived.Test.YtmnancfboococaaGreatDoorPk7
import Derived.Test.YtmnancfboococaaGreatDoorPk8
import Derived.Test.YtmnancfboococaaGreatDoorPk15
set_option linter.all false
namespace Go.Ai
open Go Go.Proofs Go.Num
theorem zL:aB PP 138:=zK
theorem aV4:aB PP 94:=zK
theorem bDc {u v:V3}(hu:u.le (2^26))(hv:v.le (2^26)):Pure PP 94 [fL u,fL v] (.tuple #[.string (aA (u.dot v)),.int .i64 0]):=by
 have h1:=aYk hu hv
 have k1:=dE (hu.mono (by decide))
 have k2:=dE (hv.mono (by decide))
 unfold fL kO at *;generalize aA (u.dot v)=r at h1 ⊢;generalize aA u.x=a at *;generalize aA u.y=b at *;generalize aA u.z=d at *;generalize aA v.x=a' at *;generalize aA v.y=b' at *;generalize aA v.z=d' at *;refine aH mixed tok [iF a b d,iF a' b' d'] Tryz.func94 rfl rfl (lbl rfl) rfl fun c hc hR=>?_
 refine zN hc ?_;cbv;refine cN hc Tryz.func138 rfl rfl zL rfl (fun c' tm FR hFR hc' L=>?_);refine zN hc' ?_;cbv;refine aW 3 (fun p hp=>?_);refine hp _ _ _ ?_;refine zN hc' ?_;cbv;refine zC hc' (.b (.l true)) k1 eG ?_;cbv;refine hp _ _ _ ?_;refine zN hc' ?_;cbv;refine zC hc' (.b (.l true)) k2 eG ?_;cbv;refine hp _ _ _ ?_;refine zN hc' ?_;cbv;refine cM hc' L hFR (.head _) rfl ?_;refine zN hc ?_;cbv;refine zC hc (.s (.v r)) h1 aIg ?_;cbv;exact aF hc hR rfl rfl
theorem aV3:aB PP 168:=zK
theorem bDb {u v z:V3}(hu:u.le (2^26))(hv:v.le (2^23))(hz:z.le (2^23)):Pure PP 168 [fL u,fL v,fL z] (.tuple #[.string (aA (u.dot (v.cross z))),.int .i64 0]):=by
 have h1:=aYj (hv.mono (by decide)) (hz.mono (by decide))
 have h2:=aYk hu ((V3.le_cross hv hz).mono (by decide))
 have k1:=dE (hu.mono (by decide))
 have k2:=dE (hv.mono (by decide))
 have k3:=dE (hz.mono (by decide))
 unfold fL kO at *;generalize aA (u.dot (v.cross z))=r at h2 ⊢;generalize aA (v.cross z).x=p1 at *;generalize aA (v.cross z).y=p2 at *;generalize aA (v.cross z).z=p3 at *;generalize aA u.x=a at *;generalize aA u.y=b at *;generalize aA u.z=d at *;generalize aA v.x=a' at *;generalize aA v.y=b' at *;generalize aA v.z=d' at *;generalize aA z.x=a2 at *;generalize aA z.y=b2 at *;generalize aA z.z=d2 at *;refine aH mixed tok [iF a b d,iF a' b' d',iF a2 b2 d2] Tryz.func168 rfl rfl (lbl rfl) rfl fun c hc hR=>?_
 refine zN hc ?_;cbv;refine cN hc Tryz.func138 rfl rfl zL rfl (fun c' tm FR hFR hc' L=>?_);refine zN hc' ?_;cbv;refine aW 4 (fun p hp=>?_);refine hp _ _ _ ?_;refine zN hc' ?_;cbv;refine zC hc' (.b (.l true)) k1 eG ?_;cbv;refine hp _ _ _ ?_;refine zN hc' ?_;cbv;refine zC hc' (.b (.l true)) k2 eG ?_;cbv;refine hp _ _ _ ?_;refine zN hc' ?_;cbv;refine zC hc' (.b (.l true)) k3 eG ?_;cbv;refine hp _ _ _ ?_;refine zN hc' ?_;cbv;refine cM hc' L hFR (.head _) rfl ?_;refine zN hc ?_;cbv;refine zD hc (iF p1 p2 p3) h1 aOv ?_;cbv;refine zD hc (.s (.v r)) h2 aIg ?_;cbv;refine zE hc ?_;cbv;exact aF hc hR rfl rfl
theorem aOu:aB PP 124:=zK
theorem aYi {u:V3}{q:Rat}(hu:u.le (2^29))(hq:sz q≤2^29):Pure PP 124 [fL u,.string (aA q)] (.tuple #[fL (u.scale q),.int .i64 0]):=by
 have h1:=aSa hu hq
 have k1:=dE hu
 have k2:=eS (aA q) (lTr (bN q) (by omega))
 rw[dC]at k2;change Pure _ _ _ (.bool true)at k2;unfold fL kO at *;generalize aA (u.scale q).x=r1 at *;generalize aA (u.scale q).y=r2 at *;generalize aA (u.scale q).z=r3 at *;generalize aA u.x=a at *;generalize aA u.y=b at *;generalize aA u.z=d at *;generalize aA q=t at *;refine aH mixed tok [iF a b d,.s (.v t)] Tryz.func124 rfl rfl (lbl rfl) rfl fun c hc hR=>?_
 refine zN hc ?_;cbv;refine zC hc (.b (.l true)) k1 eG ?_;cbv;refine zC hc (.b (.l true)) k2 cB ?_;cbv;refine zC hc (iF r1 r2 r3) h1 aFs ?_;cbv;exact aF hc hR rfl rfl
def V3.zero:V3:=⟨0,0,0⟩
theorem BE.and_tt {a b:BE}(h:(a.and b).den=true):a.den=true∧b.den=true:=by
 have h:(a.den&&b.den)=true:=h
 exact Bool.and_eq_true_iff.1 h
theorem is0 {q:Rat}(h:(BE.seq (.v (aA q)) (.v ⟨#[48]⟩)).den=true):q=0:=by
 rw[aRh rfl eX.symm]at h;exact of_decide_eq_true h
theorem aFr:aB PP 192:=zK
theorem aR9 {p:Pl}(h0:p.n≠V3.zero)(hn:p.n.le (2^29))(ha:sz p.a≤2^29):Pure PP 192 [mY p] (.int .i64 0):=by
 have k1:=dE hn
 have k2:=eS (aA p.a) (lTr (bN p.a) (by omega))
 rw[dC]at k2;change Pure _ _ _ (.bool true)at k2;have k3:=vof ⟨#[48]⟩ ⟨#[48]⟩ ⟨#[48]⟩
 have z0:((BE.seq (.v (aA p.n.x)) (.v ⟨#[48]⟩)).and ((BE.seq (.v (aA p.n.y)) (.v ⟨#[48]⟩)).and (BE.seq (.v (aA p.n.z)) (.v ⟨#[48]⟩)))).den=true→False:=fun h=>by
  obtain⟨e1,h⟩:=BE.and_tt h;obtain⟨e2,e3⟩:=BE.and_tt h;refine h0 ?_;obtain⟨⟨x,y,z⟩,q⟩:=p;have e1:x=0:=is0 e1
  have e2:y=0:=is0 e2
  have e3:z=0:=is0 e3
  rw[e1,e2,e3];rfl
 clear h0;unfold mY fL kO at *;generalize aA p.n.x=a at *;generalize aA p.n.y=b at *;generalize aA p.n.z=d at *;generalize aA p.a=t at *;refine aH mixed tok [.g [.s (.v a),.s (.v b),.s (.v d),.s (.v t)]] Tryz.func192 rfl rfl (lbl rfl) rfl fun c hc hR=>?_
 refine zN hc ?_;cbv;refine zD hc (.b (.l true)) k1 eG ?_;cbv;refine zD hc (.b (.l true)) k2 cB ?_;cbv;refine zD hc (iF ⟨#[48]⟩ ⟨#[48]⟩ ⟨#[48]⟩) k3 aKl ?_;cbv;refine zE hc ?_;cbv;refine aE hc rfl 100 (fun h=>(z0 h).elim) (fun h=>?_);cbv;exact aF hc hR rfl rfl
theorem lF:aB PP 180:=zK
theorem aHz {p:Pl}{v:V3}(h0:p.n≠V3.zero)(hn:p.n.le (2^26))(ha:sz p.a≤2^26)(hv:v.le (2^26)):Pure PP 180 [mY p,fL v] (.tuple #[.int .i64 (kA (p.height v) 0),.int .i64 0]):=by
 have k1:=aR9 h0 (hn.mono (by decide)) (lTr ha (by decide))
 have k2:=dE (hv.mono (by decide))
 have k3:=aE9 hn hv (lTr ha (by decide))
 have k4:=aSb (lTr (oL hn hv ha) (by decide))
 unfold mY fL kO at *;generalize kA (p.height v) 0=s at *;generalize aA (p.height v)=r at *;generalize aA p.n.x=a at *;generalize aA p.n.y=b at *;generalize aA p.n.z=d at *;generalize aA p.a=t at *;generalize aA v.x=a' at *;generalize aA v.y=b' at *;generalize aA v.z=d' at *;refine aH mixed tok [.g [.s (.v a),.s (.v b),.s (.v d),.s (.v t)],iF a' b' d'] Tryz.func180 rfl rfl (lbl rfl) rfl fun c hc hR=>?_
 refine zN hc ?_;cbv;refine zC hc (.i .i64 (.l 0)) k1 aFr ?_;cbv;refine zC hc (.b (.l true)) k2 eG ?_;cbv;refine zC hc (.s (.v r)) k3 wJ ?_;cbv;refine zC hc (.i .i64 (.v s)) k4 aD6 ?_;cbv;exact aF hc hR rfl rfl
def Pl.cut (p:Pl)(u v:V3):V3:=u.add ((v.sub u).scale (p.height u/(p.height u - p.height v)))
theorem aEr {p:Pl}{u v:V3}{k:Nat}(hn:p.n.le k)(ha:sz p.a≤k)(hu:u.le k)(hv:v.le k):(p.cut u v).le (25*k+14):=by
 have e1:=oL hn hu ha
 have e2:=oL hn hv ha
 have e3:=V3.sz_ss e1 e2
 have e4:sz (p.height u/(p.height u - p.height v))≤_:=lTr (xD _ _) (Nat.add_le_add e1 e3)
 exact(V3.le_add hu (V3.le_scale (V3.le_sub hv hu) e4)).mono (by omega)
theorem aWb {x y:Rat}(hd:(0<x∧¬0<y)∨(¬0<x∧0<y)):x - y≠0:=by
 intro e;have e:x=y:=by grind
 subst e
 rcases hd with⟨a,b⟩ | ⟨a,b⟩
 ·exact b a
 ·exact a b
theorem nY (x:Rat):decide (0<kA x 0)=decide (0<x):=by
 unfold kA;split
 ·rename_i h;rw[decide_eq_false (Rat.not_lt.2 (Rat.le_of_lt h))];rfl
 ·split
  ·rename_i h;rw[decide_eq_true h];rfl
  ·rename_i h;rw[decide_eq_false h];rfl
theorem aWc {x y:Rat}(hd:(0<x∧¬0<y)∨(¬0<x∧0<y)):decide (0<kA x 0)=decide (0<kA y 0)→False:=by
 rw[nY,nY]
 rcases hd with⟨a,b⟩ | ⟨a,b⟩<;>simp[a,b]
theorem cX:aB PP 159:=zK
theorem aDo {p:Pl}{u v:V3}(h0:p.n≠V3.zero)(hn:p.n.le (2^24))(ha:sz p.a≤2^24)(hu:u.le (2^24))(hv:v.le (2^24))(hd:(0<p.height u∧¬0<p.height v)∨(¬0<p.height u∧0<p.height v)):
  Pure PP 159 [mY p,fL u,fL v] (.tuple #[fL (p.cut u v),.int .i64 0]):=by
 have k1:=aR9 h0 (hn.mono (by decide)) (lTr ha (by decide))
 have k2:=dE (hu.mono (by decide))
 have k3:=dE (hv.mono (by decide))
 have k4:=aE9 (hn.mono (by decide)) (hu.mono (by decide)) (lTr ha (by decide))
 have k5:=aE9 (hn.mono (by decide)) (hv.mono (by decide)) (lTr ha (by decide))
 have e1:=oL hn hu ha
 have e2:=oL hn hv ha
 have e3:=V3.sz_ss e1 e2
 have k6:=aSb (lTr e1 (by decide))
 have k7:=aSb (lTr e2 (by decide))
 have k8:=aSd (u:=v) (v:=u) (hv.mono (by decide)) (hu.mono (by decide))
 have k9:=aH0 (lTr e1 (by decide)) (lTr e2 (by decide))
 have k10:=bDd (x:=p.height u) (y:=p.height u - p.height v) (aWb hd) (lTr e1 (by decide)) (lTr e3 (by decide))
 have e4:sz (p.height u/(p.height u - p.height v))≤_:=lTr (xD _ _) (Nat.add_le_add e1 e3)
 have e5:=V3.le_sub hv hu
 have k11:=aSa (s:=p.height u/(p.height u - p.height v)) (e5.mono (by decide)) (lTr e4 (by decide))
 have k12:=aSc (hu.mono (by decide)) ((V3.le_scale e5 e4).mono (by decide))
 change Pure _ _ _ (fL (p.cut u v))at k12
 have z0:=aWc hd
 clear e1 e2 e3 e4 e5 hd;generalize (v.sub u).scale (p.height u/(p.height u - p.height v))=X at *;generalize v.sub u=Y at *;unfold mY fL kO at *;generalize aA p.n.x=a at *;generalize aA p.n.y=b at *;generalize aA p.n.z=d at *;generalize aA p.a=t at *;generalize aA u.x=a' at *;generalize aA u.y=b' at *;generalize aA u.z=d' at *;generalize aA v.x=a2 at *;generalize aA v.y=b2 at *;generalize aA v.z=d2 at *;generalize kA (p.height u) 0=s1 at *;generalize kA (p.height v) 0=s2 at *;generalize aA (p.height u/(p.height u - p.height v))=f at *;generalize aA (p.height u - p.height v)=g at *;generalize aA (p.height u)=q1 at *;generalize aA (p.height v)=q2 at *;generalize aA X.x=x1 at *;generalize aA X.y=x2 at *;generalize aA X.z=x3 at *;generalize aA Y.x=w1 at *;generalize aA Y.y=w2 at *;generalize aA Y.z=w3 at *;generalize aA (p.cut u v).x=y1 at *;generalize aA (p.cut u v).y=y2 at *;generalize aA (p.cut u v).z=y3 at *;refine aH mixed tok [.g [.s (.v a),.s (.v b),.s (.v d),.s (.v t)],iF a' b' d',iF a2 b2 d2] Tryz.func159 rfl rfl (lbl rfl) rfl fun c hc hR=>?_
 refine zN hc ?_;cbv;refine zC hc (.i .i64 (.l 0)) k1 aFr ?_;cbv;refine cN hc Tryz.func138 rfl rfl zL rfl (fun c' tm FR hFR hc' L=>?_);refine zN hc' ?_;cbv;refine aW 3 (fun p hp=>?_);refine hp _ _ _ ?_;refine zN hc' ?_;cbv;refine zC hc' (.b (.l true)) k2 eG ?_;cbv;refine hp _ _ _ ?_;refine zN hc' ?_;cbv;refine zC hc' (.b (.l true)) k3 eG ?_;cbv;refine hp _ _ _ ?_;refine zN hc' ?_;cbv;refine cM hc' L hFR (.head _) rfl ?_;refine zN hc ?_;cbv;refine zD hc (.s (.v q1)) k4 wJ ?_;cbv;refine zD hc (.s (.v q2)) k5 wJ ?_;cbv;refine zE hc ?_;cbv;refine zC hc (.i .i64 (.v s1)) k6 aD6 ?_;cbv;refine zC hc (.i .i64 (.v s2)) k7 aD6 ?_;cbv;refine aE hc rfl 100 (fun h=>?_) (fun h=>?_)
 ·have h:(decide ((0:Int)<s1)==decide ((0:Int)<s2))=true:=h
  exact(z0 (eq_of_beq h)).elim
 cbv;refine zD hc (iF w1 w2 w3) k8 aD7 ?_;cbv;refine zD hc (.s (.v g)) k9 wK ?_;cbv;refine zD hc (.s (.v f)) k10 aV5 ?_;cbv;refine zD hc (iF x1 x2 x3) k11 aFs ?_;cbv;refine zD hc (iF y1 y2 y3) k12 aD7 ?_;cbv;refine zE hc ?_;cbv;exact aF hc hR rfl rfl
theorem pY:aA 1=⟨#[49]⟩:=by
 have:aA 1=aY 1:=rfl
 rw[this,show(1:Int)=((1:Nat):Int) from rfl,jS,aHx]
theorem sz1:sz 1≤2^29:=lTr (iW 1) (by rw[pY];decide)
theorem jU {off sz inner size n:Nat}{i:IE}(h:Nat.ble (aX off i.den sz inner+size) n=true):(Obl.ix off i sz inner size n).ok:=lbl h
theorem gH:aB PP 105:=zK
theorem dK:aB PP 104:=zK
theorem rB {x y:Rat}(hx:sz x≤2^29)(hy:sz y≤2^29):kP PP 105 [aA x,aA y] (.string (aA (x+y))):=by
 have t0:=aA3 (x:=0) (y:=x) sz0 hx
 rw[Rat.zero_add,eX]at t0;have t1:=aA3 hx hy
 obtain⟨a1,ha1⟩:∃s,s=aA (x+y):=⟨_,rfl⟩;rw[←ha1]at t1 ⊢;generalize aA x=s0 at t0 t1 ⊢;generalize aA y=s1 at t1 ⊢;refine kP.of_fn (fun X w v hX hv=>?_);obtain⟨R,hRR⟩:=nm (dI (.string a1));obtain⟨K,hK⟩:=nm ([KF.cst v (aHe [s0,s1])]);rw[←hRR];refine bE mixed tok [.q v] (K:=K) Tryz.func105 rfl rfl (lbl rfl) rfl hX (by rw[hK];simp;exact hv) fun c hc hR=>?_
 refine xA 0 [s0,s1] 2 rfl rfl rfl (fun X μ a w v' H hv'=>cA H (by rw[hK];exact .head _) hv') (fun f hf=>?_);have e0:f 0=s0:=hf 0 _ rfl
 have e1:f 1=s1:=hf 1 _ rfl
 clear hf;subst e0;subst e1;refine zN hc ?_;cbv;refine aW 3 (fun p hp=>?_);refine hp _ _ _ ?_;refine zN hc ?_;cbv;refine aQ hc ⟨jU rfl,trivial⟩ ?_;refine zC hc (.t [.s (.v (f 0)),.i .i64 (.l 0)]) t0 mG ?_;cbv;refine hp _ _ _ ?_;refine zN hc ?_;cbv;refine aQ hc ⟨jU rfl,trivial⟩ ?_;refine zC hc (.t [.s (.v (a1)),.i .i64 (.l 0)]) t1 mG ?_;cbv;refine hp _ _ _ ?_;refine zN hc ?_;cbv;refine aS hc hR rfl (fun X μ a w v' H hv'=>?_);rw[hRR,dN hv']
 rfl
theorem aGx {x y z:Rat}(hx:sz x≤2^29)(hy:sz y≤2^29)(hz:sz z≤2^29)(b1:sz (x+y)≤2^29):kP PP 105 [aA x,aA y,aA z] (.string (aA ((x+y)+z))):=by
 have t0:=aA3 (x:=0) (y:=x) sz0 hx
 rw[Rat.zero_add,eX]at t0;have t1:=aA3 hx hy
 have t2:=aA3 b1 hz
 obtain⟨a2,ha2⟩:∃s,s=aA ((x+y)+z):=⟨_,rfl⟩;rw[←ha2]at t2 ⊢;obtain⟨a1,ha1⟩:∃s,s=aA (x+y):=⟨_,rfl⟩;rw[←ha1]at t1 t2;generalize aA x=s0 at t0 t1 ⊢;generalize aA y=s1 at t1 ⊢;generalize aA z=s2 at t2 ⊢;refine kP.of_fn (fun X w v hX hv=>?_);obtain⟨R,hRR⟩:=nm (dI (.string a2));obtain⟨K,hK⟩:=nm ([KF.cst v (aHe [s0,s1,s2])]);rw[←hRR];refine bE mixed tok [.q v] (K:=K) Tryz.func105 rfl rfl (lbl rfl) rfl hX (by rw[hK];simp;exact hv) fun c hc hR=>?_
 refine xA 0 [s0,s1,s2] 3 rfl rfl rfl (fun X μ a w v' H hv'=>cA H (by rw[hK];exact .head _) hv') (fun f hf=>?_);have e0:f 0=s0:=hf 0 _ rfl
 have e1:f 1=s1:=hf 1 _ rfl
 have e2:f 2=s2:=hf 2 _ rfl
 clear hf;subst e0;subst e1;subst e2;refine zN hc ?_;cbv;refine aW 4 (fun p hp=>?_);refine hp _ _ _ ?_;refine zN hc ?_;cbv;refine aQ hc ⟨jU rfl,trivial⟩ ?_;refine zC hc (.t [.s (.v (f 0)),.i .i64 (.l 0)]) t0 mG ?_;cbv;refine hp _ _ _ ?_;refine zN hc ?_;cbv;refine aQ hc ⟨jU rfl,trivial⟩ ?_;refine zC hc (.t [.s (.v (a1)),.i .i64 (.l 0)]) t1 mG ?_;cbv;refine hp _ _ _ ?_;refine zN hc ?_;cbv;refine aQ hc ⟨jU rfl,trivial⟩ ?_;refine zC hc (.t [.s (.v (a2)),.i .i64 (.l 0)]) t2 mG ?_;cbv;refine hp _ _ _ ?_;refine zN hc ?_;cbv;refine aS hc hR rfl (fun X μ a w v' H hv'=>?_);rw[hRR,dN hv']
 rfl
theorem aU1 {x y z u:Rat}(hx:sz x≤2^29)(hy:sz y≤2^29)(hz:sz z≤2^29)(hu:sz u≤2^29)(b1:sz (x+y)≤2^29)(b2:sz ((x+y)+z)≤2^29):kP PP 105 [aA x,aA y,aA z,aA u] (.string (aA (((x+y)+z)+u))):=by
 have t0:=aA3 (x:=0) (y:=x) sz0 hx
 rw[Rat.zero_add,eX]at t0;have t1:=aA3 hx hy
 have t2:=aA3 b1 hz
 have t3:=aA3 b2 hu
 obtain⟨a3,ha3⟩:∃s,s=aA (((x+y)+z)+u):=⟨_,rfl⟩;rw[←ha3]at t3 ⊢;obtain⟨a2,ha2⟩:∃s,s=aA ((x+y)+z):=⟨_,rfl⟩;rw[←ha2]at t2 t3;obtain⟨a1,ha1⟩:∃s,s=aA (x+y):=⟨_,rfl⟩;rw[←ha1]at t1 t2;generalize aA x=s0 at t0 t1 ⊢;generalize aA y=s1 at t1 ⊢;generalize aA z=s2 at t2 ⊢;generalize aA u=s3 at t3 ⊢;refine kP.of_fn (fun X w v hX hv=>?_);obtain⟨R,hRR⟩:=nm (dI (.string a3));obtain⟨K,hK⟩:=nm ([KF.cst v (aHe [s0,s1,s2,s3])]);rw[←hRR];refine bE mixed tok [.q v] (K:=K) Tryz.func105 rfl rfl (lbl rfl) rfl hX (by rw[hK];simp;exact hv) fun c hc hR=>?_
 refine xA 0 [s0,s1,s2,s3] 4 rfl rfl rfl (fun X μ a w v' H hv'=>cA H (by rw[hK];exact .head _) hv') (fun f hf=>?_);have e0:f 0=s0:=hf 0 _ rfl
 have e1:f 1=s1:=hf 1 _ rfl
 have e2:f 2=s2:=hf 2 _ rfl
 have e3:f 3=s3:=hf 3 _ rfl
 clear hf;subst e0;subst e1;subst e2;subst e3;refine zN hc ?_;cbv;refine aW 5 (fun p hp=>?_);refine hp _ _ _ ?_;refine zN hc ?_;cbv;refine aQ hc ⟨jU rfl,trivial⟩ ?_;refine zC hc (.t [.s (.v (f 0)),.i .i64 (.l 0)]) t0 mG ?_;cbv;refine hp _ _ _ ?_;refine zN hc ?_;cbv;refine aQ hc ⟨jU rfl,trivial⟩ ?_;refine zC hc (.t [.s (.v (a1)),.i .i64 (.l 0)]) t1 mG ?_;cbv;refine hp _ _ _ ?_;refine zN hc ?_;cbv;refine aQ hc ⟨jU rfl,trivial⟩ ?_;refine zC hc (.t [.s (.v (a2)),.i .i64 (.l 0)]) t2 mG ?_;cbv;refine hp _ _ _ ?_;refine zN hc ?_;cbv;refine aQ hc ⟨jU rfl,trivial⟩ ?_;refine zC hc (.t [.s (.v (a3)),.i .i64 (.l 0)]) t3 mG ?_;cbv;refine hp _ _ _ ?_;refine zN hc ?_;cbv;refine aS hc hR rfl (fun X μ a w v' H hv'=>?_);rw[hRR,dN hv']
 rfl
theorem lD {x y:Rat}(hx:sz x≤2^29)(hy:sz y≤2^29):kP PP 104 [aA x,aA y] (.string (aA (x*y))):=by
 have t0:=aG6 (x:=1) (y:=x) sz1 hx
 rw[Rat.one_mul,pY]at t0;have t1:=aG6 hx hy
 obtain⟨a1,ha1⟩:∃s,s=aA (x*y):=⟨_,rfl⟩;rw[←ha1]at t1 ⊢;generalize aA x=s0 at t0 t1 ⊢;generalize aA y=s1 at t1 ⊢;refine kP.of_fn (fun X w v hX hv=>?_);obtain⟨R,hRR⟩:=nm (dI (.string a1));obtain⟨K,hK⟩:=nm ([KF.cst v (aHe [s0,s1])]);rw[←hRR];refine bE mixed tok [.q v] (K:=K) Tryz.func104 rfl rfl (lbl rfl) rfl hX (by rw[hK];simp;exact hv) fun c hc hR=>?_
 refine xA 0 [s0,s1] 2 rfl rfl rfl (fun X μ a w v' H hv'=>cA H (by rw[hK];exact .head _) hv') (fun f hf=>?_);have e0:f 0=s0:=hf 0 _ rfl
 have e1:f 1=s1:=hf 1 _ rfl
 clear hf;subst e0;subst e1;refine zN hc ?_;cbv;refine aW 3 (fun p hp=>?_);refine hp _ _ _ ?_;refine zN hc ?_;cbv;refine aQ hc ⟨jU rfl,trivial⟩ ?_;refine zC hc (.t [.s (.v (f 0)),.i .i64 (.l 0)]) t0 qJ ?_;cbv;refine hp _ _ _ ?_;refine zN hc ?_;cbv;refine aQ hc ⟨jU rfl,trivial⟩ ?_;refine zC hc (.t [.s (.v (a1)),.i .i64 (.l 0)]) t1 qJ ?_;cbv;refine hp _ _ _ ?_;refine zN hc ?_;cbv;refine aS hc hR rfl (fun X μ a w v' H hv'=>?_);rw[hRR,dN hv']
 rfl
theorem uZ {x y z:Rat}(hx:sz x≤2^29)(hy:sz y≤2^29)(hz:sz z≤2^29)(b1:sz (x*y)≤2^29):kP PP 104 [aA x,aA y,aA z] (.string (aA ((x*y)*z))):=by
 have t0:=aG6 (x:=1) (y:=x) sz1 hx
 rw[Rat.one_mul,pY]at t0;have t1:=aG6 hx hy
 have t2:=aG6 b1 hz
 obtain⟨a2,ha2⟩:∃s,s=aA ((x*y)*z):=⟨_,rfl⟩;rw[←ha2]at t2 ⊢;obtain⟨a1,ha1⟩:∃s,s=aA (x*y):=⟨_,rfl⟩;rw[←ha1]at t1 t2;generalize aA x=s0 at t0 t1 ⊢;generalize aA y=s1 at t1 ⊢;generalize aA z=s2 at t2 ⊢;refine kP.of_fn (fun X w v hX hv=>?_);obtain⟨R,hRR⟩:=nm (dI (.string a2));obtain⟨K,hK⟩:=nm ([KF.cst v (aHe [s0,s1,s2])]);rw[←hRR];refine bE mixed tok [.q v] (K:=K) Tryz.func104 rfl rfl (lbl rfl) rfl hX (by rw[hK];simp;exact hv) fun c hc hR=>?_
 refine xA 0 [s0,s1,s2] 3 rfl rfl rfl (fun X μ a w v' H hv'=>cA H (by rw[hK];exact .head _) hv') (fun f hf=>?_);have e0:f 0=s0:=hf 0 _ rfl
 have e1:f 1=s1:=hf 1 _ rfl
 have e2:f 2=s2:=hf 2 _ rfl
 clear hf;subst e0;subst e1;subst e2;refine zN hc ?_;cbv;refine aW 4 (fun p hp=>?_);refine hp _ _ _ ?_;refine zN hc ?_;cbv;refine aQ hc ⟨jU rfl,trivial⟩ ?_;refine zC hc (.t [.s (.v (f 0)),.i .i64 (.l 0)]) t0 qJ ?_;cbv;refine hp _ _ _ ?_;refine zN hc ?_;cbv;refine aQ hc ⟨jU rfl,trivial⟩ ?_;refine zC hc (.t [.s (.v (a1)),.i .i64 (.l 0)]) t1 qJ ?_;cbv;refine hp _ _ _ ?_;refine zN hc ?_;cbv;refine aQ hc ⟨jU rfl,trivial⟩ ?_;refine zC hc (.t [.s (.v (a2)),.i .i64 (.l 0)]) t2 qJ ?_;cbv;refine hp _ _ _ ?_;refine zN hc ?_;cbv;refine aS hc hR rfl (fun X μ a w v' H hv'=>?_);rw[hRR,dN hv']
 rfl
theorem aJz:aA (-1)=⟨#[45,49]⟩:=by
 have:aA (-1)=aY (-1):=rfl
 rw[this,show(-1:Int)=-((1:Nat):Int) from rfl,aHy (by decide),aHx]
 rfl
theorem bA4:sz (-1)≤2^29:=lTr (iW (-1)) (by rw[aJz];decide)
theorem aVw:aB PP 103:=zK
theorem bC4 {x y:Rat}(hx:sz x≤2^29)(hy:sz y≤2^29):Pure PP 103 [.string (aA x),.string (aA y)] (.string (aA (x - y))):=by
 have h1:=lD (x:=-1) (y:=y) bA4 hy
 rw[show -1*y=-y by grind,aJz]at h1;have h2:=rB (x:=x) (y:=-y) hx (by rw[rL];exact hy)
 rw[show x+-y=x - y from(Rat.sub_eq_add_neg x y).symm]at h2;generalize aA (x - y)=r at h2 ⊢;generalize aA (-y)=q at h1 h2;generalize aA x=sx at h2 ⊢;generalize aA y=sy at h1 ⊢;refine aH mixed tok [.s (.v sx),.s (.v sy)] Tryz.func103 rfl rfl (lbl rfl) rfl fun c hc hR=>?_
 refine zN hc ?_;cbv;refine lM hc (n:=2) (.s (.v q)) h1 dK rfl rfl rfl rfl rfl 100 ?_;cbv;refine lM hc (n:=2) (.s (.v r)) h2 gH rfl rfl rfl rfl rfl 100 ?_;cbv;exact aF hc hR rfl rfl
theorem aOj:aB PP 189:=zK
theorem nS {x y:Rat}(hx:sz x≤2^29)(hy:sz y≤2^29):Pure PP 189 [.string (aA x),.string (aA y)] (.string (aA (x+y))):=by
 have h2:=rB hx hy
 generalize aA (x+y)=r at h2 ⊢;generalize aA x=sx at h2 ⊢;generalize aA y=sy at h2 ⊢;refine aH mixed tok [.s (.v sx),.s (.v sy)] Tryz.func189 rfl rfl (lbl rfl) rfl fun c hc hR=>?_
 refine zN hc ?_;cbv;refine lM hc (n:=2) (.s (.v r)) h2 gH rfl rfl rfl rfl rfl 100 ?_;cbv;exact aF hc hR rfl rfl
structure Tri where
 a:V3
 b:V3
 c:V3
def Tri.le (t:Tri)(k:Nat):Prop:=t.a.le k∧t.b.le k∧t.c.le k
def Tri.det (t:Tri):Rat:=t.a.dot (t.b.cross t.c)
def lP (t:Tri):Value:=.agg #[.string (aA t.a.x),.string (aA t.a.y),.string (aA t.a.z),.string (aA t.b.x),.string (aA t.b.y),.string (aA t.b.z),.string (aA t.c.x),.string (aA t.c.y),.string (aA t.c.z)]
theorem aOi:aB PP 130:=zK
theorem bAk {t:Tri}(ht:t.le (2^23)):Pure PP 130 [lP t] (.string (aA t.det)):=by
 have h1:=bDb (ht.1.mono (by decide)) ht.2.1 ht.2.2
 unfold Tri.det lP fL kO at *;generalize aA (t.a.dot (t.b.cross t.c))=r at *;generalize aA t.a.x=a1 at *;generalize aA t.a.y=a2 at *;generalize aA t.a.z=a3 at *;generalize aA t.b.x=b1 at *;generalize aA t.b.y=b2 at *;generalize aA t.b.z=b3 at *;generalize aA t.c.x=c1 at *;generalize aA t.c.y=c2 at *;generalize aA t.c.z=c3 at *;refine aH mixed tok [.g [.s (.v a1),.s (.v a2),.s (.v a3),.s (.v b1),.s (.v b2),.s (.v b3),.s (.v c1),.s (.v c2),.s (.v c3)]] Tryz.func130 rfl rfl (lbl rfl) rfl fun c hc hR=>?_
 refine zN hc ?_;cbv;refine zC hc (.t [.s (.v r),.i .i64 (.l 0)]) h1 aV3 ?_;cbv;exact aF hc hR rfl rfl
theorem yE:aB PP 155:=zK
theorem aU2:Pure PP 155 [] (.agg #[.string ⟨#[48]⟩,.string ⟨#[48]⟩,.string ⟨#[48]⟩,.string ⟨#[48]⟩,.string ⟨#[48]⟩,.string ⟨#[48]⟩,.string ⟨#[48]⟩,.string ⟨#[48]⟩,.string ⟨#[48]⟩,.string ⟨#[48]⟩]):=by
 refine aH mixed tok [] Tryz.func155 rfl rfl (lbl rfl) rfl fun c hc hR=>?_
 refine zN hc ?_;cbv;exact aF hc hR rfl rfl
theorem aRy:aA (1/24)=⟨#[49,47,50,52]⟩:=(tQ (s:=⟨#[49,47,50,52]⟩) (by decide+kernel)).symm
theorem aRx:aA (1/120)=⟨#[49,47,49,50,48]⟩:=(tQ (s:=⟨#[49,47,49,50,48]⟩) (by decide+kernel)).symm
theorem aUi:aA (1/6)=⟨#[49,47,54]⟩:=(tQ (s:=⟨#[49,47,54]⟩) (by decide+kernel)).symm
theorem aRm:sz (1/24)≤4:=lTr (iW _) (by rw[aRy];decide)
theorem aVd:sz (1/120)≤5:=lTr (iW _) (by rw[aRx];decide)
theorem sz6:sz (1/6)≤3:=lTr (iW _) (by rw[aUi];decide)
theorem aOk:aB PP 190:=zK
theorem mt1 {d x y z:Rat}(hd:sz d≤2^28)(hx:sz x≤2^24)(hy:sz y≤2^24)(hz:sz z≤2^24):
  xH PP 190 [.string (aA x),.string (aA y),.string (aA z)] (aA d) (.string (aA (d*(x+y+z)*(1/24)))):=by
 have e1:=V3.sz_aa hx hy
 have e2:=V3.sz_aa e1 hz
 have h1:=aGx (lTr hx (by decide)) (lTr hy (by decide)) (lTr hz (by decide)) (lTr e1 (by decide))
 have h2:=uZ (x:=d) (y:=x+y+z) (z:=1/24) (lTr hd (by decide)) (lTr e2 (by decide)) (lTr aRm (by decide)) (lTr (V3.sz_mm hd e2) (by decide))
 rw[aRy]at h2;clear e1 e2;generalize aA (d*(x+y+z)*(1/24))=r at *;generalize aA (x+y+z)=q at *;generalize aA d=sd at *;generalize aA x=sx at *;generalize aA y=sy at *;generalize aA z=sz' at *;refine xH.of_fn (fun X w v hX hv=>?_);obtain⟨R,hRR⟩:=nm (dI (.string r));obtain⟨K,hK⟩:=nm ([KF.cst v (aTw sd)]);rw[←hRR];refine bE mixed tok [.s (.v sx),.s (.v sy),.s (.v sz'),.q v] (K:=K) Tryz.func190 rfl rfl (lbl rfl) rfl hX (by rw[hK];simp;exact hv) fun c hc hR=>?_
 refine aRa 3 sd rfl rfl (fun X μ a w v' H hv'=>cA H (by rw[hK];exact .head _) hv') (fun f hf=>?_);subst hf;refine zN hc ?_;cbv;refine aQ hc ⟨jU rfl,trivial⟩ ?_;refine bI hc (n:=3) (.s (.v q)) h1 gH rfl rfl rfl rfl rfl 100 ?_;cbv;refine bI hc (n:=3) (.s (.v r)) h2 dK rfl rfl rfl rfl rfl 100 ?_;cbv;refine zE hc ?_;cbv;refine aS hc hR rfl (fun X μ a w v' H hv'=>?_);rw[hRR,dN hv']
 rfl
theorem aCd:aB PP 191:=zK
def mS (d x y z x' y' z':Rat):Rat:=d*((x+y+z)*(x'+y'+z')+x*x'+y*y'+z*z')*(1/120)
theorem mt2 {d x y z x' y' z':Rat}(hd:sz d≤2^28)(hx:sz x≤2^24)(hy:sz y≤2^24)(hz:sz z≤2^24)(hx':sz x'≤2^24)(hy':sz y'≤2^24)(hz':sz z'≤2^24):
  xH PP 191 [.string (aA x),.string (aA y),.string (aA z),.string (aA x'),.string (aA y'),.string (aA z')] (aA d) (.string (aA (mS d x y z x' y' z'))):=by
 unfold mS;have big:2^24≤2^29:=by decide
 have e1:=V3.sz_aa hx hy
 have e2:=V3.sz_aa e1 hz
 have e3:=V3.sz_aa hx' hy'
 have e4:=V3.sz_aa e3 hz'
 have m0:=V3.sz_mm e2 e4
 have m1:=V3.sz_mm hx hx'
 have m2:=V3.sz_mm hy hy'
 have m3:=V3.sz_mm hz hz'
 have q1:=V3.sz_aa m0 m1
 have q2:=V3.sz_aa q1 m2
 have q3:=V3.sz_aa q2 m3
 have h1:=aGx (lTr hx big) (lTr hy big) (lTr hz big) (lTr e1 (by decide))
 have h2:=aGx (lTr hx' big) (lTr hy' big) (lTr hz' big) (lTr e3 (by decide))
 have h3:=lD (lTr e2 (by decide)) (lTr e4 (by decide))
 have h4:=lD (lTr hx big) (lTr hx' big)
 have h5:=lD (lTr hy big) (lTr hy' big)
 have h6:=lD (lTr hz big) (lTr hz' big)
 have h7:=aU1 (lTr m0 (by decide)) (lTr m1 (by decide)) (lTr m2 (by decide)) (lTr m3 (by decide)) (lTr q1 (by decide)) (lTr q2 (by decide))
 have h8:=uZ (x:=d) (z:=1/120) (lTr hd (by decide)) (lTr q3 (by decide)) (lTr aVd (by decide)) (lTr (V3.sz_mm hd q3) (by decide))
 rw[aRx]at h8;clear e1 e2 e3 e4 m0 m1 m2 m3 q1 q2 q3 hd hx hy hz hx' hy' hz';generalize aA (d*((x+y+z)*(x'+y'+z')+x*x'+y*y'+z*z')*(1/120))=r at *;generalize aA ((x+y+z)*(x'+y'+z')+x*x'+y*y'+z*z')=q at *;generalize aA ((x+y+z)*(x'+y'+z'))=p0 at *;generalize aA (x*x')=p1 at *;generalize aA (y*y')=p2 at *;generalize aA (z*z')=p3 at *;generalize aA (x+y+z)=u1 at *;generalize aA (x'+y'+z')=u2 at *;generalize aA d=sd at *;generalize aA x=a1 at *;generalize aA y=a2 at *;generalize aA z=a3 at *;generalize aA x'=b1 at *;generalize aA y'=b2 at *;generalize aA z'=b3 at *;refine xH.of_fn (fun X w v hX hv=>?_);obtain⟨R,hRR⟩:=nm (dI (.string r));obtain⟨K,hK⟩:=nm ([KF.cst v (aTw sd)]);rw[←hRR];refine bE mixed tok [.s (.v a1),.s (.v a2),.s (.v a3),.s (.v b1),.s (.v b2),.s (.v b3),.q v] (K:=K) Tryz.func191 rfl rfl (lbl rfl) rfl hX (by rw[hK];simp;exact hv) fun c hc hR=>?_
 refine aRa 6 sd rfl rfl (fun X μ a w v' H hv'=>cA H (by rw[hK];exact .head _) hv') (fun f hf=>?_);subst hf;refine zN hc ?_;cbv;refine aQ hc ⟨jU rfl,trivial⟩ ?_;refine bI hc (n:=3) (.s (.v u1)) h1 gH rfl rfl rfl rfl rfl 100 ?_;cbv;refine bI hc (n:=3) (.s (.v u2)) h2 gH rfl rfl rfl rfl rfl 100 ?_;cbv;refine bI hc (n:=2) (.s (.v p0)) h3 dK rfl rfl rfl rfl rfl 100 ?_;cbv;refine bI hc (n:=2) (.s (.v p1)) h4 dK rfl rfl rfl rfl rfl 100 ?_;cbv;refine bI hc (n:=2) (.s (.v p2)) h5 dK rfl rfl rfl rfl rfl 100 ?_;cbv;refine bI hc (n:=2) (.s (.v p3)) h6 dK rfl rfl rfl rfl rfl 100 ?_;cbv;refine bI hc (n:=4) (.s (.v q)) h7 gH rfl rfl rfl rfl rfl 100 ?_;cbv;refine bI hc (n:=3) (.s (.v r)) h8 dK rfl rfl rfl rfl rfl 100 ?_;cbv;refine zE hc ?_;cbv;refine aS hc hR rfl (fun X μ a w v' H hv'=>?_);rw[hRR,dN hv']
 rfl
structure Ms where
 v:Rat
 f:V3
 xx:Rat
 yy:Rat
 zz:Rat
 xy:Rat
 yz:Rat
 zx:Rat
def oF (m:Ms):Value:=.agg #[.string (aA m.v),.string (aA m.f.x),.string (aA m.f.y),.string (aA m.f.z),.string (aA m.xx),.string (aA m.yy),.string (aA m.zz),.string (aA m.xy),.string (aA m.yz),.string (aA m.zx)]
def Ms.none:Ms:=⟨0,⟨0,0,0⟩,0,0,0,0,0,0⟩
def Tri.mass (t : Tri) : Ms :=
  ⟨t.det * (1/6), ⟨t.det * (t.a.x + t.b.x + t.c.x) * (1/24), t.det * (t.a.y + t.b.y + t.c.y) * (1/24), t.det * (t.a.z + t.b.z + t.c.z) * (1/24)⟩,
   mS t.det t.a.x t.b.x t.c.x t.a.x t.b.x t.c.x, mS t.det t.a.y t.b.y t.c.y t.a.y t.b.y t.c.y, mS t.det t.a.z t.b.z t.c.z t.a.z t.b.z t.c.z, mS t.det t.a.x t.b.x t.c.x t.a.y t.b.y t.c.y, mS t.det t.a.y t.b.y t.c.y t.a.z t.b.z t.c.z, mS t.det t.a.z t.b.z t.c.z t.a.x t.b.x t.c.x⟩
theorem aE7 {t:Tri}{k:Nat}(h:t.le k):sz t.det≤15*k+5:=lTr (V3.sz_dot h.1 (V3.le_cross h.2.1 h.2.2)) (by omega)
theorem aLw {d a b:Rat}(h:d=0):aA (d*a*b)=⟨#[48]⟩:=by rw[h,Rat.zero_mul,Rat.zero_mul,eX]
theorem aYn {d a:Rat}(h:d=0):aA (d*a)=⟨#[48]⟩:=by rw[h,Rat.zero_mul,eX]
theorem aDr {d a b c a' b' c':Rat}(h:d=0):aA (mS d a b c a' b' c')=⟨#[48]⟩:=aLw h
theorem mE:aB PP 157:=zK
theorem bAl {t:Tri}(ht:t.le (2^20)):Pure PP 157 [lP t] (oF t.mass):=by
 have big:2^20≤2^24:=by decide
 have hd:sz t.det≤2^28:=lTr (aE7 ht) (by decide)
 have h0:=bAk (t:=t) ⟨ht.1.mono (by decide),ht.2.1.mono (by decide),ht.2.2.mono (by decide)⟩
 have hn:=aU2
 have g0:=lD (x:=t.det) (y:=1/6) (lTr hd (by decide)) (lTr sz6 (by decide))
 rw[aUi]at g0;have xa:=lTr ht.1.1 big
 have ya:=lTr ht.1.2.1 big
 have za:=lTr ht.1.2.2 big
 have xb:=lTr ht.2.1.1 big
 have yb:=lTr ht.2.1.2.1 big
 have zb:=lTr ht.2.1.2.2 big
 have xc:=lTr ht.2.2.1 big
 have yc:=lTr ht.2.2.2.1 big
 have zc:=lTr ht.2.2.2.2 big
 have g1:=mt1 hd xa xb xc
 have g2:=mt1 hd ya yb yc
 have g3:=mt1 hd za zb zc
 have g4:=mt2 hd xa xb xc xa xb xc
 have g5:=mt2 hd ya yb yc ya yb yc
 have g6:=mt2 hd za zb zc za zb zc
 have g7:=mt2 hd xa xb xc ya yb yc
 have g8:=mt2 hd ya yb yc za zb zc
 have g9:=mt2 hd za zb zc xa xb xc
 have z0:(BE.seq (.v (aA t.det)) (.v ⟨#[48]⟩)).den=true→aA (t.det*(1/6))=⟨#[48]⟩∧aA (t.det*(t.a.x+t.b.x+t.c.x)*(1/24))=⟨#[48]⟩∧aA (t.det*(t.a.y+t.b.y+t.c.y)*(1/24))=⟨#[48]⟩∧aA (t.det*(t.a.z+t.b.z+t.c.z)*(1/24))=⟨#[48]⟩∧aA (mS t.det t.a.x t.b.x t.c.x t.a.x t.b.x t.c.x)=⟨#[48]⟩∧aA (mS t.det t.a.y t.b.y t.c.y t.a.y t.b.y t.c.y)=⟨#[48]⟩∧aA (mS t.det t.a.z t.b.z t.c.z t.a.z t.b.z t.c.z)=⟨#[48]⟩∧aA (mS t.det t.a.x t.b.x t.c.x t.a.y t.b.y t.c.y)=⟨#[48]⟩∧aA (mS t.det t.a.y t.b.y t.c.y t.a.z t.b.z t.c.z)=⟨#[48]⟩∧aA (mS t.det t.a.z t.b.z t.c.z t.a.x t.b.x t.c.x)=⟨#[48]⟩:=fun h=>by
  have e:=is0 h
  exact⟨aYn e,aLw e,aLw e,aLw e,aDr e,aDr e,aDr e,aDr e,aDr e,aDr e⟩
 unfold oF Tri.mass
 dsimp only
 clear hd xa ya za xb yb zb xc yc zc ht;unfold lP at *;generalize aA (t.det*(1/6))=r0 at *;generalize aA (t.det*(t.a.x+t.b.x+t.c.x)*(1/24))=r1 at *;generalize aA (t.det*(t.a.y+t.b.y+t.c.y)*(1/24))=r2 at *;generalize aA (t.det*(t.a.z+t.b.z+t.c.z)*(1/24))=r3 at *;generalize aA (mS t.det t.a.x t.b.x t.c.x t.a.x t.b.x t.c.x)=r4 at *;generalize aA (mS t.det t.a.y t.b.y t.c.y t.a.y t.b.y t.c.y)=r5 at *;generalize aA (mS t.det t.a.z t.b.z t.c.z t.a.z t.b.z t.c.z)=r6 at *;generalize aA (mS t.det t.a.x t.b.x t.c.x t.a.y t.b.y t.c.y)=r7 at *;generalize aA (mS t.det t.a.y t.b.y t.c.y t.a.z t.b.z t.c.z)=r8 at *;generalize aA (mS t.det t.a.z t.b.z t.c.z t.a.x t.b.x t.c.x)=r9 at *;generalize aA t.det=d at *;generalize aA t.a.x=ax at *;generalize aA t.a.y=ay at *;generalize aA t.a.z=az at *;generalize aA t.b.x=bx at *;generalize aA t.b.y=«by» at *
 generalize aA t.b.z=bz at *;generalize aA t.c.x=cx at *;generalize aA t.c.y=cy at *;generalize aA t.c.z=cz at *;refine aH mixed tok [.g [.s (.v ax),.s (.v ay),.s (.v az),.s (.v bx),.s (.v «by»),.s (.v bz),.s (.v cx),.s (.v cy),.s (.v cz)]] Tryz.func157 rfl rfl (lbl rfl) rfl fun c hc hR=>?_
 refine zN hc ?_;cbv;refine zC hc (.s (.v d)) h0 aOi ?_;cbv;refine aE hc rfl 0 (fun h=>?_) (fun h=>?_)
 ·obtain⟨e0,e1,e2,e3,e4,e5,e6,e7,e8,e9⟩:=z0 h;subst e0;subst e1;subst e2;subst e3;subst e4;subst e5;subst e6;subst e7;subst e8;subst e9;refine zN hc ?_;cbv;refine zC hc (.g [.s (.v ⟨#[48]⟩),.s (.v ⟨#[48]⟩),.s (.v ⟨#[48]⟩),.s (.v ⟨#[48]⟩),.s (.v ⟨#[48]⟩),.s (.v ⟨#[48]⟩),.s (.v ⟨#[48]⟩),.s (.v ⟨#[48]⟩),.s (.v ⟨#[48]⟩),.s (.v ⟨#[48]⟩)]) hn yE ?_;cbv;exact aF hc hR rfl rfl
 refine aVb hc 6 100 ?_;cbv;refine hJ hc _ rfl rfl rfl rfl ?_;cbv;refine hJ hc _ rfl rfl rfl rfl ?_;cbv;refine hJ hc _ rfl rfl rfl rfl ?_;cbv;refine aE1 hc (by kernel_rfl) (by decide) rfl 100 ?_;cbv;refine bI hc (n:=2) (.s (.v r0)) g0 dK rfl rfl rfl rfl rfl 100 ?_;cbv;refine jQ hc (.s (.v r1)) (pre:=[.s (.v ax),.s (.v bx),.s (.v cx)]) g1 aOk rfl rfl rfl rfl rfl 100 ?_;cbv;refine jQ hc (.s (.v r2)) (pre:=[.s (.v ay),.s (.v «by»),.s (.v cy)]) g2 aOk rfl rfl rfl rfl rfl 100 ?_;cbv;refine jQ hc (.s (.v r3)) (pre:=[.s (.v az),.s (.v bz),.s (.v cz)]) g3 aOk rfl rfl rfl rfl rfl 100 ?_;cbv;refine jQ hc (.s (.v r4)) (pre:=[.s (.v ax),.s (.v bx),.s (.v cx),.s (.v ax),.s (.v bx),.s (.v cx)]) g4 aCd rfl rfl rfl rfl rfl 100 ?_;cbv;refine jQ hc (.s (.v r5)) (pre:=[.s (.v ay),.s (.v «by»),.s (.v cy),.s (.v ay),.s (.v «by»),.s (.v cy)]) g5 aCd rfl rfl rfl rfl rfl 100 ?_;cbv;refine jQ hc (.s (.v r6)) (pre:=[.s (.v az),.s (.v bz),.s (.v cz),.s (.v az),.s (.v bz),.s (.v cz)]) g6 aCd rfl rfl rfl rfl rfl 100 ?_;cbv;refine jQ hc (.s (.v r7)) (pre:=[.s (.v ax),.s (.v bx),.s (.v cx),.s (.v ay),.s (.v «by»),.s (.v cy)]) g7 aCd rfl rfl rfl rfl rfl 100 ?_;cbv;refine jQ hc (.s (.v r8)) (pre:=[.s (.v ay),.s (.v «by»),.s (.v cy),.s (.v az),.s (.v bz),.s (.v cz)]) g8 aCd rfl rfl rfl rfl rfl 100 ?_;cbv;refine jQ hc (.s (.v r9)) (pre:=[.s (.v az),.s (.v bz),.s (.v cz),.s (.v ax),.s (.v bx),.s (.v cx)]) g9 aCd rfl rfl rfl rfl rfl 100 ?_;cbv;refine zE hc ?_;cbv;exact aF hc hR rfl rfl
end Go.Ai
set_option maxRecDepth 10000
namespace Go.Ai
open Go Go.Proofs Go.Num V3
theorem sX:aB PP 164:=zK
theorem aVx:aB PP 188:=zK
theorem jF:aB PP 156:=zK
theorem aFn:aB PP 122:=zK
theorem bC5 {g:Nat}(cg:aB PP g){a0 a1 a2 a3 a4 a5 a6 a7 a8 a9 b0 b1 b2 b3 b4 b5 b6 b7 b8 b9 r0 r1 r2 r3 r4 r5 r6 r7 r8 r9:ByteArray}(h0:Pure PP g [.string a0,.string b0] (.string r0))(h1:Pure PP g [.string a1,.string b1] (.string r1))(h2:Pure PP g [.string a2,.string b2] (.string r2))(h3:Pure PP g [.string a3,.string b3] (.string r3))(h4:Pure PP g [.string a4,.string b4] (.string r4))(h5:Pure PP g [.string a5,.string b5] (.string r5))(h6:Pure PP g [.string a6,.string b6] (.string r6))(h7:Pure PP g [.string a7,.string b7] (.string r7))(h8:Pure PP g [.string a8,.string b8] (.string r8))(h9:Pure PP g [.string a9,.string b9] (.string r9)):
  Pure PP 188 [.agg #[.string a0,.string a1,.string a2,.string a3,.string a4,.string a5,.string a6,.string a7,.string a8,.string a9],.agg #[.string b0,.string b1,.string b2,.string b3,.string b4,.string b5,.string b6,.string b7,.string b8,.string b9],.func (.func g) #[] #[]] (.agg #[.string r0,.string r1,.string r2,.string r3,.string r4,.string r5,.string r6,.string r7,.string r8,.string r9]):=by
 refine aH mixed tok [.g [.s (.v a0),.s (.v a1),.s (.v a2),.s (.v a3),.s (.v a4),.s (.v a5),.s (.v a6),.s (.v a7),.s (.v a8),.s (.v a9)],.g [.s (.v b0),.s (.v b1),.s (.v b2),.s (.v b3),.s (.v b4),.s (.v b5),.s (.v b6),.s (.v b7),.s (.v b8),.s (.v b9)],.f (.func g) [] []] Tryz.func188 rfl rfl (lbl rfl) rfl fun c hc hR=>?_
 refine zN hc ?_;cbv;refine cN hc Tryz.func164 rfl rfl sX rfl (fun c1 tm1 FR1 fV hc1 L1=>?_);refine zN hc1 ?_;cbv;refine zE hc1 ?_;cbv;refine cM hc1 L1 fV (.head _) rfl ?_;refine zN hc ?_;cbv;refine cN hc Tryz.func164 rfl rfl sX rfl (fun c2 tm2 FR2 aAl hc2 L2=>?_);refine zN hc2 ?_;cbv;refine zE hc2 ?_;cbv;refine cM hc2 L2 aAl (.head _) rfl ?_;refine zN hc ?_;cbv;refine aW 11 (fun p hp=>?_);refine hp _ _ _ ?_;refine zN hc ?_;cbv;refine zD hc (.s (.v r0)) h0 cg ?_;cbv;refine zE hc ?_;cbv;refine hp _ _ _ ?_;refine zN hc ?_;cbv;refine zD hc (.s (.v r1)) h1 cg ?_;cbv;refine zE hc ?_;cbv;refine hp _ _ _ ?_;refine zN hc ?_;cbv;refine zD hc (.s (.v r2)) h2 cg ?_;cbv;refine zE hc ?_;cbv;refine hp _ _ _ ?_;refine zN hc ?_;cbv;refine zD hc (.s (.v r3)) h3 cg ?_;cbv;refine zE hc ?_;cbv;refine hp _ _ _ ?_;refine zN hc ?_;cbv;refine zD hc (.s (.v r4)) h4 cg ?_;cbv;refine zE hc ?_;cbv;refine hp _ _ _ ?_;refine zN hc ?_;cbv;refine zD hc (.s (.v r5)) h5 cg ?_;cbv;refine zE hc ?_;cbv;refine hp _ _ _ ?_;refine zN hc ?_;cbv;refine zD hc (.s (.v r6)) h6 cg ?_;cbv;refine zE hc ?_;cbv;refine hp _ _ _ ?_;refine zN hc ?_;cbv;refine zD hc (.s (.v r7)) h7 cg ?_;cbv;refine zE hc ?_;cbv;refine hp _ _ _ ?_;refine zN hc ?_;cbv;refine zD hc (.s (.v r8)) h8 cg ?_;cbv;refine zE hc ?_;cbv;refine hp _ _ _ ?_;refine zN hc ?_;cbv;refine zD hc (.s (.v r9)) h9 cg ?_;cbv;refine zE hc ?_;cbv;refine hp _ _ _ ?_;refine zN hc ?_;cbv;exact aF hc hR rfl rfl
def Ms.add (m n:Ms):Ms:=⟨m.v+n.v,⟨m.f.x+n.f.x,m.f.y+n.f.y,m.f.z+n.f.z⟩,m.xx+n.xx,m.yy+n.yy,m.zz+n.zz,m.xy+n.xy,m.yz+n.yz,m.zx+n.zx⟩
def Ms.le (m:Ms)(k:Nat):Prop:=sz m.v≤k∧m.f.le k∧sz m.xx≤k∧sz m.yy≤k∧sz m.zz≤k∧sz m.xy≤k∧sz m.yz≤k∧sz m.zx≤k
theorem Ms.le.mono {m:Ms}{k l:Nat}(h:m.le k)(hl:k≤l):m.le l:=by
 obtain⟨h1,h2,h3,h4,h5,h6,h7,h8⟩:=h;exact⟨lTr h1 hl,h2.mono hl,lTr h3 hl,lTr h4 hl,lTr h5 hl,lTr h6 hl,lTr h7 hl,lTr h8 hl⟩
theorem Ms.le_add {m n:Ms}{k l:Nat}(h:m.le k)(h':n.le l):(m.add n).le (k+l+1):=by
 obtain⟨h1,⟨h2,h3,h4⟩,h5,h6,h7,h8,h9,h10⟩:=h;obtain⟨g1,⟨g2,g3,g4⟩,g5,g6,g7,g8,g9,g10⟩:=h';exact⟨sz_aa h1 g1,⟨sz_aa h2 g2,sz_aa h3 g3,sz_aa h4 g4⟩,sz_aa h5 g5,sz_aa h6 g6,sz_aa h7 g7,sz_aa h8 g8,sz_aa h9 g9,sz_aa h10 g10⟩
theorem rF {m n:Ms}(hm:m.le (2^29))(hn:n.le (2^29)):Pure PP 156 [oF m,oF n] (oF (m.add n)):=by
 have k:=bC5 (g:=189) aOj (nS hm.1 hn.1) (nS hm.2.1.1 hn.2.1.1) (nS hm.2.1.2.1 hn.2.1.2.1) (nS hm.2.1.2.2 hn.2.1.2.2) (nS hm.2.2.1 hn.2.2.1) (nS hm.2.2.2.1 hn.2.2.2.1) (nS hm.2.2.2.2.1 hn.2.2.2.2.1) (nS hm.2.2.2.2.2.1 hn.2.2.2.2.2.1) (nS hm.2.2.2.2.2.2.1 hn.2.2.2.2.2.2.1) (nS hm.2.2.2.2.2.2.2 hn.2.2.2.2.2.2.2)
 clear hm hn;unfold Ms.add oF
 dsimp only
 generalize aA (m.v+n.v)=r0 at k ⊢;generalize aA (m.f.x+n.f.x)=r1 at k ⊢;generalize aA (m.f.y+n.f.y)=r2 at k ⊢;generalize aA (m.f.z+n.f.z)=r3 at k ⊢;generalize aA (m.xx+n.xx)=r4 at k ⊢;generalize aA (m.yy+n.yy)=r5 at k ⊢;generalize aA (m.zz+n.zz)=r6 at k ⊢;generalize aA (m.xy+n.xy)=r7 at k ⊢;generalize aA (m.yz+n.yz)=r8 at k ⊢;generalize aA (m.zx+n.zx)=r9 at k ⊢;generalize aA m.v=a0 at k ⊢;generalize aA m.f.x=a1 at k ⊢;generalize aA m.f.y=a2 at k ⊢;generalize aA m.f.z=a3 at k ⊢;generalize aA m.xx=a4 at k ⊢;generalize aA m.yy=a5 at k ⊢;generalize aA m.zz=a6 at k ⊢;generalize aA m.xy=a7 at k ⊢;generalize aA m.yz=a8 at k ⊢;generalize aA m.zx=a9 at k ⊢;generalize aA n.v=b0 at k ⊢;generalize aA n.f.x=b1 at k ⊢;generalize aA n.f.y=b2 at k ⊢;generalize aA n.f.z=b3 at k ⊢;generalize aA n.xx=b4 at k ⊢;generalize aA n.yy=b5 at k ⊢;generalize aA n.zz=b6 at k ⊢;generalize aA n.xy=b7 at k ⊢;generalize aA n.yz=b8 at k ⊢;generalize aA n.zx=b9 at k ⊢;refine aH mixed tok [.g [.s (.v a0),.s (.v a1),.s (.v a2),.s (.v a3),.s (.v a4),.s (.v a5),.s (.v a6),.s (.v a7),.s (.v a8),.s (.v a9)],.g [.s (.v b0),.s (.v b1),.s (.v b2),.s (.v b3),.s (.v b4),.s (.v b5),.s (.v b6),.s (.v b7),.s (.v b8),.s (.v b9)]] Tryz.func156 rfl rfl (lbl rfl) rfl fun c hc hR=>?_
 refine zN hc ?_;cbv;refine zC hc (.g [.s (.v r0),.s (.v r1),.s (.v r2),.s (.v r3),.s (.v r4),.s (.v r5),.s (.v r6),.s (.v r7),.s (.v r8),.s (.v r9)]) k aVx ?_;cbv;exact aF hc hR rfl rfl
theorem aXm {m:Ms}(hm:m.le (2^29)):Pure PP 122 [oF m] (.bool true):=by
 have k0:=eS (aA m.v) (lTr (bN m.v) (by have:=hm.1;omega))
 rw[dC]at k0;change Pure _ _ _ (.bool true)at k0;have k1:=eS (aA m.f.x) (lTr (bN m.f.x) (by have:=hm.2.1.1;omega))
 rw[dC]at k1;change Pure _ _ _ (.bool true)at k1;have k2:=eS (aA m.f.y) (lTr (bN m.f.y) (by have:=hm.2.1.2.1;omega))
 rw[dC]at k2;change Pure _ _ _ (.bool true)at k2;have k3:=eS (aA m.f.z) (lTr (bN m.f.z) (by have:=hm.2.1.2.2;omega))
 rw[dC]at k3;change Pure _ _ _ (.bool true)at k3;have k4:=eS (aA m.xx) (lTr (bN m.xx) (by have:=hm.2.2.1;omega))
 rw[dC]at k4;change Pure _ _ _ (.bool true)at k4;have k5:=eS (aA m.yy) (lTr (bN m.yy) (by have:=hm.2.2.2.1;omega))
 rw[dC]at k5;change Pure _ _ _ (.bool true)at k5;have k6:=eS (aA m.zz) (lTr (bN m.zz) (by have:=hm.2.2.2.2.1;omega))
 rw[dC]at k6;change Pure _ _ _ (.bool true)at k6;have k7:=eS (aA m.xy) (lTr (bN m.xy) (by have:=hm.2.2.2.2.2.1;omega))
 rw[dC]at k7;change Pure _ _ _ (.bool true)at k7;have k8:=eS (aA m.yz) (lTr (bN m.yz) (by have:=hm.2.2.2.2.2.2.1;omega))
 rw[dC]at k8;change Pure _ _ _ (.bool true)at k8;have k9:=eS (aA m.zx) (lTr (bN m.zx) (by have:=hm.2.2.2.2.2.2.2;omega))
 rw[dC]at k9;change Pure _ _ _ (.bool true)at k9;clear hm;unfold oF;generalize aA m.v=a0 at k0 ⊢;generalize aA m.f.x=a1 at k1 ⊢;generalize aA m.f.y=a2 at k2 ⊢;generalize aA m.f.z=a3 at k3 ⊢;generalize aA m.xx=a4 at k4 ⊢;generalize aA m.yy=a5 at k5 ⊢;generalize aA m.zz=a6 at k6 ⊢;generalize aA m.xy=a7 at k7 ⊢;generalize aA m.yz=a8 at k8 ⊢;generalize aA m.zx=a9 at k9 ⊢;refine aH mixed tok [.g [.s (.v a0),.s (.v a1),.s (.v a2),.s (.v a3),.s (.v a4),.s (.v a5),.s (.v a6),.s (.v a7),.s (.v a8),.s (.v a9)]] Tryz.func122 rfl rfl (lbl rfl) rfl fun c hc hR=>?_
 refine zN hc ?_;cbv;refine cN hc Tryz.func164 rfl rfl sX rfl (fun c1 tm1 FR1 fV hc1 L1=>?_);refine zN hc1 ?_;cbv;refine zE hc1 ?_;cbv;refine cM hc1 L1 fV (.head _) rfl ?_;refine zN hc ?_;cbv;refine aW 11 (fun p hp=>?_);refine hp _ _ _ ?_;refine zN hc ?_;cbv;refine zC hc (.b (.l true)) k0 cB ?_;cbv;refine hp _ _ _ ?_;refine zN hc ?_;cbv;refine zC hc (.b (.l true)) k1 cB ?_;cbv;refine hp _ _ _ ?_;refine zN hc ?_;cbv;refine zC hc (.b (.l true)) k2 cB ?_;cbv;refine hp _ _ _ ?_;refine zN hc ?_;cbv;refine zC hc (.b (.l true)) k3 cB ?_;cbv;refine hp _ _ _ ?_;refine zN hc ?_;cbv;refine zC hc (.b (.l true)) k4 cB ?_;cbv;refine hp _ _ _ ?_;refine zN hc ?_;cbv;refine zC hc (.b (.l true)) k5 cB ?_;cbv;refine hp _ _ _ ?_;refine zN hc ?_;cbv;refine zC hc (.b (.l true)) k6 cB ?_;cbv;refine hp _ _ _ ?_;refine zN hc ?_;cbv;refine zC hc (.b (.l true)) k7 cB ?_;cbv;refine hp _ _ _ ?_;refine zN hc ?_;cbv;refine zC hc (.b (.l true)) k8 cB ?_;cbv;refine hp _ _ _ ?_;refine zN hc ?_;cbv;refine zC hc (.b (.l true)) k9 cB ?_;cbv;refine hp _ _ _ ?_;refine zN hc ?_;cbv;exact aF hc hR rfl rfl
end Go.Ai
namespace Go.Ai
open Go Go.Num
def aRt (t:Tri):List ByteArray:=[aA t.a.x,aA t.a.y,aA t.a.z,aA t.b.x,aA t.b.y,aA t.b.z,aA t.c.x,aA t.c.y,aA t.c.z]
def gJ (l:List Tri):List ByteArray:=l.flatMap aRt
theorem vX (t:Tri):(aRt t).length=9:=rfl
theorem eQ:∀(l:List Tri),(gJ l).length=9*l.length
 | []=>rfl
 | t::l=>by
  have:=eQ l
  unfold gJ at this ⊢;rw[List.flatMap_cons,List.length_append,this,vX,List.length_cons];omega
theorem iR:∀{l:List Tri} {j i:Nat} {t:Tri},l[j]?=some t→i<9→(gJ l)[j*9+i]?=(aRt t)[i]?
 | [],j,i,t,h,_=>by simp at h
 | u::l,0,i,t,h,hi=>by
  simp at h;subst h;unfold gJ;rw[List.flatMap_cons,List.getElem?_append_left (by rw[vX];omega)];simp
 | u::l,j+1,i,t,h,hi=>by
  have:=iR (l:=l) (j:=j) (i:=i) (t:=t) (by simpa using h) hi
  unfold gJ at this ⊢;rw[List.flatMap_cons,List.getElem?_append_right (by rw[vX];omega),vX,←this]
  congr 1;omega
structure Seg where
 a:V3
 b:V3
def aYa (s:Seg):List ByteArray:=[aA s.a.x,aA s.a.y,aA s.a.z,aA s.b.x,aA s.b.y,aA s.b.z]
def iJ (l:List Seg):List ByteArray:=l.flatMap aYa
theorem vM (s:Seg):(aYa s).length=6:=rfl
theorem aBa:∀(l:List Seg),(iJ l).length=6*l.length
 | []=>rfl
 | t::l=>by
  have:=aBa l
  unfold iJ at this ⊢;rw[List.flatMap_cons,List.length_append,this,vM,List.length_cons];omega
theorem fF:∀{l:List Seg} {j i:Nat} {t:Seg},l[j]?=some t→i<6→(iJ l)[j*6+i]?=(aYa t)[i]?
 | [],j,i,t,h,_=>by simp at h
 | u::l,0,i,t,h,hi=>by
  simp at h;subst h;unfold iJ;rw[List.flatMap_cons,List.getElem?_append_left (by rw[vM];omega)];simp
 | u::l,j+1,i,t,h,hi=>by
  have:=fF (l:=l) (j:=j) (i:=i) (t:=t) (by simpa using h) hi
  unfold iJ at this ⊢;rw[List.flatMap_cons,List.getElem?_append_right (by rw[vM];omega),vM,←this]
  congr 1;omega
theorem aRe (l m:List Seg):iJ (l++m)=iJ l++iJ m:=by unfold iJ;simp
def wP (a b:V3):List ByteArray:=[aA a.x,aA a.y,aA a.z,aA b.x,aA b.y,aA b.z]
def aS1 (es:fM)(a b:V3):fM:=iG (wP b a) (-1) (iG (wP a b) 1 es)
def aV9 (es:fM)(t:Tri):fM:=aS1 (aS1 (aS1 es t.a t.b) t.b t.c) t.c t.a
def aEc (l:List Tri):fM:=l.foldl aV9 []
def aBn (x:List ByteArray × Int):Bool:=decide (x.2≠0)&&decide (x.1.take 3≠x.1.drop 3)
def nR (l:List Tri):Bool:=(aEc l).all fun x=> !aBn x
def fY (l:List Tri):Int:=if nR l=true then 0 else 17
def mZ (m:Nat)(es:fM):Prop:=iC 6 es∧∀x,x∈es→-(m:Int)≤x.2∧x.2≤m
theorem mZ.add {k:List ByteArray}{d:Int}(hk:k.length=6)(hd:-1≤d∧d≤1){m:Nat}:∀{es:fM},mZ m es→mZ (m+1) (iG k d es):=by
 intro es h;refine⟨h.1.add hk,?_⟩;have h2:=h.2
 clear h
 induction es with
 | nil=>intro x hx;simp[iG]at hx;subst hx;simp only;omega
 | cons y l ih=>
  obtain⟨q,v⟩:=y;have hq:=h2 (q,v) (by simp)
  have hl:∀x,x∈l→-(m:Int)≤x.2∧x.2≤m:=fun x hx=>h2 x (List.mem_cons_of_mem _ hx)
  simp only at hq;unfold iG;split
  ·intro x hx
   rcases List.mem_cons.1 hx with e | e
   ·subst e;simp only;omega
   ·have:=hl x e;omega
  ·intro x hx
   rcases List.mem_cons.1 hx with e | e
   ·subst e;simp only;omega
   ·exact ih hl x e
theorem mZ.get {m:Nat}{es:fM}(h:mZ m es)(k:List ByteArray):-(m:Int)≤fK es k∧fK es k≤m:=by
 unfold fK;cases hf:eU k es 0 with
 | none=>simp only;omega
 | some x=>
  obtain⟨j,v⟩:=x;have:=(nZ hf).2.2
  exact h.2 (k,v) (List.mem_of_getElem? this)
theorem mZ.e {m:Nat}{es:fM}(h:mZ m es)(a b:V3):mZ (m+2) (aS1 es a b):=(h.add rfl (by omega)).add rfl (by omega)
theorem mZ.t {m:Nat}{es:fM}(h:mZ m es)(t:Tri):mZ (m+6) (aV9 es t):=((h.e _ _).e _ _).e _ _
theorem mZ.nil:mZ 0 []:=⟨(fun x hx=>by cases hx),fun x hx=>by cases hx⟩
theorem aCm {l:List Tri}{i:Nat}{t:Tri}(h:l[i]?=some t):aEc (l.take (i+1))=aV9 (aEc (l.take i)) t:=by
 have hi:=(List.getElem?_eq_some_iff.1 h)
 obtain⟨h1,h2⟩:=hi;unfold aEc;rw[List.take_succ_eq_append_getElem h1,List.foldl_append,h2]
 rfl
theorem zT (l:List Tri):∀i,i≤l.length→mZ (6*i) (aEc (l.take i))
 | 0,_=>mZ.nil
 | i+1,h=>by
  have h1:l[i]?=some l[i]:=by simp
  rw[aCm h1];exact(zT l i (by omega)).t _
theorem re9 {f:Nat→ByteArray}{x:Nat}{a0 a1 a2 a3 a4 a5 a6 a7 a8:ByteArray}(h0:f (x*9+0)=a0)(h1:f (x*9+1)=a1)(h2:f (x*9+2)=a2)(h3:f (x*9+3)=a3)(h4:f (x*9+4)=a4)(h5:f (x*9+5)=a5)(h6:f (x*9+6)=a6)(h7:f (x*9+7)=a7)(h8:f (x*9+8)=a8):
  ∀μ,aG μ [.s (.fn f 0 (.n x) 9 0),.s (.fn f 0 (.n x) 9 1),.s (.fn f 0 (.n x) 9 2),.s (.fn f 0 (.n x) 9 3),.s (.fn f 0 (.n x) 9 4),.s (.fn f 0 (.n x) 9 5),.s (.fn f 0 (.n x) 9 6),.s (.fn f 0 (.n x) 9 7),.s (.fn f 0 (.n x) 9 8)]=aG μ [.s (.v a0),.s (.v a1),.s (.v a2),.s (.v a3),.s (.v a4),.s (.v a5),.s (.v a6),.s (.v a7),.s (.v a8)]:=by
 intro μ;simp only[aG,aD,SE.den,IE.den,aX,Int.toNat_natCast,Nat.zero_add,h0,h1,h2,h3,h4,h5,h6,h7,h8]
theorem re6 {f:Nat→ByteArray}{x:Nat}{a0 a1 a2 a3 a4 a5:ByteArray}(h0:f (x*6+0)=a0)(h1:f (x*6+1)=a1)(h2:f (x*6+2)=a2)(h3:f (x*6+3)=a3)(h4:f (x*6+4)=a4)(h5:f (x*6+5)=a5):
  ∀μ,aG μ [.s (.fn f 0 (.n x) 6 0),.s (.fn f 0 (.n x) 6 1),.s (.fn f 0 (.n x) 6 2),.s (.fn f 0 (.n x) 6 3),.s (.fn f 0 (.n x) 6 4),.s (.fn f 0 (.n x) 6 5)]=aG μ [.s (.v a0),.s (.v a1),.s (.v a2),.s (.v a3),.s (.v a4),.s (.v a5)]:=by
 intro μ;simp only[aG,aD,SE.den,IE.den,aX,Int.toNat_natCast,Nat.zero_add,h0,h1,h2,h3,h4,h5]
theorem cY {l m:List AV}(h:∀μ,aG μ l=aG μ m):∀μ,aD μ (.g l)=aD μ (.g m):=fun μ=>by simp only[aD,h μ]
theorem aRs {l:List Tri}{f:Nat→ByteArray}(hf:∀i x,(gJ l)[i]?=some x→f i=x){x:Nat}{t:Tri}(ht:l[x]?=some t):
  f (x*9+0)=aA t.a.x∧f (x*9+1)=aA t.a.y∧f (x*9+2)=aA t.a.z∧f (x*9+3)=aA t.b.x∧f (x*9+4)=aA t.b.y∧f (x*9+5)=aA t.b.z∧f (x*9+6)=aA t.c.x∧f (x*9+7)=aA t.c.y∧f (x*9+8)=aA t.c.z:=
 ⟨hf _ _ (iR ht (by omega)),hf _ _ (iR ht (by omega)),hf _ _ (iR ht (by omega)),hf _ _ (iR ht (by omega)),hf _ _ (iR ht (by omega)),hf _ _ (iR ht (by omega)),hf _ _ (iR ht (by omega)),hf _ _ (iR ht (by omega)),hf _ _ (iR ht (by omega))⟩
theorem bA0 {l:List Seg}{f:Nat→ByteArray}(hf:∀i x,(iJ l)[i]?=some x→f i=x){x:Nat}{t:Seg}(ht:l[x]?=some t):
  f (x*6+0)=aA t.a.x∧f (x*6+1)=aA t.a.y∧f (x*6+2)=aA t.a.z∧f (x*6+3)=aA t.b.x∧f (x*6+4)=aA t.b.y∧f (x*6+5)=aA t.b.z:=
 ⟨hf _ _ (fF ht (by omega)),hf _ _ (fF ht (by omega)),hf _ _ (fF ht (by omega)),hf _ _ (fF ht (by omega)),hf _ _ (fF ht (by omega)),hf _ _ (fF ht (by omega))⟩
theorem aO1 (a0 a1 a2 a3 a4 a5:ByteArray)(b:Bool)(w:World):(Instr.checkKey b 10000 201 (.agg #[.string a0,.string a1,.string a2,.string a3,.string a4,.string a5])).run PP w=.ok () w:=by kernel_rfl
theorem iT:KeyTy PP 199 201 3 6:=by
 refine⟨by kernel_rfl,by kernel_rfl,by kernel_rfl,?_,fun w=>by kernel_rfl⟩;intro a b w ha
 match a,ha with
 | [a0,a1,a2,a3,a4,a5],_=>exact aO1 a0 a1 a2 a3 a4 a5 b w
end Go.Ai
