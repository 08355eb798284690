/- Part 17 of the proof: garboardlaw17.FloatMirrors returns true, where what it reads is of bulk at most 1048576. -/
import Derived.Test.YtmnancfboococaaGreatDoorPm6
import Derived.Test.YtmnancfboococaaGreatDoorPm7
import Derived.Test.YtmnancfboococaaGreatDoorPm8
import Derived.Test.YtmnancfboococaaGreatDoorPm15
set_option linter.all false
namespace Go.Ai
open Go Go.Proofs Go.Num
theorem aAl:aB PP 138:=zK
theorem aXu:aB PP 94:=zK
theorem bFg {u v:V3}(hu:u.le (2^26))(hv:v.le (2^26)):Pure PP 94 [fS u,fS v] (.tuple #[.string (aA (u.dot v)),.int .i64 0]):=by
 have h1:=bAk hu hv
 have k1:=dE (hu.mono (by decide))
 have k2:=dE (hv.mono (by decide))
 unfold fS kR at *;generalize aA (u.dot v)=r at h1 ⊢;generalize aA u.x=a at *;generalize aA u.y=b at *;generalize aA u.z=d at *;generalize aA v.x=a' at *;generalize aA v.y=b' at *;generalize aA v.z=d' at *;refine aG mixed tok [iL a b d,iL a' b' d'] Tryz.func94 rfl rfl (lbl rfl) rfl fun c hc hR=>?_
 refine zN hc ?_;cbv;refine cJ hc Tryz.func138 rfl rfl aAl rfl (fun c' tm FR hFR hc' L=>?_);refine zN hc' ?_;cbv;refine aW 3 (fun p hp=>?_);refine hp _ _ _ ?_;refine zN hc' ?_;cbv;refine zC hc' (.b (.l true)) k1 eI ?_;cbv;refine hp _ _ _ ?_;refine zN hc' ?_;cbv;refine zC hc' (.b (.l true)) k2 eI ?_;cbv;refine hp _ _ _ ?_;refine zN hc' ?_;cbv;refine cL hc' L hFR (.head _) rfl ?_;refine zN hc ?_;cbv;refine zC hc (.s (.v r)) h1 aJg ?_;cbv;exact aD hc hR rfl rfl
theorem aXt:aB PP 168:=zK
theorem bFf {u v z:V3}(hu:u.le (2^26))(hv:v.le (2^23))(hz:z.le (2^23)):Pure PP 168 [fS u,fS v,fS z] (.tuple #[.string (aA (u.dot (v.cross z))),.int .i64 0]):=by
 have h1:=bAj (hv.mono (by decide)) (hz.mono (by decide))
 have h2:=bAk hu ((V3.le_cross hv hz).mono (by decide))
 have k1:=dE (hu.mono (by decide))
 have k2:=dE (hv.mono (by decide))
 have k3:=dE (hz.mono (by decide))
 unfold fS kR at *;generalize aA (u.dot (v.cross z))=r at h2 ⊢;generalize aA (v.cross z).x=p1 at *;generalize aA (v.cross z).y=p2 at *;generalize aA (v.cross z).z=p3 at *;generalize aA u.x=a at *;generalize aA u.y=b at *;generalize aA u.z=d at *;generalize aA v.x=a' at *;generalize aA v.y=b' at *;generalize aA v.z=d' at *;generalize aA z.x=a2 at *;generalize aA z.y=b2 at *;generalize aA z.z=d2 at *;refine aG mixed tok [iL a b d,iL a' b' d',iL a2 b2 d2] Tryz.func168 rfl rfl (lbl rfl) rfl fun c hc hR=>?_
 refine zN hc ?_;cbv;refine cJ hc Tryz.func138 rfl rfl aAl rfl (fun c' tm FR hFR hc' L=>?_);refine zN hc' ?_;cbv;refine aW 4 (fun p hp=>?_);refine hp _ _ _ ?_;refine zN hc' ?_;cbv;refine zC hc' (.b (.l true)) k1 eI ?_;cbv;refine hp _ _ _ ?_;refine zN hc' ?_;cbv;refine zC hc' (.b (.l true)) k2 eI ?_;cbv;refine hp _ _ _ ?_;refine zN hc' ?_;cbv;refine zC hc' (.b (.l true)) k3 eI ?_;cbv;refine hp _ _ _ ?_;refine zN hc' ?_;cbv;refine cL hc' L hFR (.head _) rfl ?_;refine zN hc ?_;cbv;refine zD hc (iL p1 p2 p3) h1 aP8 ?_;cbv;refine zD hc (.s (.v r)) h2 aJg ?_;cbv;refine zE hc ?_;cbv;exact aD hc hR rfl rfl
theorem aP7:aB PP 124:=zK
theorem bAi {u:V3}{q:Rat}(hu:u.le (2^29))(hq:sz q≤2^29):Pure PP 124 [fS u,.string (aA q)] (.tuple #[fS (u.scale q),.int .i64 0]):=by
 have h1:=aTt hu hq
 have k1:=dE hu
 have k2:=fC (aA q) (lTr (bH q) (by omega))
 rw[cT]at k2;change Pure _ _ _ (.bool true)at k2;unfold fS kR at *;generalize aA (u.scale q).x=r1 at *;generalize aA (u.scale q).y=r2 at *;generalize aA (u.scale q).z=r3 at *;generalize aA u.x=a at *;generalize aA u.y=b at *;generalize aA u.z=d at *;generalize aA q=t at *;refine aG mixed tok [iL a b d,.s (.v t)] Tryz.func124 rfl rfl (lbl rfl) rfl fun c hc hR=>?_
 refine zN hc ?_;cbv;refine zC hc (.b (.l true)) k1 eI ?_;cbv;refine zC hc (.b (.l true)) k2 bW ?_;cbv;refine zC hc (iL r1 r2 r3) h1 aGm ?_;cbv;exact aD hc hR rfl rfl
def V3.zero:V3:=⟨0,0,0⟩
theorem BE.and_tt {a b:BE}(h:(a.and b).den=true):a.den=true∧b.den=true:=by
 have h:(a.den&&b.den)=true:=h
 exact Bool.and_eq_true_iff.1 h
theorem is0 {q:Rat}(h:(BE.seq (.v (aA q)) (.v ⟨#[48]⟩)).den=true):q=0:=by
 rw[aS1 rfl fQ.symm]at h;exact of_decide_eq_true h
theorem aGl:aB PP 192:=zK
theorem aTs {p:Pl}(h0:p.n≠V3.zero)(hn:p.n.le (2^29))(ha:sz p.a≤2^29):Pure PP 192 [nF p] (.int .i64 0):=by
 have k1:=dE hn
 have k2:=fC (aA p.a) (lTr (bH p.a) (by omega))
 rw[cT]at k2;change Pure _ _ _ (.bool true)at k2;have k3:=vof ⟨#[48]⟩ ⟨#[48]⟩ ⟨#[48]⟩
 have z0:((BE.seq (.v (aA p.n.x)) (.v ⟨#[48]⟩)).and ((BE.seq (.v (aA p.n.y)) (.v ⟨#[48]⟩)).and (BE.seq (.v (aA p.n.z)) (.v ⟨#[48]⟩)))).den=true→False:=fun h=>by
  obtain⟨e1,h⟩:=BE.and_tt h;obtain⟨e2,e3⟩:=BE.and_tt h;refine h0 ?_;obtain⟨⟨x,y,z⟩,q⟩:=p;have e1:x=0:=is0 e1
  have e2:y=0:=is0 e2
  have e3:z=0:=is0 e3
  rw[e1,e2,e3];rfl
 clear h0;unfold nF fS kR at *;generalize aA p.n.x=a at *;generalize aA p.n.y=b at *;generalize aA p.n.z=d at *;generalize aA p.a=t at *;refine aG mixed tok [.g [.s (.v a),.s (.v b),.s (.v d),.s (.v t)]] Tryz.func192 rfl rfl (lbl rfl) rfl fun c hc hR=>?_
 refine zN hc ?_;cbv;refine zD hc (.b (.l true)) k1 eI ?_;cbv;refine zD hc (.b (.l true)) k2 bW ?_;cbv;refine zD hc (iL ⟨#[48]⟩ ⟨#[48]⟩ ⟨#[48]⟩) k3 aLu ?_;cbv;refine zE hc ?_;cbv;refine aE hc rfl 100 (fun h=>(z0 h).elim) (fun h=>?_);cbv;exact aD hc hR rfl rfl
theorem lH:aB PP 180:=zK
theorem aI0 {p:Pl}{v:V3}(h0:p.n≠V3.zero)(hn:p.n.le (2^26))(ha:sz p.a≤2^26)(hv:v.le (2^26)):Pure PP 180 [nF p,fS v] (.tuple #[.int .i64 (kE (p.height v) 0),.int .i64 0]):=by
 have k1:=aTs h0 (hn.mono (by decide)) (lTr ha (by decide))
 have k2:=dE (hv.mono (by decide))
 have k3:=aF0 hn hv (lTr ha (by decide))
 have k4:=aTu (lTr (oU hn hv ha) (by decide))
 unfold nF fS kR at *;generalize kE (p.height v) 0=s at *;generalize aA (p.height v)=r at *;generalize aA p.n.x=a at *;generalize aA p.n.y=b at *;generalize aA p.n.z=d at *;generalize aA p.a=t at *;generalize aA v.x=a' at *;generalize aA v.y=b' at *;generalize aA v.z=d' at *;refine aG mixed tok [.g [.s (.v a),.s (.v b),.s (.v d),.s (.v t)],iL a' b' d'] Tryz.func180 rfl rfl (lbl rfl) rfl fun c hc hR=>?_
 refine zN hc ?_;cbv;refine zC hc (.i .i64 (.l 0)) k1 aGl ?_;cbv;refine zC hc (.b (.l true)) k2 eI ?_;cbv;refine zC hc (.s (.v r)) k3 wZ ?_;cbv;refine zC hc (.i .i64 (.v s)) k4 aEw ?_;cbv;exact aD hc hR rfl rfl
def Pl.cut (p:Pl)(u v:V3):V3:=u.add ((v.sub u).scale (p.height u/(p.height u - p.height v)))
theorem aFf {p:Pl}{u v:V3}{k:Nat}(hn:p.n.le k)(ha:sz p.a≤k)(hu:u.le k)(hv:v.le k):(p.cut u v).le (25*k+14):=by
 have e1:=oU hn hu ha
 have e2:=oU hn hv ha
 have e3:=V3.sz_ss e1 e2
 have e4:sz (p.height u/(p.height u - p.height v))≤_:=lTr (xZ _ _) (Nat.add_le_add e1 e3)
 exact(V3.le_add hu (V3.le_scale (V3.le_sub hv hu) e4)).mono (by omega)
theorem aQo {x y:Rat}(hd:(0<x∧¬0<y)∨(¬0<x∧0<y)):x - y≠0:=by
 intro e;have e:x=y:=by grind
 subst e
 rcases hd with⟨a,b⟩ | ⟨a,b⟩
 ·exact b a
 ·exact a b
theorem oJ (x:Rat):decide (0<kE x 0)=decide (0<x):=by
 unfold kE;split
 ·rename_i h;rw[decide_eq_false (Rat.not_lt.2 (Rat.le_of_lt h))];rfl
 ·split
  ·rename_i h;rw[decide_eq_true h];rfl
  ·rename_i h;rw[decide_eq_false h];rfl
theorem aX4 {x y:Rat}(hd:(0<x∧¬0<y)∨(¬0<x∧0<y)):decide (0<kE x 0)=decide (0<kE y 0)→False:=by
 rw[oJ,oJ]
 rcases hd with⟨a,b⟩ | ⟨a,b⟩<;>simp[a,b]
theorem cV:aB PP 159:=zK
theorem aEe {p:Pl}{u v:V3}(h0:p.n≠V3.zero)(hn:p.n.le (2^24))(ha:sz p.a≤2^24)(hu:u.le (2^24))(hv:v.le (2^24))(hd:(0<p.height u∧¬0<p.height v)∨(¬0<p.height u∧0<p.height v)):
  Pure PP 159 [nF p,fS u,fS v] (.tuple #[fS (p.cut u v),.int .i64 0]):=by
 have k1:=aTs h0 (hn.mono (by decide)) (lTr ha (by decide))
 have k2:=dE (hu.mono (by decide))
 have k3:=dE (hv.mono (by decide))
 have k4:=aF0 (hn.mono (by decide)) (hu.mono (by decide)) (lTr ha (by decide))
 have k5:=aF0 (hn.mono (by decide)) (hv.mono (by decide)) (lTr ha (by decide))
 have e1:=oU hn hu ha
 have e2:=oU hn hv ha
 have e3:=V3.sz_ss e1 e2
 have k6:=aTu (lTr e1 (by decide))
 have k7:=aTu (lTr e2 (by decide))
 have k8:=aTw (u:=v) (v:=u) (hv.mono (by decide)) (hu.mono (by decide))
 have k9:=aI1 (lTr e1 (by decide)) (lTr e2 (by decide))
 have k10:=bFh (x:=p.height u) (y:=p.height u - p.height v) (aQo hd) (lTr e1 (by decide)) (lTr e3 (by decide))
 have e4:sz (p.height u/(p.height u - p.height v))≤_:=lTr (xZ _ _) (Nat.add_le_add e1 e3)
 have e5:=V3.le_sub hv hu
 have k11:=aTt (s:=p.height u/(p.height u - p.height v)) (e5.mono (by decide)) (lTr e4 (by decide))
 have k12:=aTv (hu.mono (by decide)) ((V3.le_scale e5 e4).mono (by decide))
 change Pure _ _ _ (fS (p.cut u v))at k12
 have z0:=aX4 hd
 clear e1 e2 e3 e4 e5 hd;generalize (v.sub u).scale (p.height u/(p.height u - p.height v))=X at *;generalize v.sub u=Y at *;unfold nF fS kR at *;generalize aA p.n.x=a at *;generalize aA p.n.y=b at *;generalize aA p.n.z=d at *;generalize aA p.a=t at *;generalize aA u.x=a' at *;generalize aA u.y=b' at *;generalize aA u.z=d' at *;generalize aA v.x=a2 at *;generalize aA v.y=b2 at *;generalize aA v.z=d2 at *;generalize kE (p.height u) 0=s1 at *;generalize kE (p.height v) 0=s2 at *;generalize aA (p.height u/(p.height u - p.height v))=f at *;generalize aA (p.height u - p.height v)=g at *;generalize aA (p.height u)=q1 at *;generalize aA (p.height v)=q2 at *;generalize aA X.x=x1 at *;generalize aA X.y=x2 at *;generalize aA X.z=x3 at *;generalize aA Y.x=w1 at *;generalize aA Y.y=w2 at *;generalize aA Y.z=w3 at *;generalize aA (p.cut u v).x=y1 at *;generalize aA (p.cut u v).y=y2 at *;generalize aA (p.cut u v).z=y3 at *;refine aG mixed tok [.g [.s (.v a),.s (.v b),.s (.v d),.s (.v t)],iL a' b' d',iL a2 b2 d2] Tryz.func159 rfl rfl (lbl rfl) rfl fun c hc hR=>?_
 refine zN hc ?_;cbv;refine zC hc (.i .i64 (.l 0)) k1 aGl ?_;cbv;refine cJ hc Tryz.func138 rfl rfl aAl rfl (fun c' tm FR hFR hc' L=>?_);refine zN hc' ?_;cbv;refine aW 3 (fun p hp=>?_);refine hp _ _ _ ?_;refine zN hc' ?_;cbv;refine zC hc' (.b (.l true)) k2 eI ?_;cbv;refine hp _ _ _ ?_;refine zN hc' ?_;cbv;refine zC hc' (.b (.l true)) k3 eI ?_;cbv;refine hp _ _ _ ?_;refine zN hc' ?_;cbv;refine cL hc' L hFR (.head _) rfl ?_;refine zN hc ?_;cbv;refine zD hc (.s (.v q1)) k4 wZ ?_;cbv;refine zD hc (.s (.v q2)) k5 wZ ?_;cbv;refine zE hc ?_;cbv;refine zC hc (.i .i64 (.v s1)) k6 aEw ?_;cbv;refine zC hc (.i .i64 (.v s2)) k7 aEw ?_;cbv;refine aE hc rfl 100 (fun h=>?_) (fun h=>?_)
 ·have h:(decide ((0:Int)<s1)==decide ((0:Int)<s2))=true:=h
  exact(z0 (eq_of_beq h)).elim
 cbv;refine zD hc (iL w1 w2 w3) k8 aEx ?_;cbv;refine zD hc (.s (.v g)) k9 xA ?_;cbv;refine zD hc (.s (.v f)) k10 aXv ?_;cbv;refine zD hc (iL x1 x2 x3) k11 aGm ?_;cbv;refine zD hc (iL y1 y2 y3) k12 aEx ?_;cbv;refine zE hc ?_;cbv;exact aD hc hR rfl rfl
theorem qK:aA 1=⟨#[49]⟩:=by
 have:aA 1=aU 1:=rfl
 rw[this,show(1:Int)=((1:Nat):Int) from rfl,jX,aIy]
theorem sz1:sz 1≤2^29:=lTr (fE 1) (by rw[qK];decide)
theorem jZ {off sz inner size n:Nat}{i:IE}(h:Nat.ble (aX off i.den sz inner+size) n=true):(Obl.ix off i sz inner size n).ok:=lbl h
theorem gS:aB PP 105:=zK
theorem dV:aB PP 104:=zK
theorem tF {x y:Rat}(hx:sz x≤2^29)(hy:sz y≤2^29):kY PP 105 [aA x,aA y] (.string (aA (x+y))):=by
 have t0:=aBr (x:=0) (y:=x) sz0 hx
 rw[Rat.zero_add,fQ]at t0;have t1:=aBr hx hy
 obtain⟨a1,ha1⟩:∃s,s=aA (x+y):=⟨_,rfl⟩;rw[←ha1]at t1 ⊢;generalize aA x=s0 at t0 t1 ⊢;generalize aA y=s1 at t1 ⊢;refine kY.of_fn (fun X w v hX hv=>?_);obtain⟨R,hRR⟩:=nm (dJ (.string a1));obtain⟨K,hK⟩:=nm ([KF.cst v (aIc [s0,s1])]);rw[←hRR];refine bE mixed tok [.q v] (K:=K) Tryz.func105 rfl rfl (lbl rfl) rfl hX (by rw[hK];simp;exact hv) fun c hc hR=>?_
 refine xV 0 [s0,s1] 2 rfl rfl rfl (fun X μ a w v' H hv'=>cE H (by rw[hK];exact .head _) hv') (fun f hf=>?_);have e0:f 0=s0:=hf 0 _ rfl
 have e1:f 1=s1:=hf 1 _ rfl
 clear hf;subst e0;subst e1;refine zN hc ?_;cbv;refine aW 3 (fun p hp=>?_);refine hp _ _ _ ?_;refine zN hc ?_;cbv;refine aQ hc ⟨jZ rfl,trivial⟩ ?_;refine zC hc (.t [.s (.v (f 0)),.i .i64 (.l 0)]) t0 mD ?_;cbv;refine hp _ _ _ ?_;refine zN hc ?_;cbv;refine aQ hc ⟨jZ rfl,trivial⟩ ?_;refine zC hc (.t [.s (.v (a1)),.i .i64 (.l 0)]) t1 mD ?_;cbv;refine hp _ _ _ ?_;refine zN hc ?_;cbv;refine aS hc hR rfl (fun X μ a w v' H hv'=>?_);rw[hRR,dH hv']
 rfl
theorem aHs {x y z:Rat}(hx:sz x≤2^29)(hy:sz y≤2^29)(hz:sz z≤2^29)(b1:sz (x+y)≤2^29):kY PP 105 [aA x,aA y,aA z] (.string (aA ((x+y)+z))):=by
 have t0:=aBr (x:=0) (y:=x) sz0 hx
 rw[Rat.zero_add,fQ]at t0;have t1:=aBr hx hy
 have t2:=aBr b1 hz
 obtain⟨a2,ha2⟩:∃s,s=aA ((x+y)+z):=⟨_,rfl⟩;rw[←ha2]at t2 ⊢;obtain⟨a1,ha1⟩:∃s,s=aA (x+y):=⟨_,rfl⟩;rw[←ha1]at t1 t2;generalize aA x=s0 at t0 t1 ⊢;generalize aA y=s1 at t1 ⊢;generalize aA z=s2 at t2 ⊢;refine kY.of_fn (fun X w v hX hv=>?_);obtain⟨R,hRR⟩:=nm (dJ (.string a2));obtain⟨K,hK⟩:=nm ([KF.cst v (aIc [s0,s1,s2])]);rw[←hRR];refine bE mixed tok [.q v] (K:=K) Tryz.func105 rfl rfl (lbl rfl) rfl hX (by rw[hK];simp;exact hv) fun c hc hR=>?_
 refine xV 0 [s0,s1,s2] 3 rfl rfl rfl (fun X μ a w v' H hv'=>cE H (by rw[hK];exact .head _) hv') (fun f hf=>?_);have e0:f 0=s0:=hf 0 _ rfl
 have e1:f 1=s1:=hf 1 _ rfl
 have e2:f 2=s2:=hf 2 _ rfl
 clear hf;subst e0;subst e1;subst e2;refine zN hc ?_;cbv;refine aW 4 (fun p hp=>?_);refine hp _ _ _ ?_;refine zN hc ?_;cbv;refine aQ hc ⟨jZ rfl,trivial⟩ ?_;refine zC hc (.t [.s (.v (f 0)),.i .i64 (.l 0)]) t0 mD ?_;cbv;refine hp _ _ _ ?_;refine zN hc ?_;cbv;refine aQ hc ⟨jZ rfl,trivial⟩ ?_;refine zC hc (.t [.s (.v (a1)),.i .i64 (.l 0)]) t1 mD ?_;cbv;refine hp _ _ _ ?_;refine zN hc ?_;cbv;refine aQ hc ⟨jZ rfl,trivial⟩ ?_;refine zC hc (.t [.s (.v (a2)),.i .i64 (.l 0)]) t2 mD ?_;cbv;refine hp _ _ _ ?_;refine zN hc ?_;cbv;refine aS hc hR rfl (fun X μ a w v' H hv'=>?_);rw[hRR,dH hv']
 rfl
theorem aWo {x y z u:Rat}(hx:sz x≤2^29)(hy:sz y≤2^29)(hz:sz z≤2^29)(hu:sz u≤2^29)(b1:sz (x+y)≤2^29)(b2:sz ((x+y)+z)≤2^29):kY PP 105 [aA x,aA y,aA z,aA u] (.string (aA (((x+y)+z)+u))):=by
 have t0:=aBr (x:=0) (y:=x) sz0 hx
 rw[Rat.zero_add,fQ]at t0;have t1:=aBr hx hy
 have t2:=aBr b1 hz
 have t3:=aBr b2 hu
 obtain⟨a3,ha3⟩:∃s,s=aA (((x+y)+z)+u):=⟨_,rfl⟩;rw[←ha3]at t3 ⊢;obtain⟨a2,ha2⟩:∃s,s=aA ((x+y)+z):=⟨_,rfl⟩;rw[←ha2]at t2 t3;obtain⟨a1,ha1⟩:∃s,s=aA (x+y):=⟨_,rfl⟩;rw[←ha1]at t1 t2;generalize aA x=s0 at t0 t1 ⊢;generalize aA y=s1 at t1 ⊢;generalize aA z=s2 at t2 ⊢;generalize aA u=s3 at t3 ⊢;refine kY.of_fn (fun X w v hX hv=>?_);obtain⟨R,hRR⟩:=nm (dJ (.string a3));obtain⟨K,hK⟩:=nm ([KF.cst v (aIc [s0,s1,s2,s3])]);rw[←hRR];refine bE mixed tok [.q v] (K:=K) Tryz.func105 rfl rfl (lbl rfl) rfl hX (by rw[hK];simp;exact hv) fun c hc hR=>?_
 refine xV 0 [s0,s1,s2,s3] 4 rfl rfl rfl (fun X μ a w v' H hv'=>cE H (by rw[hK];exact .head _) hv') (fun f hf=>?_);have e0:f 0=s0:=hf 0 _ rfl
 have e1:f 1=s1:=hf 1 _ rfl
 have e2:f 2=s2:=hf 2 _ rfl
 have e3:f 3=s3:=hf 3 _ rfl
 clear hf;subst e0;subst e1;subst e2;subst e3;refine zN hc ?_;cbv;refine aW 5 (fun p hp=>?_);refine hp _ _ _ ?_;refine zN hc ?_;cbv;refine aQ hc ⟨jZ rfl,trivial⟩ ?_;refine zC hc (.t [.s (.v (f 0)),.i .i64 (.l 0)]) t0 mD ?_;cbv;refine hp _ _ _ ?_;refine zN hc ?_;cbv;refine aQ hc ⟨jZ rfl,trivial⟩ ?_;refine zC hc (.t [.s (.v (a1)),.i .i64 (.l 0)]) t1 mD ?_;cbv;refine hp _ _ _ ?_;refine zN hc ?_;cbv;refine aQ hc ⟨jZ rfl,trivial⟩ ?_;refine zC hc (.t [.s (.v (a2)),.i .i64 (.l 0)]) t2 mD ?_;cbv;refine hp _ _ _ ?_;refine zN hc ?_;cbv;refine aQ hc ⟨jZ rfl,trivial⟩ ?_;refine zC hc (.t [.s (.v (a3)),.i .i64 (.l 0)]) t3 mD ?_;cbv;refine hp _ _ _ ?_;refine zN hc ?_;cbv;refine aS hc hR rfl (fun X μ a w v' H hv'=>?_);rw[hRR,dH hv']
 rfl
theorem mN {x y:Rat}(hx:sz x≤2^29)(hy:sz y≤2^29):kY PP 104 [aA x,aA y] (.string (aA (x*y))):=by
 have t0:=aH5 (x:=1) (y:=x) sz1 hx
 rw[Rat.one_mul,qK]at t0;have t1:=aH5 hx hy
 obtain⟨a1,ha1⟩:∃s,s=aA (x*y):=⟨_,rfl⟩;rw[←ha1]at t1 ⊢;generalize aA x=s0 at t0 t1 ⊢;generalize aA y=s1 at t1 ⊢;refine kY.of_fn (fun X w v hX hv=>?_);obtain⟨R,hRR⟩:=nm (dJ (.string a1));obtain⟨K,hK⟩:=nm ([KF.cst v (aIc [s0,s1])]);rw[←hRR];refine bE mixed tok [.q v] (K:=K) Tryz.func104 rfl rfl (lbl rfl) rfl hX (by rw[hK];simp;exact hv) fun c hc hR=>?_
 refine xV 0 [s0,s1] 2 rfl rfl rfl (fun X μ a w v' H hv'=>cE H (by rw[hK];exact .head _) hv') (fun f hf=>?_);have e0:f 0=s0:=hf 0 _ rfl
 have e1:f 1=s1:=hf 1 _ rfl
 clear hf;subst e0;subst e1;refine zN hc ?_;cbv;refine aW 3 (fun p hp=>?_);refine hp _ _ _ ?_;refine zN hc ?_;cbv;refine aQ hc ⟨jZ rfl,trivial⟩ ?_;refine zC hc (.t [.s (.v (f 0)),.i .i64 (.l 0)]) t0 qV ?_;cbv;refine hp _ _ _ ?_;refine zN hc ?_;cbv;refine aQ hc ⟨jZ rfl,trivial⟩ ?_;refine zC hc (.t [.s (.v (a1)),.i .i64 (.l 0)]) t1 qV ?_;cbv;refine hp _ _ _ ?_;refine zN hc ?_;cbv;refine aS hc hR rfl (fun X μ a w v' H hv'=>?_);rw[hRR,dH hv']
 rfl
theorem vR {x y z:Rat}(hx:sz x≤2^29)(hy:sz y≤2^29)(hz:sz z≤2^29)(b1:sz (x*y)≤2^29):kY PP 104 [aA x,aA y,aA z] (.string (aA ((x*y)*z))):=by
 have t0:=aH5 (x:=1) (y:=x) sz1 hx
 rw[Rat.one_mul,qK]at t0;have t1:=aH5 hx hy
 have t2:=aH5 b1 hz
 obtain⟨a2,ha2⟩:∃s,s=aA ((x*y)*z):=⟨_,rfl⟩;rw[←ha2]at t2 ⊢;obtain⟨a1,ha1⟩:∃s,s=aA (x*y):=⟨_,rfl⟩;rw[←ha1]at t1 t2;generalize aA x=s0 at t0 t1 ⊢;generalize aA y=s1 at t1 ⊢;generalize aA z=s2 at t2 ⊢;refine kY.of_fn (fun X w v hX hv=>?_);obtain⟨R,hRR⟩:=nm (dJ (.string a2));obtain⟨K,hK⟩:=nm ([KF.cst v (aIc [s0,s1,s2])]);rw[←hRR];refine bE mixed tok [.q v] (K:=K) Tryz.func104 rfl rfl (lbl rfl) rfl hX (by rw[hK];simp;exact hv) fun c hc hR=>?_
 refine xV 0 [s0,s1,s2] 3 rfl rfl rfl (fun X μ a w v' H hv'=>cE H (by rw[hK];exact .head _) hv') (fun f hf=>?_);have e0:f 0=s0:=hf 0 _ rfl
 have e1:f 1=s1:=hf 1 _ rfl
 have e2:f 2=s2:=hf 2 _ rfl
 clear hf;subst e0;subst e1;subst e2;refine zN hc ?_;cbv;refine aW 4 (fun p hp=>?_);refine hp _ _ _ ?_;refine zN hc ?_;cbv;refine aQ hc ⟨jZ rfl,trivial⟩ ?_;refine zC hc (.t [.s (.v (f 0)),.i .i64 (.l 0)]) t0 qV ?_;cbv;refine hp _ _ _ ?_;refine zN hc ?_;cbv;refine aQ hc ⟨jZ rfl,trivial⟩ ?_;refine zC hc (.t [.s (.v (a1)),.i .i64 (.l 0)]) t1 qV ?_;cbv;refine hp _ _ _ ?_;refine zN hc ?_;cbv;refine aQ hc ⟨jZ rfl,trivial⟩ ?_;refine zC hc (.t [.s (.v (a2)),.i .i64 (.l 0)]) t2 qV ?_;cbv;refine hp _ _ _ ?_;refine zN hc ?_;cbv;refine aS hc hR rfl (fun X μ a w v' H hv'=>?_);rw[hRR,dH hv']
 rfl
theorem aK7:aA (-1)=⟨#[45,49]⟩:=by
 have:aA (-1)=aU (-1):=rfl
 rw[this,show(-1:Int)=-((1:Nat):Int) from rfl,aIz (by decide),aIy]
 rfl
theorem bC7:sz (-1)≤2^29:=lTr (fE (-1)) (by rw[aK7];decide)
theorem aXn:aB PP 103:=zK
theorem bE7 {x y:Rat}(hx:sz x≤2^29)(hy:sz y≤2^29):Pure PP 103 [.string (aA x),.string (aA y)] (.string (aA (x - y))):=by
 have h1:=mN (x:=-1) (y:=y) bC7 hy
 rw[show -1*y=-y by grind,aK7]at h1;have h2:=tF (x:=x) (y:=-y) hx (by rw[fD];exact hy)
 rw[show x+-y=x - y from(Rat.sub_eq_add_neg x y).symm]at h2;generalize aA (x - y)=r at h2 ⊢;generalize aA (-y)=q at h1 h2;generalize aA x=sx at h2 ⊢;generalize aA y=sy at h1 ⊢;refine aG mixed tok [.s (.v sx),.s (.v sy)] Tryz.func103 rfl rfl (lbl rfl) rfl fun c hc hR=>?_
 refine zN hc ?_;cbv;refine pU hc (n:=2) (.s (.v q)) h1 dV rfl rfl rfl rfl rfl 100 ?_;cbv;refine pU hc (n:=2) (.s (.v r)) h2 gS rfl rfl rfl rfl rfl 100 ?_;cbv;exact aD hc hR rfl rfl
theorem aPx:aB PP 189:=zK
theorem oC {x y:Rat}(hx:sz x≤2^29)(hy:sz y≤2^29):Pure PP 189 [.string (aA x),.string (aA y)] (.string (aA (x+y))):=by
 have h2:=tF hx hy
 generalize aA (x+y)=r at h2 ⊢;generalize aA x=sx at h2 ⊢;generalize aA y=sy at h2 ⊢;refine aG mixed tok [.s (.v sx),.s (.v sy)] Tryz.func189 rfl rfl (lbl rfl) rfl fun c hc hR=>?_
 refine zN hc ?_;cbv;refine pU hc (n:=2) (.s (.v r)) h2 gS rfl rfl rfl rfl rfl 100 ?_;cbv;exact aD hc hR rfl rfl
structure Tri where
 a:V3
 b:V3
 c:V3
def Tri.le (t:Tri)(k:Nat):Prop:=t.a.le k∧t.b.le k∧t.c.le k
def Tri.det (t:Tri):Rat:=t.a.dot (t.b.cross t.c)
def nC (t:Tri):Value:=.agg #[.string (aA t.a.x),.string (aA t.a.y),.string (aA t.a.z),.string (aA t.b.x),.string (aA t.b.y),.string (aA t.b.z),.string (aA t.c.x),.string (aA t.c.y),.string (aA t.c.z)]
theorem aXm:aB PP 130:=zK
theorem bE6 {t:Tri}(ht:t.le (2^23)):Pure PP 130 [nC t] (.string (aA t.det)):=by
 have h1:=bFf (ht.1.mono (by decide)) ht.2.1 ht.2.2
 unfold Tri.det nC fS kR at *;generalize aA (t.a.dot (t.b.cross t.c))=r at *;generalize aA t.a.x=a1 at *;generalize aA t.a.y=a2 at *;generalize aA t.a.z=a3 at *;generalize aA t.b.x=b1 at *;generalize aA t.b.y=b2 at *;generalize aA t.b.z=b3 at *;generalize aA t.c.x=c1 at *;generalize aA t.c.y=c2 at *;generalize aA t.c.z=c3 at *;refine aG mixed tok [.g [.s (.v a1),.s (.v a2),.s (.v a3),.s (.v b1),.s (.v b2),.s (.v b3),.s (.v c1),.s (.v c2),.s (.v c3)]] Tryz.func130 rfl rfl (lbl rfl) rfl fun c hc hR=>?_
 refine zN hc ?_;cbv;refine zC hc (.t [.s (.v r),.i .i64 (.l 0)]) h1 aXt ?_;cbv;exact aD hc hR rfl rfl
theorem zB:aB PP 155:=zK
theorem aWp:Pure PP 155 [] (.agg #[.string ⟨#[48]⟩,.string ⟨#[48]⟩,.string ⟨#[48]⟩,.string ⟨#[48]⟩,.string ⟨#[48]⟩,.string ⟨#[48]⟩,.string ⟨#[48]⟩,.string ⟨#[48]⟩,.string ⟨#[48]⟩,.string ⟨#[48]⟩]):=by
 refine aG mixed tok [] Tryz.func155 rfl rfl (lbl rfl) rfl fun c hc hR=>?_
 refine zN hc ?_;cbv;exact aD hc hR rfl rfl
theorem aTh:aA (1/24)=⟨#[49,47,50,52]⟩:=(mT (s:=⟨#[49,47,50,52]⟩) (by decide+kernel)).symm
theorem aTg:aA (1/120)=⟨#[49,47,49,50,48]⟩:=(mT (s:=⟨#[49,47,49,50,48]⟩) (by decide+kernel)).symm
theorem bAh:aA (1/6)=⟨#[49,47,54]⟩:=(mT (s:=⟨#[49,47,54]⟩) (by decide+kernel)).symm
theorem aS6:sz (1/24)≤4:=lTr (fE _) (by rw[aTh];decide)
theorem aWz:sz (1/120)≤5:=lTr (fE _) (by rw[aTg];decide)
theorem sz6:sz (1/6)≤3:=lTr (fE _) (by rw[bAh];decide)
theorem aPy:aB PP 190:=zK
theorem mt1 {d x y z:Rat}(hd:sz d≤2^28)(hx:sz x≤2^24)(hy:sz y≤2^24)(hz:sz z≤2^24):
  yD PP 190 [.string (aA x),.string (aA y),.string (aA z)] (aA d) (.string (aA (d*(x+y+z)*(1/24)))):=by
 have e1:=V3.sz_aa hx hy
 have e2:=V3.sz_aa e1 hz
 have h1:=aHs (lTr hx (by decide)) (lTr hy (by decide)) (lTr hz (by decide)) (lTr e1 (by decide))
 have h2:=vR (x:=d) (y:=x+y+z) (z:=1/24) (lTr hd (by decide)) (lTr e2 (by decide)) (lTr aS6 (by decide)) (lTr (V3.sz_mm hd e2) (by decide))
 rw[aTh]at h2;clear e1 e2;generalize aA (d*(x+y+z)*(1/24))=r at *;generalize aA (x+y+z)=q at *;generalize aA d=sd at *;generalize aA x=sx at *;generalize aA y=sy at *;generalize aA z=sz' at *;refine yD.of_fn (fun X w v hX hv=>?_);obtain⟨R,hRR⟩:=nm (dJ (.string r));obtain⟨K,hK⟩:=nm ([KF.cst v (aVe sd)]);rw[←hRR];refine bE mixed tok [.s (.v sx),.s (.v sy),.s (.v sz'),.q v] (K:=K) Tryz.func190 rfl rfl (lbl rfl) rfl hX (by rw[hK];simp;exact hv) fun c hc hR=>?_
 refine aSs 3 sd rfl rfl (fun X μ a w v' H hv'=>cE H (by rw[hK];exact .head _) hv') (fun f hf=>?_);subst hf;refine zN hc ?_;cbv;refine aQ hc ⟨jZ rfl,trivial⟩ ?_;refine bI hc (n:=3) (.s (.v q)) h1 gS rfl rfl rfl rfl rfl 100 ?_;cbv;refine bI hc (n:=3) (.s (.v r)) h2 dV rfl rfl rfl rfl rfl 100 ?_;cbv;refine zE hc ?_;cbv;refine aS hc hR rfl (fun X μ a w v' H hv'=>?_);rw[hRR,dH hv']
 rfl
theorem aC3:aB PP 191:=zK
def nB (d x y z x' y' z':Rat):Rat:=d*((x+y+z)*(x'+y'+z')+x*x'+y*y'+z*z')*(1/120)
theorem mt2 {d x y z x' y' z':Rat}(hd:sz d≤2^28)(hx:sz x≤2^24)(hy:sz y≤2^24)(hz:sz z≤2^24)(hx':sz x'≤2^24)(hy':sz y'≤2^24)(hz':sz z'≤2^24):
  yD PP 191 [.string (aA x),.string (aA y),.string (aA z),.string (aA x'),.string (aA y'),.string (aA z')] (aA d) (.string (aA (nB d x y z x' y' z'))):=by
 unfold nB;have big:2^24≤2^29:=by decide
 have e1:=V3.sz_aa hx hy
 have e2:=V3.sz_aa e1 hz
 have e3:=V3.sz_aa hx' hy'
 have e4:=V3.sz_aa e3 hz'
 have m0:=V3.sz_mm e2 e4
 have m1:=V3.sz_mm hx hx'
 have m2:=V3.sz_mm hy hy'
 have m3:=V3.sz_mm hz hz'
 have q1:=V3.sz_aa m0 m1
 have q2:=V3.sz_aa q1 m2
 have q3:=V3.sz_aa q2 m3
 have h1:=aHs (lTr hx big) (lTr hy big) (lTr hz big) (lTr e1 (by decide))
 have h2:=aHs (lTr hx' big) (lTr hy' big) (lTr hz' big) (lTr e3 (by decide))
 have h3:=mN (lTr e2 (by decide)) (lTr e4 (by decide))
 have h4:=mN (lTr hx big) (lTr hx' big)
 have h5:=mN (lTr hy big) (lTr hy' big)
 have h6:=mN (lTr hz big) (lTr hz' big)
 have h7:=aWo (lTr m0 (by decide)) (lTr m1 (by decide)) (lTr m2 (by decide)) (lTr m3 (by decide)) (lTr q1 (by decide)) (lTr q2 (by decide))
 have h8:=vR (x:=d) (z:=1/120) (lTr hd (by decide)) (lTr q3 (by decide)) (lTr aWz (by decide)) (lTr (V3.sz_mm hd q3) (by decide))
 rw[aTg]at h8;clear e1 e2 e3 e4 m0 m1 m2 m3 q1 q2 q3 hd hx hy hz hx' hy' hz';generalize aA (d*((x+y+z)*(x'+y'+z')+x*x'+y*y'+z*z')*(1/120))=r at *;generalize aA ((x+y+z)*(x'+y'+z')+x*x'+y*y'+z*z')=q at *;generalize aA ((x+y+z)*(x'+y'+z'))=p0 at *;generalize aA (x*x')=p1 at *;generalize aA (y*y')=p2 at *;generalize aA (z*z')=p3 at *;generalize aA (x+y+z)=u1 at *;generalize aA (x'+y'+z')=u2 at *;generalize aA d=sd at *;generalize aA x=a1 at *;generalize aA y=a2 at *;generalize aA z=a3 at *;generalize aA x'=b1 at *;generalize aA y'=b2 at *;generalize aA z'=b3 at *;refine yD.of_fn (fun X w v hX hv=>?_);obtain⟨R,hRR⟩:=nm (dJ (.string r));obtain⟨K,hK⟩:=nm ([KF.cst v (aVe sd)]);rw[←hRR];refine bE mixed tok [.s (.v a1),.s (.v a2),.s (.v a3),.s (.v b1),.s (.v b2),.s (.v b3),.q v] (K:=K) Tryz.func191 rfl rfl (lbl rfl) rfl hX (by rw[hK];simp;exact hv) fun c hc hR=>?_
 refine aSs 6 sd rfl rfl (fun X μ a w v' H hv'=>cE H (by rw[hK];exact .head _) hv') (fun f hf=>?_);subst hf;refine zN hc ?_;cbv;refine aQ hc ⟨jZ rfl,trivial⟩ ?_;refine bI hc (n:=3) (.s (.v u1)) h1 gS rfl rfl rfl rfl rfl 100 ?_;cbv;refine bI hc (n:=3) (.s (.v u2)) h2 gS rfl rfl rfl rfl rfl 100 ?_;cbv;refine bI hc (n:=2) (.s (.v p0)) h3 dV rfl rfl rfl rfl rfl 100 ?_;cbv;refine bI hc (n:=2) (.s (.v p1)) h4 dV rfl rfl rfl rfl rfl 100 ?_;cbv;refine bI hc (n:=2) (.s (.v p2)) h5 dV rfl rfl rfl rfl rfl 100 ?_;cbv;refine bI hc (n:=2) (.s (.v p3)) h6 dV rfl rfl rfl rfl rfl 100 ?_;cbv;refine bI hc (n:=4) (.s (.v q)) h7 gS rfl rfl rfl rfl rfl 100 ?_;cbv;refine bI hc (n:=3) (.s (.v r)) h8 dV rfl rfl rfl rfl rfl 100 ?_;cbv;refine zE hc ?_;cbv;refine aS hc hR rfl (fun X μ a w v' H hv'=>?_);rw[hRR,dH hv']
 rfl
structure Ms where
 v:Rat
 f:V3
 xx:Rat
 yy:Rat
 zz:Rat
 xy:Rat
 yz:Rat
 zx:Rat
def oO (m:Ms):Value:=.agg #[.string (aA m.v),.string (aA m.f.x),.string (aA m.f.y),.string (aA m.f.z),.string (aA m.xx),.string (aA m.yy),.string (aA m.zz),.string (aA m.xy),.string (aA m.yz),.string (aA m.zx)]
def Ms.none:Ms:=⟨0,⟨0,0,0⟩,0,0,0,0,0,0⟩
def Tri.mass (t : Tri) : Ms :=
  ⟨t.det * (1/6), ⟨t.det * (t.a.x + t.b.x + t.c.x) * (1/24), t.det * (t.a.y + t.b.y + t.c.y) * (1/24), t.det * (t.a.z + t.b.z + t.c.z) * (1/24)⟩,
   nB t.det t.a.x t.b.x t.c.x t.a.x t.b.x t.c.x, nB t.det t.a.y t.b.y t.c.y t.a.y t.b.y t.c.y, nB t.det t.a.z t.b.z t.c.z t.a.z t.b.z t.c.z, nB t.det t.a.x t.b.x t.c.x t.a.y t.b.y t.c.y, nB t.det t.a.y t.b.y t.c.y t.a.z t.b.z t.c.z, nB t.det t.a.z t.b.z t.c.z t.a.x t.b.x t.c.x⟩
theorem aS7 {t:Tri}{k:Nat}(h:t.le k):sz t.det≤15*k+5:=lTr (V3.sz_dot h.1 (V3.le_cross h.2.1 h.2.2)) (by omega)
theorem aM7 {d a b:Rat}(h:d=0):aA (d*a*b)=⟨#[48]⟩:=by rw[h,Rat.zero_mul,Rat.zero_mul,fQ]
theorem bAn {d a:Rat}(h:d=0):aA (d*a)=⟨#[48]⟩:=by rw[h,Rat.zero_mul,fQ]
theorem aEg {d a b c a' b' c':Rat}(h:d=0):aA (nB d a b c a' b' c')=⟨#[48]⟩:=aM7 h
theorem mC:aB PP 157:=zK
theorem bCn {t:Tri}(ht:t.le (2^20)):Pure PP 157 [nC t] (oO t.mass):=by
 have big:2^20≤2^24:=by decide
 have hd:sz t.det≤2^28:=lTr (aS7 ht) (by decide)
 have h0:=bE6 (t:=t) ⟨ht.1.mono (by decide),ht.2.1.mono (by decide),ht.2.2.mono (by decide)⟩
 have hn:=aWp
 have g0:=mN (x:=t.det) (y:=1/6) (lTr hd (by decide)) (lTr sz6 (by decide))
 rw[bAh]at g0;have xa:=lTr ht.1.1 big
 have ya:=lTr ht.1.2.1 big
 have za:=lTr ht.1.2.2 big
 have xb:=lTr ht.2.1.1 big
 have yb:=lTr ht.2.1.2.1 big
 have zb:=lTr ht.2.1.2.2 big
 have xc:=lTr ht.2.2.1 big
 have yc:=lTr ht.2.2.2.1 big
 have zc:=lTr ht.2.2.2.2 big
 have g1:=mt1 hd xa xb xc
 have g2:=mt1 hd ya yb yc
 have g3:=mt1 hd za zb zc
 have g4:=mt2 hd xa xb xc xa xb xc
 have g5:=mt2 hd ya yb yc ya yb yc
 have g6:=mt2 hd za zb zc za zb zc
 have g7:=mt2 hd xa xb xc ya yb yc
 have g8:=mt2 hd ya yb yc za zb zc
 have g9:=mt2 hd za zb zc xa xb xc
 have z0:(BE.seq (.v (aA t.det)) (.v ⟨#[48]⟩)).den=true→aA (t.det*(1/6))=⟨#[48]⟩∧aA (t.det*(t.a.x+t.b.x+t.c.x)*(1/24))=⟨#[48]⟩∧aA (t.det*(t.a.y+t.b.y+t.c.y)*(1/24))=⟨#[48]⟩∧aA (t.det*(t.a.z+t.b.z+t.c.z)*(1/24))=⟨#[48]⟩∧aA (nB t.det t.a.x t.b.x t.c.x t.a.x t.b.x t.c.x)=⟨#[48]⟩∧aA (nB t.det t.a.y t.b.y t.c.y t.a.y t.b.y t.c.y)=⟨#[48]⟩∧aA (nB t.det t.a.z t.b.z t.c.z t.a.z t.b.z t.c.z)=⟨#[48]⟩∧aA (nB t.det t.a.x t.b.x t.c.x t.a.y t.b.y t.c.y)=⟨#[48]⟩∧aA (nB t.det t.a.y t.b.y t.c.y t.a.z t.b.z t.c.z)=⟨#[48]⟩∧aA (nB t.det t.a.z t.b.z t.c.z t.a.x t.b.x t.c.x)=⟨#[48]⟩:=fun h=>by
  have e:=is0 h
  exact⟨bAn e,aM7 e,aM7 e,aM7 e,aEg e,aEg e,aEg e,aEg e,aEg e,aEg e⟩
 unfold oO Tri.mass
 dsimp only
 clear hd xa ya za xb yb zb xc yc zc ht;unfold nC at *;generalize aA (t.det*(1/6))=r0 at *;generalize aA (t.det*(t.a.x+t.b.x+t.c.x)*(1/24))=r1 at *;generalize aA (t.det*(t.a.y+t.b.y+t.c.y)*(1/24))=r2 at *;generalize aA (t.det*(t.a.z+t.b.z+t.c.z)*(1/24))=r3 at *;generalize aA (nB t.det t.a.x t.b.x t.c.x t.a.x t.b.x t.c.x)=r4 at *;generalize aA (nB t.det t.a.y t.b.y t.c.y t.a.y t.b.y t.c.y)=r5 at *;generalize aA (nB t.det t.a.z t.b.z t.c.z t.a.z t.b.z t.c.z)=r6 at *;generalize aA (nB t.det t.a.x t.b.x t.c.x t.a.y t.b.y t.c.y)=r7 at *;generalize aA (nB t.det t.a.y t.b.y t.c.y t.a.z t.b.z t.c.z)=r8 at *;generalize aA (nB t.det t.a.z t.b.z t.c.z t.a.x t.b.x t.c.x)=r9 at *;generalize aA t.det=d at *;generalize aA t.a.x=ax at *;generalize aA t.a.y=ay at *;generalize aA t.a.z=az at *;generalize aA t.b.x=bx at *;generalize aA t.b.y=«by» at *
 generalize aA t.b.z=bz at *;generalize aA t.c.x=cx at *;generalize aA t.c.y=cy at *;generalize aA t.c.z=cz at *;refine aG mixed tok [.g [.s (.v ax),.s (.v ay),.s (.v az),.s (.v bx),.s (.v «by»),.s (.v bz),.s (.v cx),.s (.v cy),.s (.v cz)]] Tryz.func157 rfl rfl (lbl rfl) rfl fun c hc hR=>?_
 refine zN hc ?_;cbv;refine zC hc (.s (.v d)) h0 aXm ?_;cbv;refine aE hc rfl 0 (fun h=>?_) (fun h=>?_)
 ·obtain⟨e0,e1,e2,e3,e4,e5,e6,e7,e8,e9⟩:=z0 h;subst e0;subst e1;subst e2;subst e3;subst e4;subst e5;subst e6;subst e7;subst e8;subst e9;refine zN hc ?_;cbv;refine zC hc (.g [.s (.v ⟨#[48]⟩),.s (.v ⟨#[48]⟩),.s (.v ⟨#[48]⟩),.s (.v ⟨#[48]⟩),.s (.v ⟨#[48]⟩),.s (.v ⟨#[48]⟩),.s (.v ⟨#[48]⟩),.s (.v ⟨#[48]⟩),.s (.v ⟨#[48]⟩),.s (.v ⟨#[48]⟩)]) hn zB ?_;cbv;exact aD hc hR rfl rfl
 refine bC1 hc 6 100 ?_;cbv;refine fM hc _ rfl rfl rfl rfl ?_;cbv;refine fM hc _ rfl rfl rfl rfl ?_;cbv;refine fM hc _ rfl rfl rfl rfl ?_;cbv;refine aFs hc (by kernel_rfl) (by decide) rfl 100 ?_;cbv;refine bI hc (n:=2) (.s (.v r0)) g0 dV rfl rfl rfl rfl rfl 100 ?_;cbv;refine jW hc (.s (.v r1)) (pre:=[.s (.v ax),.s (.v bx),.s (.v cx)]) g1 aPy rfl rfl rfl rfl rfl 100 ?_;cbv;refine jW hc (.s (.v r2)) (pre:=[.s (.v ay),.s (.v «by»),.s (.v cy)]) g2 aPy rfl rfl rfl rfl rfl 100 ?_;cbv;refine jW hc (.s (.v r3)) (pre:=[.s (.v az),.s (.v bz),.s (.v cz)]) g3 aPy rfl rfl rfl rfl rfl 100 ?_;cbv;refine jW hc (.s (.v r4)) (pre:=[.s (.v ax),.s (.v bx),.s (.v cx),.s (.v ax),.s (.v bx),.s (.v cx)]) g4 aC3 rfl rfl rfl rfl rfl 100 ?_;cbv;refine jW hc (.s (.v r5)) (pre:=[.s (.v ay),.s (.v «by»),.s (.v cy),.s (.v ay),.s (.v «by»),.s (.v cy)]) g5 aC3 rfl rfl rfl rfl rfl 100 ?_;cbv;refine jW hc (.s (.v r6)) (pre:=[.s (.v az),.s (.v bz),.s (.v cz),.s (.v az),.s (.v bz),.s (.v cz)]) g6 aC3 rfl rfl rfl rfl rfl 100 ?_;cbv;refine jW hc (.s (.v r7)) (pre:=[.s (.v ax),.s (.v bx),.s (.v cx),.s (.v ay),.s (.v «by»),.s (.v cy)]) g7 aC3 rfl rfl rfl rfl rfl 100 ?_;cbv;refine jW hc (.s (.v r8)) (pre:=[.s (.v ay),.s (.v «by»),.s (.v cy),.s (.v az),.s (.v bz),.s (.v cz)]) g8 aC3 rfl rfl rfl rfl rfl 100 ?_;cbv;refine jW hc (.s (.v r9)) (pre:=[.s (.v az),.s (.v bz),.s (.v cz),.s (.v ax),.s (.v bx),.s (.v cx)]) g9 aC3 rfl rfl rfl rfl rfl 100 ?_;cbv;refine zE hc ?_;cbv;exact aD hc hR rfl rfl
end Go.Ai
set_option maxRecDepth 10000
namespace Go.Ai
open Go Go.Proofs Go.Num V3
theorem tI:aB PP 164:=zK
theorem aXo:aB PP 188:=zK
theorem jK:aB PP 156:=zK
theorem aGg:aB PP 122:=zK
theorem bE8 {g:Nat}(cg:aB PP g){a0 a1 a2 a3 a4 a5 a6 a7 a8 a9 b0 b1 b2 b3 b4 b5 b6 b7 b8 b9 r0 r1 r2 r3 r4 r5 r6 r7 r8 r9:ByteArray}(h0:Pure PP g [.string a0,.string b0] (.string r0))(h1:Pure PP g [.string a1,.string b1] (.string r1))(h2:Pure PP g [.string a2,.string b2] (.string r2))(h3:Pure PP g [.string a3,.string b3] (.string r3))(h4:Pure PP g [.string a4,.string b4] (.string r4))(h5:Pure PP g [.string a5,.string b5] (.string r5))(h6:Pure PP g [.string a6,.string b6] (.string r6))(h7:Pure PP g [.string a7,.string b7] (.string r7))(h8:Pure PP g [.string a8,.string b8] (.string r8))(h9:Pure PP g [.string a9,.string b9] (.string r9)):
  Pure PP 188 [.agg #[.string a0,.string a1,.string a2,.string a3,.string a4,.string a5,.string a6,.string a7,.string a8,.string a9],.agg #[.string b0,.string b1,.string b2,.string b3,.string b4,.string b5,.string b6,.string b7,.string b8,.string b9],.func (.func g) #[] #[]] (.agg #[.string r0,.string r1,.string r2,.string r3,.string r4,.string r5,.string r6,.string r7,.string r8,.string r9]):=by
 refine aG mixed tok [.g [.s (.v a0),.s (.v a1),.s (.v a2),.s (.v a3),.s (.v a4),.s (.v a5),.s (.v a6),.s (.v a7),.s (.v a8),.s (.v a9)],.g [.s (.v b0),.s (.v b1),.s (.v b2),.s (.v b3),.s (.v b4),.s (.v b5),.s (.v b6),.s (.v b7),.s (.v b8),.s (.v b9)],.f (.func g) [] []] Tryz.func188 rfl rfl (lbl rfl) rfl fun c hc hR=>?_
 refine zN hc ?_;cbv;refine cJ hc Tryz.func164 rfl rfl tI rfl (fun c1 tm1 FR1 gC hc1 L1=>?_);refine zN hc1 ?_;cbv;refine zE hc1 ?_;cbv;refine cL hc1 L1 gC (.head _) rfl ?_;refine zN hc ?_;cbv;refine cJ hc Tryz.func164 rfl rfl tI rfl (fun c2 tm2 FR2 aA7 hc2 L2=>?_);refine zN hc2 ?_;cbv;refine zE hc2 ?_;cbv;refine cL hc2 L2 aA7 (.head _) rfl ?_;refine zN hc ?_;cbv;refine aW 11 (fun p hp=>?_);refine hp _ _ _ ?_;refine zN hc ?_;cbv;refine zD hc (.s (.v r0)) h0 cg ?_;cbv;refine zE hc ?_;cbv;refine hp _ _ _ ?_;refine zN hc ?_;cbv;refine zD hc (.s (.v r1)) h1 cg ?_;cbv;refine zE hc ?_;cbv;refine hp _ _ _ ?_;refine zN hc ?_;cbv;refine zD hc (.s (.v r2)) h2 cg ?_;cbv;refine zE hc ?_;cbv;refine hp _ _ _ ?_;refine zN hc ?_;cbv;refine zD hc (.s (.v r3)) h3 cg ?_;cbv;refine zE hc ?_;cbv;refine hp _ _ _ ?_;refine zN hc ?_;cbv;refine zD hc (.s (.v r4)) h4 cg ?_;cbv;refine zE hc ?_;cbv;refine hp _ _ _ ?_;refine zN hc ?_;cbv;refine zD hc (.s (.v r5)) h5 cg ?_;cbv;refine zE hc ?_;cbv;refine hp _ _ _ ?_;refine zN hc ?_;cbv;refine zD hc (.s (.v r6)) h6 cg ?_;cbv;refine zE hc ?_;cbv;refine hp _ _ _ ?_;refine zN hc ?_;cbv;refine zD hc (.s (.v r7)) h7 cg ?_;cbv;refine zE hc ?_;cbv;refine hp _ _ _ ?_;refine zN hc ?_;cbv;refine zD hc (.s (.v r8)) h8 cg ?_;cbv;refine zE hc ?_;cbv;refine hp _ _ _ ?_;refine zN hc ?_;cbv;refine zD hc (.s (.v r9)) h9 cg ?_;cbv;refine zE hc ?_;cbv;refine hp _ _ _ ?_;refine zN hc ?_;cbv;exact aD hc hR rfl rfl
def Ms.add (m n:Ms):Ms:=⟨m.v+n.v,⟨m.f.x+n.f.x,m.f.y+n.f.y,m.f.z+n.f.z⟩,m.xx+n.xx,m.yy+n.yy,m.zz+n.zz,m.xy+n.xy,m.yz+n.yz,m.zx+n.zx⟩
def Ms.le (m:Ms)(k:Nat):Prop:=sz m.v≤k∧m.f.le k∧sz m.xx≤k∧sz m.yy≤k∧sz m.zz≤k∧sz m.xy≤k∧sz m.yz≤k∧sz m.zx≤k
theorem Ms.le.mono {m:Ms}{k l:Nat}(h:m.le k)(hl:k≤l):m.le l:=by
 obtain⟨h1,h2,h3,h4,h5,h6,h7,h8⟩:=h;exact⟨lTr h1 hl,h2.mono hl,lTr h3 hl,lTr h4 hl,lTr h5 hl,lTr h6 hl,lTr h7 hl,lTr h8 hl⟩
theorem Ms.le_add {m n:Ms}{k l:Nat}(h:m.le k)(h':n.le l):(m.add n).le (k+l+1):=by
 obtain⟨h1,⟨h2,h3,h4⟩,h5,h6,h7,h8,h9,h10⟩:=h;obtain⟨g1,⟨g2,g3,g4⟩,g5,g6,g7,g8,g9,g10⟩:=h';exact⟨sz_aa h1 g1,⟨sz_aa h2 g2,sz_aa h3 g3,sz_aa h4 g4⟩,sz_aa h5 g5,sz_aa h6 g6,sz_aa h7 g7,sz_aa h8 g8,sz_aa h9 g9,sz_aa h10 g10⟩
theorem rM {m n:Ms}(hm:m.le (2^29))(hn:n.le (2^29)):Pure PP 156 [oO m,oO n] (oO (m.add n)):=by
 have k:=bE8 (g:=189) aPx (oC hm.1 hn.1) (oC hm.2.1.1 hn.2.1.1) (oC hm.2.1.2.1 hn.2.1.2.1) (oC hm.2.1.2.2 hn.2.1.2.2) (oC hm.2.2.1 hn.2.2.1) (oC hm.2.2.2.1 hn.2.2.2.1) (oC hm.2.2.2.2.1 hn.2.2.2.2.1) (oC hm.2.2.2.2.2.1 hn.2.2.2.2.2.1) (oC hm.2.2.2.2.2.2.1 hn.2.2.2.2.2.2.1) (oC hm.2.2.2.2.2.2.2 hn.2.2.2.2.2.2.2)
 clear hm hn;unfold Ms.add oO
 dsimp only
 generalize aA (m.v+n.v)=r0 at k ⊢;generalize aA (m.f.x+n.f.x)=r1 at k ⊢;generalize aA (m.f.y+n.f.y)=r2 at k ⊢;generalize aA (m.f.z+n.f.z)=r3 at k ⊢;generalize aA (m.xx+n.xx)=r4 at k ⊢;generalize aA (m.yy+n.yy)=r5 at k ⊢;generalize aA (m.zz+n.zz)=r6 at k ⊢;generalize aA (m.xy+n.xy)=r7 at k ⊢;generalize aA (m.yz+n.yz)=r8 at k ⊢;generalize aA (m.zx+n.zx)=r9 at k ⊢;generalize aA m.v=a0 at k ⊢;generalize aA m.f.x=a1 at k ⊢;generalize aA m.f.y=a2 at k ⊢;generalize aA m.f.z=a3 at k ⊢;generalize aA m.xx=a4 at k ⊢;generalize aA m.yy=a5 at k ⊢;generalize aA m.zz=a6 at k ⊢;generalize aA m.xy=a7 at k ⊢;generalize aA m.yz=a8 at k ⊢;generalize aA m.zx=a9 at k ⊢;generalize aA n.v=b0 at k ⊢;generalize aA n.f.x=b1 at k ⊢;generalize aA n.f.y=b2 at k ⊢;generalize aA n.f.z=b3 at k ⊢;generalize aA n.xx=b4 at k ⊢;generalize aA n.yy=b5 at k ⊢;generalize aA n.zz=b6 at k ⊢;generalize aA n.xy=b7 at k ⊢;generalize aA n.yz=b8 at k ⊢;generalize aA n.zx=b9 at k ⊢;refine aG mixed tok [.g [.s (.v a0),.s (.v a1),.s (.v a2),.s (.v a3),.s (.v a4),.s (.v a5),.s (.v a6),.s (.v a7),.s (.v a8),.s (.v a9)],.g [.s (.v b0),.s (.v b1),.s (.v b2),.s (.v b3),.s (.v b4),.s (.v b5),.s (.v b6),.s (.v b7),.s (.v b8),.s (.v b9)]] Tryz.func156 rfl rfl (lbl rfl) rfl fun c hc hR=>?_
 refine zN hc ?_;cbv;refine zC hc (.g [.s (.v r0),.s (.v r1),.s (.v r2),.s (.v r3),.s (.v r4),.s (.v r5),.s (.v r6),.s (.v r7),.s (.v r8),.s (.v r9)]) k aXo ?_;cbv;exact aD hc hR rfl rfl
theorem aZn {m:Ms}(hm:m.le (2^29)):Pure PP 122 [oO m] (.bool true):=by
 have k0:=fC (aA m.v) (lTr (bH m.v) (by have:=hm.1;omega))
 rw[cT]at k0;change Pure _ _ _ (.bool true)at k0;have k1:=fC (aA m.f.x) (lTr (bH m.f.x) (by have:=hm.2.1.1;omega))
 rw[cT]at k1;change Pure _ _ _ (.bool true)at k1;have k2:=fC (aA m.f.y) (lTr (bH m.f.y) (by have:=hm.2.1.2.1;omega))
 rw[cT]at k2;change Pure _ _ _ (.bool true)at k2;have k3:=fC (aA m.f.z) (lTr (bH m.f.z) (by have:=hm.2.1.2.2;omega))
 rw[cT]at k3;change Pure _ _ _ (.bool true)at k3;have k4:=fC (aA m.xx) (lTr (bH m.xx) (by have:=hm.2.2.1;omega))
 rw[cT]at k4;change Pure _ _ _ (.bool true)at k4;have k5:=fC (aA m.yy) (lTr (bH m.yy) (by have:=hm.2.2.2.1;omega))
 rw[cT]at k5;change Pure _ _ _ (.bool true)at k5;have k6:=fC (aA m.zz) (lTr (bH m.zz) (by have:=hm.2.2.2.2.1;omega))
 rw[cT]at k6;change Pure _ _ _ (.bool true)at k6;have k7:=fC (aA m.xy) (lTr (bH m.xy) (by have:=hm.2.2.2.2.2.1;omega))
 rw[cT]at k7;change Pure _ _ _ (.bool true)at k7;have k8:=fC (aA m.yz) (lTr (bH m.yz) (by have:=hm.2.2.2.2.2.2.1;omega))
 rw[cT]at k8;change Pure _ _ _ (.bool true)at k8;have k9:=fC (aA m.zx) (lTr (bH m.zx) (by have:=hm.2.2.2.2.2.2.2;omega))
 rw[cT]at k9;change Pure _ _ _ (.bool true)at k9;clear hm;unfold oO;generalize aA m.v=a0 at k0 ⊢;generalize aA m.f.x=a1 at k1 ⊢;generalize aA m.f.y=a2 at k2 ⊢;generalize aA m.f.z=a3 at k3 ⊢;generalize aA m.xx=a4 at k4 ⊢;generalize aA m.yy=a5 at k5 ⊢;generalize aA m.zz=a6 at k6 ⊢;generalize aA m.xy=a7 at k7 ⊢;generalize aA m.yz=a8 at k8 ⊢;generalize aA m.zx=a9 at k9 ⊢;refine aG mixed tok [.g [.s (.v a0),.s (.v a1),.s (.v a2),.s (.v a3),.s (.v a4),.s (.v a5),.s (.v a6),.s (.v a7),.s (.v a8),.s (.v a9)]] Tryz.func122 rfl rfl (lbl rfl) rfl fun c hc hR=>?_
 refine zN hc ?_;cbv;refine cJ hc Tryz.func164 rfl rfl tI rfl (fun c1 tm1 FR1 gC hc1 L1=>?_);refine zN hc1 ?_;cbv;refine zE hc1 ?_;cbv;refine cL hc1 L1 gC (.head _) rfl ?_;refine zN hc ?_;cbv;refine aW 11 (fun p hp=>?_);refine hp _ _ _ ?_;refine zN hc ?_;cbv;refine zC hc (.b (.l true)) k0 bW ?_;cbv;refine hp _ _ _ ?_;refine zN hc ?_;cbv;refine zC hc (.b (.l true)) k1 bW ?_;cbv;refine hp _ _ _ ?_;refine zN hc ?_;cbv;refine zC hc (.b (.l true)) k2 bW ?_;cbv;refine hp _ _ _ ?_;refine zN hc ?_;cbv;refine zC hc (.b (.l true)) k3 bW ?_;cbv;refine hp _ _ _ ?_;refine zN hc ?_;cbv;refine zC hc (.b (.l true)) k4 bW ?_;cbv;refine hp _ _ _ ?_;refine zN hc ?_;cbv;refine zC hc (.b (.l true)) k5 bW ?_;cbv;refine hp _ _ _ ?_;refine zN hc ?_;cbv;refine zC hc (.b (.l true)) k6 bW ?_;cbv;refine hp _ _ _ ?_;refine zN hc ?_;cbv;refine zC hc (.b (.l true)) k7 bW ?_;cbv;refine hp _ _ _ ?_;refine zN hc ?_;cbv;refine zC hc (.b (.l true)) k8 bW ?_;cbv;refine hp _ _ _ ?_;refine zN hc ?_;cbv;refine zC hc (.b (.l true)) k9 bW ?_;cbv;refine hp _ _ _ ?_;refine zN hc ?_;cbv;exact aD hc hR rfl rfl
end Go.Ai
namespace Go.Ai
open Go Go.Num
def aO6 (t:Tri):List ByteArray:=[aA t.a.x,aA t.a.y,aA t.a.z,aA t.b.x,aA t.b.y,aA t.b.z,aA t.c.x,aA t.c.y,aA t.c.z]
def gQ (l:List Tri):List ByteArray:=l.flatMap aO6
theorem wN (t:Tri):(aO6 t).length=9:=rfl
theorem fP:∀(l:List Tri),(gQ l).length=9*l.length
 | []=>rfl
 | t::l=>by
  have:=fP l
  unfold gQ at this ⊢;rw[List.flatMap_cons,List.length_append,this,wN,List.length_cons];omega
theorem iV:∀{l:List Tri} {j i:Nat} {t:Tri},l[j]?=some t→i<9→(gQ l)[j*9+i]?=(aO6 t)[i]?
 | [],j,i,t,h,_=>by simp at h
 | u::l,0,i,t,h,hi=>by
  simp at h;subst h;unfold gQ;rw[List.flatMap_cons,List.getElem?_append_left (by rw[wN];omega)];simp
 | u::l,j+1,i,t,h,hi=>by
  have:=iV (l:=l) (j:=j) (i:=i) (t:=t) (by simpa using h) hi
  unfold gQ at this ⊢;rw[List.flatMap_cons,List.getElem?_append_right (by rw[wN];omega),wN,←this]
  congr 1;omega
structure Seg where
 a:V3
 b:V3
def aZ9 (s:Seg):List ByteArray:=[aA s.a.x,aA s.a.y,aA s.a.z,aA s.b.x,aA s.b.y,aA s.b.z]
def iQ (l:List Seg):List ByteArray:=l.flatMap aZ9
theorem wE (s:Seg):(aZ9 s).length=6:=rfl
theorem aBz:∀(l:List Seg),(iQ l).length=6*l.length
 | []=>rfl
 | t::l=>by
  have:=aBz l
  unfold iQ at this ⊢;rw[List.flatMap_cons,List.length_append,this,wE,List.length_cons];omega
theorem fN:∀{l:List Seg} {j i:Nat} {t:Seg},l[j]?=some t→i<6→(iQ l)[j*6+i]?=(aZ9 t)[i]?
 | [],j,i,t,h,_=>by simp at h
 | u::l,0,i,t,h,hi=>by
  simp at h;subst h;unfold iQ;rw[List.flatMap_cons,List.getElem?_append_left (by rw[wE];omega)];simp
 | u::l,j+1,i,t,h,hi=>by
  have:=fN (l:=l) (j:=j) (i:=i) (t:=t) (by simpa using h) hi
  unfold iQ at this ⊢;rw[List.flatMap_cons,List.getElem?_append_right (by rw[wE];omega),wE,←this]
  congr 1;omega
theorem aSw (l m:List Seg):iQ (l++m)=iQ l++iQ m:=by unfold iQ;simp
def qL (a b:V3):List ByteArray:=[aA a.x,aA a.y,aA a.z,aA b.x,aA b.y,aA b.z]
def aQh (es:eV)(a b:V3):eV:=fH (qL b a) (-1) (fH (qL a b) 1 es)
def aGv (es:eV)(t:Tri):eV:=aQh (aQh (aQh es t.a t.b) t.b t.c) t.c t.a
def xD (l:List Tri):eV:=l.foldl aGv []
def yS (x:List ByteArray × Int):Bool:=decide (x.2≠0)&&decide (x.1.take 3≠x.1.drop 3)
def fL (l:List Tri):Bool:=(xD l).all fun x=> !yS x
def gZ (l:List Tri):Int:=if fL l=true then 0 else 17
def nG (m:Nat)(es:eV):Prop:=iI 6 es∧∀x,x∈es→-(m:Int)≤x.2∧x.2≤m
theorem nG.add {k:List ByteArray}{d:Int}(hk:k.length=6)(hd:-1≤d∧d≤1){m:Nat}:∀{es:eV},nG m es→nG (m+1) (fH k d es):=by
 intro es h;refine⟨h.1.add hk,?_⟩;have h2:=h.2
 clear h
 induction es with
 | nil=>intro x hx;simp[fH]at hx;subst hx;simp only;omega
 | cons y l ih=>
  obtain⟨q,v⟩:=y;have hq:=h2 (q,v) (by simp)
  have hl:∀x,x∈l→-(m:Int)≤x.2∧x.2≤m:=fun x hx=>h2 x (List.mem_cons_of_mem _ hx)
  simp only at hq;unfold fH;split
  ·intro x hx
   rcases List.mem_cons.1 hx with e | e
   ·subst e;simp only;omega
   ·have:=hl x e;omega
  ·intro x hx
   rcases List.mem_cons.1 hx with e | e
   ·subst e;simp only;omega
   ·exact ih hl x e
theorem nG.get {m:Nat}{es:eV}(h:nG m es)(k:List ByteArray):-(m:Int)≤fT es k∧fT es k≤m:=by
 unfold fT;cases hf:fF k es 0 with
 | none=>simp only;omega
 | some x=>
  obtain⟨j,v⟩:=x;have:=(oK hf).2.2
  exact h.2 (k,v) (List.mem_of_getElem? this)
theorem nG.e {m:Nat}{es:eV}(h:nG m es)(a b:V3):nG (m+2) (aQh es a b):=(h.add rfl (by omega)).add rfl (by omega)
theorem nG.t {m:Nat}{es:eV}(h:nG m es)(t:Tri):nG (m+6) (aGv es t):=((h.e _ _).e _ _).e _ _
theorem nG.nil:nG 0 []:=⟨(fun x hx=>by cases hx),fun x hx=>by cases hx⟩
theorem aDb {l:List Tri}{i:Nat}{t:Tri}(h:l[i]?=some t):xD (l.take (i+1))=aGv (xD (l.take i)) t:=by
 have hi:=(List.getElem?_eq_some_iff.1 h)
 obtain⟨h1,h2⟩:=hi;unfold xD;rw[List.take_succ_eq_append_getElem h1,List.foldl_append,h2]
 rfl
theorem aAq (l:List Tri):∀i,i≤l.length→nG (6*i) (xD (l.take i))
 | 0,_=>nG.nil
 | i+1,h=>by
  have h1:l[i]?=some l[i]:=by simp
  rw[aDb h1];exact(aAq l i (by omega)).t _
theorem re9 {f:Nat→ByteArray}{x:Nat}{a0 a1 a2 a3 a4 a5 a6 a7 a8:ByteArray}(h0:f (x*9+0)=a0)(h1:f (x*9+1)=a1)(h2:f (x*9+2)=a2)(h3:f (x*9+3)=a3)(h4:f (x*9+4)=a4)(h5:f (x*9+5)=a5)(h6:f (x*9+6)=a6)(h7:f (x*9+7)=a7)(h8:f (x*9+8)=a8):
  ∀μ,aH μ [.s (.fn f 0 (.n x) 9 0),.s (.fn f 0 (.n x) 9 1),.s (.fn f 0 (.n x) 9 2),.s (.fn f 0 (.n x) 9 3),.s (.fn f 0 (.n x) 9 4),.s (.fn f 0 (.n x) 9 5),.s (.fn f 0 (.n x) 9 6),.s (.fn f 0 (.n x) 9 7),.s (.fn f 0 (.n x) 9 8)]=aH μ [.s (.v a0),.s (.v a1),.s (.v a2),.s (.v a3),.s (.v a4),.s (.v a5),.s (.v a6),.s (.v a7),.s (.v a8)]:=by
 intro μ;simp only[aH,aC,SE.den,IE.den,aX,Int.toNat_natCast,Nat.zero_add,h0,h1,h2,h3,h4,h5,h6,h7,h8]
theorem re6 {f:Nat→ByteArray}{x:Nat}{a0 a1 a2 a3 a4 a5:ByteArray}(h0:f (x*6+0)=a0)(h1:f (x*6+1)=a1)(h2:f (x*6+2)=a2)(h3:f (x*6+3)=a3)(h4:f (x*6+4)=a4)(h5:f (x*6+5)=a5):
  ∀μ,aH μ [.s (.fn f 0 (.n x) 6 0),.s (.fn f 0 (.n x) 6 1),.s (.fn f 0 (.n x) 6 2),.s (.fn f 0 (.n x) 6 3),.s (.fn f 0 (.n x) 6 4),.s (.fn f 0 (.n x) 6 5)]=aH μ [.s (.v a0),.s (.v a1),.s (.v a2),.s (.v a3),.s (.v a4),.s (.v a5)]:=by
 intro μ;simp only[aH,aC,SE.den,IE.den,aX,Int.toNat_natCast,Nat.zero_add,h0,h1,h2,h3,h4,h5]
theorem dG {l m:List AV}(h:∀μ,aH μ l=aH μ m):∀μ,aC μ (.g l)=aC μ (.g m):=fun μ=>by simp only[aC,h μ]
theorem aVz {l:List Tri}{f:Nat→ByteArray}(hf:∀i x,(gQ l)[i]?=some x→f i=x){x:Nat}{t:Tri}(ht:l[x]?=some t):
  f (x*9+0)=aA t.a.x∧f (x*9+1)=aA t.a.y∧f (x*9+2)=aA t.a.z∧f (x*9+3)=aA t.b.x∧f (x*9+4)=aA t.b.y∧f (x*9+5)=aA t.b.z∧f (x*9+6)=aA t.c.x∧f (x*9+7)=aA t.c.y∧f (x*9+8)=aA t.c.z:=
 ⟨hf _ _ (iV ht (by omega)),hf _ _ (iV ht (by omega)),hf _ _ (iV ht (by omega)),hf _ _ (iV ht (by omega)),hf _ _ (iV ht (by omega)),hf _ _ (iV ht (by omega)),hf _ _ (iV ht (by omega)),hf _ _ (iV ht (by omega)),hf _ _ (iV ht (by omega))⟩
theorem bC3 {l:List Seg}{f:Nat→ByteArray}(hf:∀i x,(iQ l)[i]?=some x→f i=x){x:Nat}{t:Seg}(ht:l[x]?=some t):
  f (x*6+0)=aA t.a.x∧f (x*6+1)=aA t.a.y∧f (x*6+2)=aA t.a.z∧f (x*6+3)=aA t.b.x∧f (x*6+4)=aA t.b.y∧f (x*6+5)=aA t.b.z:=
 ⟨hf _ _ (fN ht (by omega)),hf _ _ (fN ht (by omega)),hf _ _ (fN ht (by omega)),hf _ _ (fN ht (by omega)),hf _ _ (fN ht (by omega)),hf _ _ (fN ht (by omega))⟩
theorem aQg (a0 a1 a2 a3 a4 a5:ByteArray)(b:Bool)(w:World):(Instr.checkKey b 10000 201 (.agg #[.string a0,.string a1,.string a2,.string a3,.string a4,.string a5])).run PP w=.ok () w:=by kernel_rfl
theorem iX:KeyTy PP 199 201 3 6:=by
 refine⟨by kernel_rfl,by kernel_rfl,by kernel_rfl,?_,fun w=>by kernel_rfl⟩;intro a b w ha
 match a,ha with
 | [a0,a1,a2,a3,a4,a5],_=>exact aQg a0 a1 a2 a3 a4 a5 b w
end Go.Ai
