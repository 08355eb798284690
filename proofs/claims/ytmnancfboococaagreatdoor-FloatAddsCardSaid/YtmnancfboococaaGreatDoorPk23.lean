/- Part 24 of the proof: garboardlaw17.FloatAdds returns true, whatever the input. -/
import Derived.Test.YtmnancfboococaaGreatDoorPk6
import Derived.Test.YtmnancfboococaaGreatDoorPk9
import Derived.Test.YtmnancfboococaaGreatDoorPk10
import Derived.Test.YtmnancfboococaaGreatDoorPk22
set_option linter.all false
namespace Go.Ai
open Go Go.Proofs Go.Num V3
theorem vQ {a:ByteArray}(h:sh a=true):a.size≤40:=by have:=of_decide_eq_true h;omega
theorem kZ {a:ByteArray}(h:mM a=true)(hs:sh a=true):∃q,a=aA q∧sz q≤40:=by
 obtain⟨q,hq⟩:=Option.isSome_iff_exists.1 h;have e:=tQ hq
 have:=vQ hs
 rw[e]at this;exact⟨q,e,lTr (iW q) this⟩
theorem lH {n:Nat}{L:List ByteArray}(h:L.length=n+1):∃a L',L=a::L'∧L'.length=n:=by
 match L,h with
 | a::L',h=>exact⟨a,L',rfl,by simpa using h⟩
theorem aRl:∀(N:Nat) (L:List ByteArray),L.length=9*N→(∀a,a∈L→mM a=true∧sh a=true)→∃l,L=gJ l∧∀t,t∈l→t.le 40
 | 0,L,hL,_=>⟨[],List.eq_nil_of_length_eq_zero hL,fun t ht=>by cases ht⟩
 | N+1,L,hL,h=>by
  obtain⟨a1,L1,rfl,h1⟩:=lH (n:=9*N+8) (by omega);obtain⟨a2,L2,rfl,h2⟩:=lH h1;obtain⟨a3,L3,rfl,h3⟩:=lH h2;obtain⟨b1,L4,rfl,h4⟩:=lH h3;obtain⟨b2,L5,rfl,h5⟩:=lH h4;obtain⟨b3,L6,rfl,h6⟩:=lH h5;obtain⟨d1,L7,rfl,h7⟩:=lH h6;obtain⟨d2,L8,rfl,h8⟩:=lH h7;obtain⟨d3,L9,rfl,h9⟩:=lH h8;obtain⟨l,rfl,hl⟩:=aRl N L9 h9 (fun a ha=>h a (by simp[ha]));obtain⟨x1,rfl,y1⟩:=kZ (h a1 (by simp)).1 (h a1 (by simp)).2;obtain⟨x2,rfl,y2⟩:=kZ (h a2 (by simp)).1 (h a2 (by simp)).2;obtain⟨x3,rfl,y3⟩:=kZ (h a3 (by simp)).1 (h a3 (by simp)).2;obtain⟨x4,rfl,y4⟩:=kZ (h b1 (by simp)).1 (h b1 (by simp)).2;obtain⟨x5,rfl,y5⟩:=kZ (h b2 (by simp)).1 (h b2 (by simp)).2;obtain⟨x6,rfl,y6⟩:=kZ (h b3 (by simp)).1 (h b3 (by simp)).2;obtain⟨x7,rfl,y7⟩:=kZ (h d1 (by simp)).1 (h d1 (by simp)).2;obtain⟨x8,rfl,y8⟩:=kZ (h d2 (by simp)).1 (h d2 (by simp)).2;obtain⟨x9,rfl,y9⟩:=kZ (h d3 (by simp)).1 (h d3 (by simp)).2;refine⟨⟨⟨x1,x2,x3⟩,⟨x4,x5,x6⟩,⟨x7,x8,x9⟩⟩::l,rfl,fun t ht=>?_⟩
  rcases List.mem_cons.1 ht with rfl | ht
  ·exact⟨⟨y1,y2,y3⟩,⟨y4,y5,y6⟩,y7,y8,y9⟩
  ·exact hl t ht
theorem aMt {l:List Tri}{p:Pl}(hp:p.fit (2^9))(hl:∀t,t∈l→t.le (2^9))(hn:l.length≤32):(bD p l).le (2^29):=by
 have hM:(eC p l).length≤32:=lTr (vN p l) hn
 have sgle:∀g,g∈eC p l→g.a.le 12814∧g.b.le 12814:=fun g hg=>aE3 hp hl hg
 have h1:(aUe (eC p l)).le (1+32*345996):=by
  unfold aUe;generalize eC p l=sg at hM sgle;have key:∀f,f=(sg.headD ⟨V3.zero,V3.zero⟩).a→(sg.foldl (fun s g=>s.add (Tri.mass ⟨f,g.a,g.b⟩)) Ms.none).le (1+32*345996):=by
   intro f hf;cases sg with
   | nil=>exact Ms.none_le.mono (by omega)
   | cons g0 sg=>
    have hfl:f.le 12814:=by rw[hf];exact(sgle g0 (.head _)).1
    have bBu:∀(s:Ms) (g:Seg) (k:Nat),g∈g0::sg→s.le k→(s.add (Tri.mass ⟨f,g.a,g.b⟩)).le (k+345996):=fun s g k hg hs=>(Ms.le_add hs (uX (t:=⟨f,g.a,g.b⟩) ⟨hfl,sgle g hg⟩)).mono (by omega)
    have h:=uR (fun(s:Ms) (g:Seg)=>s.add (Tri.mass ⟨f,g.a,g.b⟩)) (l:=g0::sg) (d:=345996) Ms.none_le bBu (g0::sg).length (lRf _)
    rw[List.take_length]at h;exact h.mono (by have:=Nat.mul_le_mul_right 345996 hM;omega)
  exact key _ rfl
 have bB6:∀(s:Ms) (t:Tri) (k:Nat),t∈l→s.le k→(fan (t.low p) s).le (k+691992):=fun s t k ht hs=>(aPl hp (hl t ht) hs).mono (by omega)
 have h2:=uR (fun(s:Ms) (t:Tri)=>fan (t.low p) s) (l:=l) (d:=691992) h1 bB6 l.length (lRf _)
 rw[List.take_length]at h2;exact h2.mono (by have:=Nat.mul_le_mul_right 691992 hn;omega)
theorem aO3 {t:Rat}(h1:-(1/2)≤t)(h2:t≤1/2):iL t≠0:=by
 unfold iL;have h3:=aEw t
 have h4:(1:Rat) - t*t≠0:=by
  intro h;have h5:(1/2 - t)*(1/2+t)≥0:=Rat.mul_nonneg (by grind) (by grind)
  grind
 intro h;have h5:=Rat.div_mul_cancel (a:=1 - t*t) h3
 rw[h,Rat.zero_mul]at h5;exact h4 h5.symm
theorem aY2 (t:Rat):¬(iL t=0∧iB t=0):=by
 rintro ⟨h1,h2⟩;have h3:=aEw t
 unfold iL iB at *;have e:∀x:Rat,x/(1+t*t)=0→x=0:=fun x hx=>by
  have h5:=Rat.div_mul_cancel (a:=x) h3
  rw[hx,Rat.zero_mul]at h5;exact h5.symm
 have h4:=e _ h1
 have h5:=e _ h2
 grind
theorem At.up_ne {a:At}(h:a.ok=true):a.up≠V3.zero:=by
 obtain⟨_,_,h3,h4⟩:=(At.ok_iff a).1 h;have hc:=aO3 h3 h4
 intro e;have ey:-(iB a.h*iL a.t)=0:=congrArg V3.y e
 have ez:iL a.h*iL a.t=0:=congrArg V3.z e
 refine aY2 a.h ⟨?_,?_⟩
 ·rcases Rat.mul_eq_zero.1 ez with h | h
  ·exact h
  ·exact absurd h hc
 ·have ey:iB a.h*iL a.t=0:=by grind
  rcases Rat.mul_eq_zero.1 ey with h | h
  ·exact h
  ·exact absurd h hc
inductive Out (r:Raw) (l:List Tri):Prop
 | bad (e:Int):r.errs e→Out r l
 | ok (p:Pl):r.good l p→p.fit (2^9)→(∀t,t∈l→t.le (2^9))→l.length≤24→Out r l
theorem bC7 {L:List ByteArray}{N:Nat}(hL:L.length=9*N)(hs:shS L N=true):∃l,∀h t d,sh h=true→sh t=true→sh d=true→Out ⟨L,N,h,t,d⟩ l:=by
 unfold shS at hs
 rcases Bool.or_eq_true_iff.1 hs with hs | hs
 ·have hN:N=513:=of_decide_eq_true hs
  exact⟨[],fun h t d _ _ _=>.bad _ (.solid (by show cE N≠0;rw[hN];decide))⟩
 ·obtain⟨h1,h2⟩:=Bool.and_eq_true_iff.1 hs;have h2:N≤24:=of_decide_eq_true h2
  have hsz:∀a,a∈L→a.size≤2^31:=fun a ha=>lTr (vQ (List.all_eq_true.1 h1 a ha)) (by decide)
  by_cases hN0:N=0
  ·exact⟨[],fun h t d _ _ _=>.bad _ (.solid (by show cE N≠0;rw[hN0];decide))⟩
  have hso:cE N=0:=by
   unfold cE;rw[if_neg hN0,if_neg (by omega)]
  cases hb:oT L with
  | true=>exact⟨[],fun h t d _ _ _=>.bad _ (.bad hso hb hsz)⟩
  | false=>
   have hok:∀a,a∈L→mM a=true∧sh a=true:=fun a ha=>by
    unfold oT at hb;rw[Bool.not_eq_false']at hb;exact⟨List.all_eq_true.1 hb a ha,List.all_eq_true.1 h1 a ha⟩
   obtain⟨l,hl,hle⟩:=aRl N L hL hok;have hlen:l.length=N:=by rw[hl,eQ]at hL;omega
   have aP5:∀k,40≤k→∀t,t∈l→t.le k:=fun k hk t ht=>⟨(hle t ht).1.mono hk,(hle t ht).2.1.mono hk,(hle t ht).2.2.mono hk⟩
   refine⟨l,fun h t d sh1 sh2 sh3=>?_⟩;have z1:=vQ sh1
   have z2:=vQ sh2
   have z3:=vQ sh3
   cases hq:(mM h&&mM t&&mM d)with
   | false=>exact .bad 1 (.att 1 hso hb hsz (by decide) (aJy (h:=h) (t:=t) (d:=d) (by omega) (by omega) (by omega) hq))
   | true=>
    simp only[Bool.and_eq_true]at hq;obtain⟨qh,rfl,y1⟩:=kZ hq.1.1 sh1;obtain⟨qt,rfl,y2⟩:=kZ hq.1.2 sh2;obtain⟨qd,rfl,y3⟩:=kZ hq.2 sh3;have hk:=aRp (a:=⟨qh,qt⟩) (d:=qd) ⟨by show sz qh≤_;omega,by show sz qt≤_;omega⟩ (by omega)
    cases ho:At.ok ⟨qh,qt⟩with
    | false=>
     rw[ho,if_neg (by decide)]at hk;exact .bad 2 (.att 2 hso hb hsz (by decide) hk)
    | true=>
     rw[ho,if_pos rfl]at hk;cases hm:nR l with
     | false=>exact .bad 17 (.op l _ hso hb hsz hl (aP5 _ (by decide)) hk hm)
     | true=>
      exact .ok _ ⟨hso,hb,hsz,hl,aP5 _ (by decide),hk,hm⟩ ⟨At.up_ne ho,(At.le_up (a:=⟨qh,qt⟩) (k:=40) ⟨y1,y2⟩).mono (by decide),by show sz qd≤_;omega⟩ (aP5 _ (by decide)) (by omega)
end Go.Ai
namespace Go.Ai
open Go Go.Proofs Go.Num
theorem aNe {v:Value}{X:Nat→Prop}{w:World}{l:List Int}(hb:l.length≤2^40)(hX:∀b,X b→b<w.heap.size)(hv:(lA .u32 l).p v X w):Fn PP 120 [v] X w (trimF v l):=by
 obtain⟨R,hRR⟩:=nm (trimF v l);obtain⟨K,hK⟩:=nm ([KF.cst v (lA .u32 l)]);rw[←hRR];refine bE mixed tok [.q v] (K:=K) Tryz.func120 rfl rfl (lbl rfl) rfl hX (by subst hK;simp;exact hv) fun c hc hR=>?_
 refine aRc 0 .u32 l rfl rfl (fun X μ a w H=>H.toP.cst (by simp[hK])) fun f N cap ad hN hf dH hv0=>?_
 obtain⟨K1,hK1⟩:=nm (KF.ext 0 ad::K);show Goal c (KF.ext 0 ad::K) _
 rw[←hK1];have kfo:jY 1 K1 K1:=by subst hK1;subst hK;exact⟨⟨.head _,KFr.ext (by omega) _⟩,⟨.tail _ (.head _),KFr.cst _ _ _⟩,trivial⟩
 refine zN hc ?_;cbv;let ι:={m:Nat//m≤N∧eA (l.take m)=eA l}
 let I:ι→St:=fun x=>⟨[(0,.sl 0 0 (.n x.1) cap)],[.xi .u32 N f],[]⟩
 let x0:ι:=⟨N,lRf _,by rw[hN,List.take_length]⟩
 refine zU 1 (S':=I x0) (K':=K1) ⟨zS rfl rfl,trivial⟩ kfo trivial ?_;refine bQ hc I (fun x=>x.1) x0 100 ?_;rintro p ⟨m,hm,ht⟩ hy;have done:l.take m=eA l→∀X μ a w v S,Sim c K1 S X μ a w→S.hp[0]?=some (.xi .u32 N f)→aD μ (.sl 0 0 (.n m) cap)=some v→R.p v X w:=by
  intro h2 X μ a w v S H hk hv;rw[hRR];refine⟨?_,?_⟩
  rotate_left
  ·have h3:μ 0=some (.ext ad):=H.toP.kf (KF.ext 0 ad) (by rw[hK1];exact .head _)
   obtain⟨a',q1,q2,_⟩:=nG hv;simp only[atS,h3,Option.bind_some,MV.atS,Option.some.injEq]at q1;subst q1;rw[q2,hv0,←h2];have hm':(IE.n m).den.toNat=(l.take m).length:=by simp[IE.den];omega
   rw[hm'];simp[aNc]
  rw[←h2];exact H.toP.row hk hv (by simp[IE.den];omega) (fun i x hx=>by
   rw[List.getElem?_take]at hx;split at hx
   ·simpa using hf i x hx
   ·cases hx) (by simp;omega) (by simp;omega)
 cbv;refine bU hc 6 rfl rfl 100 (fun h=>?_) (fun h=>?_)
 ·have h:0<m:=by simpa[BE.den,IE.den]using h
  obtain⟨q,rfl⟩:∃q,m=q+1:=⟨m - 1,by omega⟩;have hq:l[q]?=some l[q]:=by simp
  have hfq:=hf q _ hq
  have htk:l.take (q+1)=l.take q++[l[q]]:=by rw[List.take_add_one,hq];rfl
  cbv;refine aQ hc ⟨?_,?_,?_,trivial⟩ ?_
  ·show _∧_;simp only[lo,hi,IE.den];omega
  ·show _∧_;simp only[IE.den];omega
  ·show _≤_;simp only[IE.den,aX];omega
  refine aE hc rfl 100 (fun h3=>?_) (fun h3=>?_)
  ·have h3:l[q]=0:=by
    have:=of_decide_eq_true h3
    simp only[IE.den,aX]at this;rw[←hfq,←this];congr 1;omega
   cbv;refine aQ hc ⟨?_,?_,trivial⟩ ?_
   ·show _∧_;simp only[lo,hi,IE.den];omega
   ·show _∧_;simp only[IE.den];omega
   refine zU 1 (S':=I ⟨q,by omega,by rw[←ht,htk,h3,tW]⟩) (K':=K1) ⟨⟨_,rfl,rfl,fun μ=>?_⟩,trivial⟩ kfo trivial (hy _ (Nat.lt_succ_self q));have e:((IE.n (q+1)).sub (IE.l 1)).den=(IE.n q).den:=by simp only[IE.den];omega
   simp only[aD,e]
  ·have h3:l[q]≠0:=by
    intro e;have h4:=of_decide_eq_false h3
    refine h4 ?_;simp only[IE.den,aX];rw[←e,←hfq];congr 1;omega
   cbv;refine aS hc hR rfl (fun X μ a w v H hv=>done ?_ X μ a w v _ H rfl hv);rw[←ht,htk,aBl h3]
 ·have h:m=0:=by
   have:=of_decide_eq_false h
   simp only[IE.den]at this;omega
  cbv;refine aS hc hR rfl (fun X μ a w v H hv=>done ?_ X μ a w v _ H rfl hv);rw[←ht,h];rfl
theorem aNf {v:Value}{X:Nat→Prop}{w:World}{l:List Int}(hb:l.length≤2^40)(hX:∀b,X b→b<w.heap.size)(hv:(lA .u32 l).p v X w):Fn PP 120 [v] X w (lA .u32 (eA l)):=
 (aNe hb hX hv).mono fun _ _ _ h=>h.1
theorem fQ {v:Value}{X:Nat→Prop}{w:World}{l:List Int}(hl:Wd l)(hb:l.length≤2^40)(hX:∀b,X b→b<w.heap.size)(hv:(lA .u32 l).p v X w):Fn PP 120 [v] X w (aL (val l).toNat):=by
 have:=aNf hb hX hv
 rwa [mT hl]at this
theorem kL:aB PP 120:=zK
theorem zG:aB PP 75:=zK
theorem aJa {X:Nat→Prop}{w:World}{x:Int}(hX:∀b,X b→b<w.heap.size)(h0:0≤x)(h1:x<4294967296):Fn PP 75 [.int .u32 x] X w (aL x.toNat):=by
 obtain⟨R,hRR⟩:=nm (aL x.toNat);rw[←hRR];refine bE mixed tok [.i .u32 (.v x)] (K:=[]) Tryz.func75 rfl rfl (lbl rfl) rfl hX (fun f hf=>by cases hf) fun c hc hR=>?_
 refine zN hc ?_;cbv;refine aQ hc ⟨?_,?_,?_,trivial⟩ ?_
 ·show _≠_;simp[IE.den]
 ·show _≠_;simp[IE.den]
 ·show _∧_;simp only[lo,hi,IE.den,Int.tdiv_eq_ediv_of_nonneg h0];omega
 refine wY 0 .u32 rfl rfl rfl fun f hf=>?_
 have f0:=hf 0 _ rfl
 have f1:=hf 1 _ rfl
 have e1:x.tmod 1000000000=x%1000000000:=Int.tmod_eq_emod_of_nonneg h0
 have e2:x.tdiv 1000000000=x/1000000000:=Int.tdiv_eq_ediv_of_nonneg h0
 simp only[IE.den,e1,e2]at f0 f1;have hl:Wd [x%1000000000,x/1000000000]:=Wd.mk (by omega) (Wd.mk (by omega) Wd.nil)
 have hv:val [x%1000000000,x/1000000000]=x:=by simp only[val];omega
 cbv;refine dZ (R:=R) hc kL (fun n0 D X μ a w aK H aJ=>?_) 100 ?_
 ·obtain⟨v,rfl,hv'⟩:=aV aJ;have h3:=H.row (l:=[x%1000000000,x/1000000000]) rfl hv' rfl (fun i y hy=>by
   match i,hy with
   | 0,hy=>simp at hy;subst hy;exact f0
   | 1,hy=>simp at hy;subst hy;exact f1) (lRf _) (lRf _)
  have:=fQ hl (by simp) H.xlt h3
  rw[hv]at this;rw[hRR];exact this
 cbv;exact aS hc hR rfl (fun X μ a w v H hv=>H.toP.val (k:=1) (.head _) hv)
theorem wG:aB PP 76:=zK
theorem aMy {v u:Value}{X:Nat→Prop}{w:World}{n m:Nat}(hbn:(aC n).length≤2^40)(hbm:(aC m).length≤2^40)(hX:∀b,X b→b<w.heap.size)(hv:(aL n).p v X w)(hu:(aL m).p u X w):
  Fn PP 76 [v,u] X w (dI (.int .i64 (bZ n m))):=by
 obtain⟨R,hRR⟩:=nm (dI (.int .i64 (bZ n m)));obtain⟨K,hK⟩:=nm ([KF.cst v (aL n),KF.cst u (aL m)]);rw[←hRR];have jT:∀{av:AV} {z:Int} {X μ v w},aD μ av=some v→(aD μ av=some (.int .i64 z))→z=bZ n m→R.p v X w:=by
  intro av z X μ v w h1 h2 h3;rw[h2]at h1;injection h1 with h1
  rw[hRR,←h1,h3];rfl
 refine bE mixed tok [.q v,.q u] (K:=K) Tryz.func76 rfl rfl (lbl rfl) rfl hX (by subst hK;simp;exact⟨hv,hu⟩) fun c hc hR=>?_
 refine cW 0 .u32 (aC n) rfl rfl (fun X μ a w v' H hv'=>cA H (by simp[hK]) hv') fun f N cap hN hf dH=>?_
 refine cW 1 .u32 (aC m) rfl rfl (fun X μ a w v' H hv'=>cA H (by simp[hK]) hv') fun f' M aU hM hf' fW=>?_
 refine zN hc ?_;cbv;refine aE hc rfl 100 (fun h=>?_) (fun h=>?_)
 ·have h:(N:Int)≠(M:Int):=BE.eq_f (BE.not_t h)
  have h:(aC n).length≠(aC m).length:=by omega
  have hlen:=aFz h
  have hle:∀z:Int,bZ N M=z→z=bZ n m:=fun z hz=>by rw[←hz,hN,hM];exact hlen
  have hlt:(N:Int)<(M:Int)→(-1:Int)=bZ n m:=fun h=>hle _ (by unfold bZ;rw[if_pos h])
  have hgt:¬(N:Int)<(M:Int)→(1:Int)=bZ n m:=fun h'=>hle _ (by unfold bZ;rw[if_neg h',if_pos (by omega)])
  cbv;refine aE hc rfl 100 (fun h2=>?_) (fun h2=>?_)
  ·have h2:=hlt (BE.lt_t h2)
   cbv;exact aS hc hR rfl (fun X μ a w v H hv=>jT hv rfl h2)
  ·have h2:=hgt (BE.lt_f h2)
   cbv;exact aS hc hR rfl (fun X μ a w v H hv=>jT hv rfl h2)
 ·have h:(N:Int)=(M:Int):=BE.eq_t (BE.not_f h)
  have h:M=N:=by omega
  subst h;cbv;refine aQ hc ⟨?_,trivial⟩ ?_
  ·show _∧_;simp only[lo,hi,IE.den];omega
  let ι:={k:Nat//k≤M∧(aC n).drop k=(aC m).drop k}
  let I:ι→St:=fun x=>⟨[(0,.sl 0 0 (.n M) cap),(1,.sl 1 0 (.n M) aU),(5,.i .i64 (.sub (.n x.1) (.l 1)))],[.xi .u32 M f,.xi .u32 M f'],[]⟩
  let x0:ι:=⟨M,lRf _,by rw[List.drop_of_length_le (by omega),List.drop_of_length_le (by omega)]⟩
  refine zU 2 (S':=I x0) (K':=K) ⟨zS rfl rfl,zS rfl rfl,zS rfl rfl,trivial⟩ (by subst hK;exact⟨⟨.head _,KFr.cst _ _ _⟩,⟨.tail _ (.head _),KFr.cst _ _ _⟩,trivial⟩) trivial ?_;refine bQ hc I (fun x=>x.1) x0 100 ?_;rintro p ⟨k,hk,hd⟩ hy;cbv;refine aE hc rfl 100 (fun h=>?_) (fun h=>?_)
  ·have h:(0:Int)≤(k:Int) - 1:=BE.le_t h
   obtain⟨q,rfl⟩:∃q,k=q+1:=⟨k - 1,by omega⟩;have hq:q<(aC n).length:=by omega
   have hq':q<(aC m).length:=by omega
   have gq:=hf q (aC n)[q] (by simp)
   have gq':=hf' q (aC m)[q] (by simp)
   have hwn:=bF n (aC n)[q] (List.getElem_mem _)
   have hwm:=bF m (aC m)[q] (List.getElem_mem _)
   have hix:aX 0 ((IE.n (q+1)).sub (IE.l 1)).den 1 0=q:=by simp only[aX,IE.den];omega
   cbv;have o1:(Obl.ltE ((IE.n (q+1)).sub (IE.l 1)) (IE.n M)).ok:=by show _∧_;simp only[IE.den];omega
   have o2:(Obl.ix 0 ((IE.n (q+1)).sub (IE.l 1)) 1 0 1 M).ok:=by show _≤_;rw[hix];omega
   refine aQ hc ⟨o1,o2,o1,o2,trivial⟩ ?_;have aGe:(aC n)[q]≠(aC m)[q]→bZ (aC n)[q] (aC m)[q]=bZ n m:=fun h=>by
    rw[aF0 (bF n) (bF m) (List.getElem?_eq_getElem hq) (List.getElem?_eq_getElem hq') hd h,cP,cP]
   refine zE hc ?_;cbv;refine aE hc rfl 100 (fun h=>?_) (fun h=>?_)
   ·have h:f (aX 0 ((IE.n (q+1)).sub (IE.l 1)).den 1 0)<f' (aX 0 ((IE.n (q+1)).sub (IE.l 1)).den 1 0):=BE.lt_t h
    rw[hix,gq,gq']at h;have hz:(-1:Int)=bZ n m:=by rw[←aGe (by omega)];unfold bZ;rw[if_pos h]
    cbv;exact aS hc hR rfl (fun X μ a w v H hv=>jT hv rfl hz)
   have h1:¬f (aX 0 ((IE.n (q+1)).sub (IE.l 1)).den 1 0)<f' (aX 0 ((IE.n (q+1)).sub (IE.l 1)).den 1 0):=BE.lt_f h
   rw[hix,gq,gq']at h1;clear h;cbv;refine aQ hc ⟨o1,o2,o1,o2,trivial⟩ ?_;refine zE hc ?_;cbv;refine aE hc rfl 100 (fun h=>?_) (fun h=>?_)
   ·have h:f' (aX 0 ((IE.n (q+1)).sub (IE.l 1)).den 1 0)<f (aX 0 ((IE.n (q+1)).sub (IE.l 1)).den 1 0):=BE.lt_t h
    rw[hix,gq,gq']at h;have hz:(1:Int)=bZ n m:=by rw[←aGe (by omega)];unfold bZ;rw[if_neg h1,if_pos h]
    cbv;exact aS hc hR rfl (fun X μ a w v H hv=>jT hv rfl hz)
   ·have h:¬f' (aX 0 ((IE.n (q+1)).sub (IE.l 1)).den 1 0)<f (aX 0 ((IE.n (q+1)).sub (IE.l 1)).den 1 0):=BE.lt_f h
    rw[hix,gq,gq']at h;have h:(aC n)[q]=(aC m)[q]:=by omega
    cbv;refine aQ hc ⟨?_,trivial⟩ ?_
    ·show _∧_;simp only[lo,hi,IE.den];omega
    refine zU 2 (S':=I ⟨q,by omega,by rw[List.drop_eq_getElem_cons hq,List.drop_eq_getElem_cons hq',hd,h]⟩) (K':=K) ⟨zS rfl rfl,zS rfl rfl,⟨_,rfl,rfl,fun μ=>?_⟩,trivial⟩ (by subst hK;exact⟨⟨.head _,KFr.cst _ _ _⟩,⟨.tail _ (.head _),KFr.cst _ _ _⟩,trivial⟩) trivial (hy _ (Nat.lt_succ_self q));have e:(((IE.n (q+1)).sub (IE.l 1)).sub (IE.l 1)).den=((IE.n q).sub (IE.l 1)).den:=by simp only[IE.den];omega
    simp only[aD,e]
  ·have h:¬(0:Int)≤(k:Int) - 1:=BE.le_f h
   have h0:k=0:=by omega
   subst h0;cbv;refine aS hc hR rfl (fun X μ a w v H hv=>jT hv rfl ?_);have:n=m:=aF6 (by simpa using hd)
   subst this;simp[bZ,IE.den]
theorem aTt {a b:Nat}(h:a≤b):(1000000000:Int)^a≤1000000000^b:=by
 have e:∀k:Nat,(1000000000:Int)^k=((1000000000^k:Nat):Int):=fun k=>by simp
 rw[e,e];exact Int.ofNat_le.2 (Nat.pow_le_pow_right (by decide) h)
theorem aSn:aB PP 160:=zK
theorem bAq {v u:Value}{X:Nat→Prop}{w:World}{n m:Nat}(hbn:(aC n).length<2^39)(hbm:(aC m).length<2^39)(hX:∀b,X b→b<w.heap.size)(hv:(aL n).p v X w)(hu:(aL m).p u X w):
  Fn PP 160 [v,u] X w (aL (n+m)):=by
 obtain⟨R,hRR⟩:=nm (aL (n+m));obtain⟨K,hK⟩:=nm ([KF.cst v (aL n),KF.cst u (aL m)]);rw[←hRR];refine bE mixed tok [.q v,.q u] (K:=K) Tryz.func160 rfl rfl (lbl rfl) rfl hX (by subst hK;simp;exact⟨hv,hu⟩) fun c hc hR=>?_
 refine cW 0 .u32 (aC n) rfl rfl (fun X μ a w v' H hv'=>cA H (by simp[hK]) hv') fun f N cap hN hf dH=>?_
 refine cW 1 .u32 (aC m) rfl rfl (fun X μ a w v' H hv'=>cA H (by simp[hK]) hv') fun f' M aU hM hf' fW=>?_
 have hfw:∀i,i<N→f i=(aC n).getD i 0:=fun i hi=>by
  have:=List.getElem?_eq_getElem (l:=aC n) (i:=i) (by omega)
  rw[hf i _ this,List.getD_eq_getElem?_getD,this];rfl
 have aAn:∀i,i<M→f' i=(aC m).getD i 0:=fun i hi=>by
  have:=List.getElem?_eq_getElem (l:=aC m) (i:=i) (by omega)
  rw[hf' i _ this,List.getD_eq_getElem?_getD,this];rfl
 have hge:∀i,N≤i→(aC n).getD i 0=0:=fun i hi=>by rw[List.getD_eq_getElem?_getD,List.getElem?_eq_none (by omega)];rfl
 have aPx:∀i,M≤i→(aC m).getD i 0=0:=fun i hi=>by rw[List.getD_eq_getElem?_getD,List.getElem?_eq_none (by omega)];rfl
 have hNb:N<2^39:=by omega
 have hMb:M<2^39:=by omega
 have kf:jY 2 K K:=by subst hK;exact⟨⟨.head _,KFr.cst _ _ _⟩,⟨.tail _ (.head _),KFr.cst _ _ _⟩,trivial⟩
 refine zN hc ?_;cbv;obtain⟨G,hG⟩:∃G:Option Addr→Nat→Nat→List Int→OF,∀a n cap l,G a n cap l=OF.row (.slice a n cap) c.B.heap.size 138 .u32 l:=⟨fun a n cap l=>OF.row (.slice a n cap) c.B.heap.size 138 .u32 l,fun _ _ _ _=>rfl⟩;have kof:∀a i cp out,yY 2 [G a i cp out]:=fun a i cp out=>⟨by rw[hG];exact OFr.row _ _ _ _ _ _,trivial⟩
 refine rI hG rfl ?_;cbv;let ι:={x:Nat × Option Addr × Nat × List Int × Int//Mrg n m 1 x.1 x.2.2.2.1 x.2.2.2.2∧x.1≤max N M+1}
 let I:ι→St:=fun x=>⟨[(0,.sl 0 0 (.n N) cap),(1,.sl 1 0 (.n M) aU),(5,.xs x.1.2.1 x.1.1 x.1.2.2.1),(6,.i .u32 (.v x.1.2.2.2.2)),(7,.i .i64 (.n x.1.1))],[.xi .u32 N f,.xi .u32 M f'],[G x.1.2.1 x.1.1 x.1.2.2.1 x.1.2.2.2.1]⟩
 let x0:ι:=⟨(0,none,0,[],0),Mrg.init (.inl rfl),Nat.zero_le _⟩
 refine zU 2 (S':=I x0) (K':=K) ⟨zS rfl rfl,zS rfl rfl,zS rfl rfl,zS rfl rfl,zS rfl rfl,trivial⟩ kf (kof _ _ _ _) ?_;refine bQ hc I (fun x=>max N M+1 - x.1.1) x0 100 ?_;rintro pp ⟨⟨i,a,cp,out,cr⟩,hM',hi⟩ hy;have hcr:=hM'.c
 have hlen:=hM'.len
 simp only at hM' hi hcr hlen;have hga:=bA (bF n) i
 have hgb:=bA (bF m) i
 obtain⟨ga,gI⟩:=nm ((aC n).getD i 0);obtain⟨gb,kT⟩:=nm ((aC m).getD i 0);rw[←gI]at hga;rw[←kT]at hgb;obtain⟨x,hx⟩:=nm (cr+ga+gb);have hxb:x=cr+(aC n).getD i 0+1*(aC m).getD i 0:=by rw[hx,gI,kT];omega
 have aPw:0≤cr∧cr≤1:=by omega
 have hx0:0≤x∧x<2000000001:=by omega
 have cL:=hM'.step hxb
 obtain⟨w0,hw0⟩:=nm (x%1000000000);obtain⟨c0,hc0⟩:=nm (x/1000000000);rw[←hw0,←hc0]at cL;have ew0:x.tmod 1000000000=w0:=by rw[hw0,Int.tmod_eq_emod_of_nonneg hx0.1]
 have ec0:x.tdiv 1000000000=c0:=by rw[hc0,Int.tdiv_eq_ediv_of_nonneg hx0.1]
 have hix:aX 0 (IE.n i).den 1 0=i:=by simp only[aX,IE.den];omega
 have g1:i<N→(IE.fn f 0 (.n i) 1 0).den=ga:=fun h=>by show f (aX 0 (IE.n i).den 1 0)=ga;rw[hix,hfw i h,gI]
 have g2:i<M→(IE.fn f' 0 (.n i) 1 0).den=gb:=fun h=>by show f' (aX 0 (IE.n i).den 1 0)=gb;rw[hix,aAn i h,kT]
 have z1:¬i<N→ga=0:=fun h=>by rw[gI,hge i (by omega)]
 have z2:¬i<M→gb=0:=fun h=>by rw[kT,aPx i (by omega)]
 have o1:i<N→(Obl.ltE (IE.n i) (IE.n N)).ok:=fun h=>by show _∧_;simp only[IE.den];omega
 have o2:i<N→(Obl.ix 0 (IE.n i) 1 0 1 N).ok:=fun h=>by show _≤_;rw[hix];omega
 have o1':i<M→(Obl.ltE (IE.n i) (IE.n M)).ok:=fun h=>by show _∧_;simp only[IE.den];omega
 have o2':i<M→(Obl.ix 0 (IE.n i) 1 0 1 M).ok:=fun h=>by show _≤_;rw[hix];omega
 have cQ:∀(e:IE) (z:Int),e.den=z→0≤z∧z≤4294967295→(Obl.inR .u32 e).ok:=fun e z he hz=>by show _∧_;rw[he];exact hz
 have rg1:0≤ga∧ga≤4294967295:=by omega
 have rg2:0≤gb∧gb≤4294967295:=by omega
 have rx1:0≤cr+ga∧cr+ga≤4294967295:=by omega
 have rx2:0≤cr+gb∧cr+gb≤4294967295:=by omega
 have rx:0≤x∧x≤4294967295:=by omega
 have rc:0≤c0∧c0≤4294967295:=by omega
 have nz:(Obl.nz (IE.l 1000000000)).ok:=by show _≠_;simp[IE.den]
 have aZj:i≤2^40:=by omega
 have hlb:(out.length+1)*4≤140737488355328:=by omega
 have oC:out.length+1≤9223372036854775807:=by omega
 have q6:-9223372036854775808≤(i:Int)+1∧(i:Int)+1≤9223372036854775807:=by omega
 have hin:∀n',n'=out.length+1→(i:Int)+1=(n':Int):=fun n' h=>by omega
 have hni:out.length+1=i+1:=by omega
 have xS:i<N∨i<M∨0<cr→∀n',n'=out.length+1→n'≤max N M+1∧max N M+1 - n'<max N M+1 - i:=fun h n' hn'=>by
  have hin:i<max N M+1:=by
   rcases h with h | h | h
   ·omega
   ·omega
   ·rcases Nat.lt_or_ge i (max N M+1)with h1 | h1
    ·exact h1
    ·exfalso
     have hl:=hM'.last (by omega) (by omega)
     have hv1:=iX (bF n)
     have hv2:=iX (bF m)
     rw[cP]at hv1 hv2;have hv0:=cI hM'.wd
     have e1:(1000000000:Int)^(aC n).length≤1000000000^(max N M):=aTt (by omega)
     have e2:(1000000000:Int)^(aC m).length≤1000000000^(max N M):=aTt (by omega)
     have e3:(1000000000:Int)^(max N M+1)≤1000000000^i:=aTt (by omega)
     have e4:(1000000000:Int)^i*1≤1000000000^i*cr:=Int.mul_le_mul_of_nonneg_left (by omega) (Int.pow_nonneg (by decide))
     have e5:(1000000000:Int)^(max N M+1)=1000000000^(max N M)*1000000000:=Int.pow_succ _ _
     have e6:(0:Int)<1000000000^(max N M):=Int.pow_pos (by decide)
     rw[Int.one_mul]at hl;omega
  omega
 have jT:¬i<N→¬i<M→¬0<cr→(val out).toNat=n+m:=fun h1 h2 h3=>by
  have hl:=hM'.last (by omega) (by omega)
  rw[show cr=0 by omega]at hl;omega
 have hlo:out.length≤2^40:=by omega
 cbv;refine bU hc 13 rfl rfl 100 (fun h=>?_) (fun h=>?_)
 ·have hA:i<N:=Int.ofNat_lt.1 (BE.lt_t h)
  cbv;refine aE hc rfl 100 (fun h=>?_) (fun h=>?_)
  ·skip
   have ra1:=cQ (.add (.v cr) (.fn f 0 (.n i) 1 0)) _ (by show cr+(IE.fn f 0 (.n i) 1 0).den=cr+ga;rw[g1 hA]) rx1;have pa1:=o1 hA;have pa2:=o2 hA
   cbv;refine zO hc ?_;refine aE hc rfl 100 (fun h=>?_) (fun h=>?_)
   ·skip
    have hB:i<M:=Int.ofNat_lt.1 (BE.lt_t h)
    have ex:(IE.den (.add (.add (.v cr) (.fn f 0 (.n i) 1 0)) (.fn f' 0 (.n i) 1 0)))=x:=by show((cr+(IE.fn f 0 (.n i) 1 0).den)+(IE.fn f' 0 (.n i) 1 0).den)=x;rw[hx,g1 hA,g2 hB]
    have er:(IE.den (.rem (.add (.add (.v cr) (.fn f 0 (.n i) 1 0)) (.fn f' 0 (.n i) 1 0)) (.l 1000000000)))=w0:=by show(IE.den (.add (.add (.v cr) (.fn f 0 (.n i) 1 0)) (.fn f' 0 (.n i) 1 0))).tmod 1000000000=w0;rw[ex,ew0]
    have eq:(IE.den (.quo (.add (.add (.v cr) (.fn f 0 (.n i) 1 0)) (.fn f' 0 (.n i) 1 0)) (.l 1000000000)))=c0:=by show(IE.den (.add (.add (.v cr) (.fn f 0 (.n i) 1 0)) (.fn f' 0 (.n i) 1 0))).tdiv 1000000000=c0;rw[ex,ec0]
    have rq:=cQ _ _ eq rc
    have rr:=cQ _ _ ex rx;have p1:=o1' hB;have p2:=o2' hB
    have hmx:=fun n' h=>(xS (.inl hA) n' h).1
    have hms:=fun n' h=>(xS (.inl hA) n' h).2
    cbv;refine zO hc ?_;refine eH hc _ rfl rfl rfl hG rfl rfl rfl rfl rfl rfl rfl rfl rfl cG hlb oC (fun a' n' aU l' hn' hl'=>?_);have hl':l'=out++[w0]:=hl'.trans (congrArg (fun z=>out++[z]) er)
    refine zN hc ?_;cbv;refine aQ hc (by repeat (first | exact trivial | exact q6 | refine⟨by first | assumption | exact q6,?_⟩)) ?_;exact zU 2 (S':=I ⟨(n',a',aU,l',c0),by rw[hn',hl',hni];exact cL,hmx n' hn'⟩) (K':=K) ⟨zS rfl rfl,zS rfl rfl,zS rfl rfl,zI rfl rfl eq,zI rfl rfl (hin n' hn'),trivial⟩ kf (kof _ _ _ _) (hy _ (hms n' hn'))
   ·skip
    have hB:¬i<M:=fun h'=>BE.lt_f h (Int.ofNat_lt.2 h')
    have ex:(IE.den (.add (.v cr) (.fn f 0 (.n i) 1 0)))=x:=by show(cr+(IE.fn f 0 (.n i) 1 0).den)=x;rw[hx,g1 hA,z2 hB];omega
    have er:(IE.den (.rem (.add (.v cr) (.fn f 0 (.n i) 1 0)) (.l 1000000000)))=w0:=by show(IE.den (.add (.v cr) (.fn f 0 (.n i) 1 0))).tmod 1000000000=w0;rw[ex,ew0]
    have eq:(IE.den (.quo (.add (.v cr) (.fn f 0 (.n i) 1 0)) (.l 1000000000)))=c0:=by show(IE.den (.add (.v cr) (.fn f 0 (.n i) 1 0))).tdiv 1000000000=c0;rw[ex,ec0]
    have rq:=cQ _ _ eq rc
    have hmx:=fun n' h=>(xS (.inl hA) n' h).1
    have hms:=fun n' h=>(xS (.inl hA) n' h).2
    cbv;refine zO hc ?_;refine eH hc _ rfl rfl rfl hG rfl rfl rfl rfl rfl rfl rfl rfl rfl cG hlb oC (fun a' n' aU l' hn' hl'=>?_);have hl':l'=out++[w0]:=hl'.trans (congrArg (fun z=>out++[z]) er)
    refine zN hc ?_;cbv;refine aQ hc (by repeat (first | exact trivial | exact q6 | refine⟨by first | assumption | exact q6,?_⟩)) ?_;exact zU 2 (S':=I ⟨(n',a',aU,l',c0),by rw[hn',hl',hni];exact cL,hmx n' hn'⟩) (K':=K) ⟨zS rfl rfl,zS rfl rfl,zS rfl rfl,zI rfl rfl eq,zI rfl rfl (hin n' hn'),trivial⟩ kf (kof _ _ _ _) (hy _ (hms n' hn'))
  ·exact absurd (Int.ofNat_lt.2 hA) (BE.lt_f h)
 ·have hA:¬i<N:=fun h'=>BE.lt_f h (Int.ofNat_lt.2 h')
  cbv;refine bU hc 19 rfl rfl 100 (fun h=>?_) (fun h=>?_)
  ·have hB:i<M:=Int.ofNat_lt.1 (BE.lt_t h)
   cbv;refine aE hc rfl 100 (fun h=>?_) (fun h=>?_)
   ·exact absurd (Int.ofNat_lt.1 (BE.lt_t h)) hA
   ·skip
    cbv;refine aE hc rfl 100 (fun h=>?_) (fun h=>?_)
    ·skip
     have ex:(IE.den (.add (.v cr) (.fn f' 0 (.n i) 1 0)))=x:=by show(cr+(IE.fn f' 0 (.n i) 1 0).den)=x;rw[hx,z1 hA,g2 hB];omega
     have er:(IE.den (.rem (.add (.v cr) (.fn f' 0 (.n i) 1 0)) (.l 1000000000)))=w0:=by show(IE.den (.add (.v cr) (.fn f' 0 (.n i) 1 0))).tmod 1000000000=w0;rw[ex,ew0]
     have eq:(IE.den (.quo (.add (.v cr) (.fn f' 0 (.n i) 1 0)) (.l 1000000000)))=c0:=by show(IE.den (.add (.v cr) (.fn f' 0 (.n i) 1 0))).tdiv 1000000000=c0;rw[ex,ec0]
     have rq:=cQ _ _ eq rc
     have rr:=cQ _ _ ex rx;have p1:=o1' hB;have p2:=o2' hB
     have hmx:=fun n' h=>(xS (.inr (.inl hB)) n' h).1
     have hms:=fun n' h=>(xS (.inr (.inl hB)) n' h).2
     cbv;refine zO hc ?_;refine eH hc _ rfl rfl rfl hG rfl rfl rfl rfl rfl rfl rfl rfl rfl cG hlb oC (fun a' n' aU l' hn' hl'=>?_);have hl':l'=out++[w0]:=hl'.trans (congrArg (fun z=>out++[z]) er)
     refine zN hc ?_;cbv;refine aQ hc (by repeat (first | exact trivial | exact q6 | refine⟨by first | assumption | exact q6,?_⟩)) ?_;exact zU 2 (S':=I ⟨(n',a',aU,l',c0),by rw[hn',hl',hni];exact cL,hmx n' hn'⟩) (K':=K) ⟨zS rfl rfl,zS rfl rfl,zS rfl rfl,zI rfl rfl eq,zI rfl rfl (hin n' hn'),trivial⟩ kf (kof _ _ _ _) (hy _ (hms n' hn'))
    ·exfalso
     exact BE.lt_f h (Int.ofNat_lt.2 hB)
  ·have hB:¬i<M:=fun h'=>BE.lt_f h (Int.ofNat_lt.2 h')
   cbv;refine aE hc rfl 100 (fun h=>?_) (fun h=>?_)
   ·have hC:0<cr:=BE.lt_t h
    cbv;refine aE hc rfl 100 (fun h=>?_) (fun h=>?_)
    ·exact absurd (Int.ofNat_lt.1 (BE.lt_t h)) hA
    ·skip
     cbv;refine aE hc rfl 100 (fun h=>?_) (fun h=>?_)
     ·exfalso
      exact hB (Int.ofNat_lt.1 (BE.lt_t h))
     ·skip
      have ex:(IE.den (.v cr))=x:=by show cr=x;rw[hx,z1 hA,z2 hB];omega
      have er:(IE.den (.rem (.v cr) (.l 1000000000)))=w0:=by show(IE.den (.v cr)).tmod 1000000000=w0;rw[ex,ew0]
      have eq:(IE.den (.quo (.v cr) (.l 1000000000)))=c0:=by show(IE.den (.v cr)).tdiv 1000000000=c0;rw[ex,ec0]
      have rq:=cQ _ _ eq rc
      have hmx:=fun n' h=>(xS (.inr (.inr hC)) n' h).1
      have hms:=fun n' h=>(xS (.inr (.inr hC)) n' h).2
      cbv;refine zO hc ?_;refine eH hc _ rfl rfl rfl hG rfl rfl rfl rfl rfl rfl rfl rfl rfl cG hlb oC (fun a' n' aU l' hn' hl'=>?_);have hl':l'=out++[w0]:=hl'.trans (congrArg (fun z=>out++[z]) er)
      refine zN hc ?_;cbv;refine aQ hc (by repeat (first | exact trivial | exact q6 | refine⟨by first | assumption | exact q6,?_⟩)) ?_;exact zU 2 (S':=I ⟨(n',a',aU,l',c0),by rw[hn',hl',hni];exact cL,hmx n' hn'⟩) (K':=K) ⟨zS rfl rfl,zS rfl rfl,zS rfl rfl,zI rfl rfl eq,zI rfl rfl (hin n' hn'),trivial⟩ kf (kof _ _ _ _) (hy _ (hms n' hn'))
   ·have hC:¬0<cr:=BE.lt_f h
    have he:=jT hA hB hC
    have hwd:=hM'.wd
    cbv;refine lZ (hG _ _ _ _) rfl rfl ?_;cbv;refine dZ (R:=R) hc kL (fun n0 D X μ a w aK H aJ=>?_) 100 ?_
    ·obtain⟨v1,rfl,h1⟩:=aV aJ;simp only[aD]at h1;injection h1 with h1
     rw[←h1,hRR,←he];exact fQ hwd hlo H.xlt (H.cst (.head _))
    cbv;exact aS hc hR rfl (fun X μ a w v H hv=>H.toP.val (k:=2) (R:=R) (.head _) hv)
theorem aFo:aB PP 161:=zK
theorem aQr {v u:Value}{X:Nat→Prop}{w:World}{n m:Nat}(hnm:m≤n)(hbn:(aC n).length<2^39)(hX:∀b,X b→b<w.heap.size)(hv:(aL n).p v X w)(hu:(aL m).p u X w):
  Fn PP 161 [v,u] X w (aL (n - m)):=by
 obtain⟨R,hRR⟩:=nm (aL (n - m));have hlm:=bV hnm
 obtain⟨K,hK⟩:=nm ([KF.cst v (aL n),KF.cst u (aL m)]);rw[←hRR];refine bE mixed tok [.q v,.q u] (K:=K) Tryz.func161 rfl rfl (lbl rfl) rfl hX (by subst hK;simp;exact⟨hv,hu⟩) fun c hc hR=>?_
 refine cW 0 .u32 (aC n) rfl rfl (fun X μ a w v' H hv'=>cA H (by simp[hK]) hv') fun f N cap hN hf dH=>?_
 refine cW 1 .u32 (aC m) rfl rfl (fun X μ a w v' H hv'=>cA H (by simp[hK]) hv') fun f' M aU hM hf' fW=>?_
 have hfw:∀i,i<N→f i=(aC n).getD i 0:=fun i hi=>by
  have:=List.getElem?_eq_getElem (l:=aC n) (i:=i) (by omega)
  rw[hf i _ this,List.getD_eq_getElem?_getD,this];rfl
 have aAn:∀i,i<M→f' i=(aC m).getD i 0:=fun i hi=>by
  have:=List.getElem?_eq_getElem (l:=aC m) (i:=i) (by omega)
  rw[hf' i _ this,List.getD_eq_getElem?_getD,this];rfl
 have hge:∀i,N≤i→(aC n).getD i 0=0:=fun i hi=>by rw[List.getD_eq_getElem?_getD,List.getElem?_eq_none (by omega)];rfl
 have aPx:∀i,M≤i→(aC m).getD i 0=0:=fun i hi=>by rw[List.getD_eq_getElem?_getD,List.getElem?_eq_none (by omega)];rfl
 have hNb:N<2^39:=by omega
 have hMb:M<2^39:=by omega
 have kf:jY 2 K K:=by subst hK;exact⟨⟨.head _,KFr.cst _ _ _⟩,⟨.tail _ (.head _),KFr.cst _ _ _⟩,trivial⟩
 refine zN hc ?_;cbv;obtain⟨G,hG⟩:∃G:Option Addr→Nat→Nat→List Int→OF,∀a n cap l,G a n cap l=OF.row (.slice a n cap) c.B.heap.size 138 .u32 l:=⟨fun a n cap l=>OF.row (.slice a n cap) c.B.heap.size 138 .u32 l,fun _ _ _ _=>rfl⟩;have kof:∀a i cp out,yY 2 [G a i cp out]:=fun a i cp out=>⟨by rw[hG];exact OFr.row _ _ _ _ _ _,trivial⟩
 refine rI hG rfl ?_;cbv;let ι:={x:Nat × Option Addr × Nat × List Int × Int//Mrg n m (-1) x.1 x.2.2.2.1 x.2.2.2.2∧x.1≤N}
 let I:ι→St:=fun x=>⟨[(0,.sl 0 0 (.n N) cap),(1,.sl 1 0 (.n M) aU),(5,.xs x.1.2.1 x.1.1 x.1.2.2.1),(6,.i .i64 (.sub (.l 0) (.v x.1.2.2.2.2))),(7,.i .i64 (.n x.1.1))],[.xi .u32 N f,.xi .u32 M f'],[G x.1.2.1 x.1.1 x.1.2.2.1 x.1.2.2.2.1]⟩
 let x0:ι:=⟨(0,none,0,[],0),Mrg.init (.inr rfl),Nat.zero_le _⟩
 refine zU 2 (S':=I x0) (K':=K) ⟨zS rfl rfl,zS rfl rfl,zS rfl rfl,zS rfl rfl,zS rfl rfl,trivial⟩ kf (kof _ _ _ _) ?_;refine bQ hc I (fun x=>N - x.1.1) x0 100 ?_;rintro pp ⟨⟨i,a,cp,out,cr⟩,hM',hiN⟩ hy;have hcr:=hM'.c
 have hlen:=hM'.len
 simp only at hM' hiN hcr hlen;have hga:=bA (bF n) i
 have hgb:=bA (bF m) i
 obtain⟨ga,gI⟩:=nm ((aC n).getD i 0);obtain⟨gb,kT⟩:=nm ((aC m).getD i 0);rw[←gI]at hga;rw[←kT]at hgb;obtain⟨x,hx⟩:=nm (cr+ga - gb);have hxb:x=cr+(aC n).getD i 0+(-1)*(aC m).getD i 0:=by rw[hx,gI,kT];omega
 have aPw:-1≤cr∧cr≤0:=by omega
 have hx0:-1000000000≤x∧x<1000000000:=by omega
 have cL:=hM'.step hxb
 have aEm:x<0→x%1000000000=x+1000000000∧x/1000000000=-1:=fun h=>by omega
 have wS:¬x<0→x%1000000000=x∧x/1000000000=0:=fun h=>by omega
 have hix:aX 0 (IE.n i).den 1 0=i:=by simp only[aX,IE.den];omega
 have g1:i<N→(IE.fn f 0 (.n i) 1 0).den=ga:=fun h=>by show f (aX 0 (IE.n i).den 1 0)=ga;rw[hix,hfw i h,gI]
 have g2:i<M→(IE.fn f' 0 (.n i) 1 0).den=gb:=fun h=>by show f' (aX 0 (IE.n i).den 1 0)=gb;rw[hix,aAn i h,kT]
 have z2:¬i<M→gb=0:=fun h=>by rw[kT,aPx i (by omega)]
 have o1:i<N→(Obl.ltE (IE.n i) (IE.n N)).ok:=fun h=>by show _∧_;simp only[IE.den];omega
 have o2:i<N→(Obl.ix 0 (IE.n i) 1 0 1 N).ok:=fun h=>by show _≤_;rw[hix];omega
 have o1':i<M→(Obl.ltE (IE.n i) (IE.n M)).ok:=fun h=>by show _∧_;simp only[IE.den];omega
 have o2':i<M→(Obl.ix 0 (IE.n i) 1 0 1 M).ok:=fun h=>by show _≤_;rw[hix];omega
 have cQ:∀(k:IntKind) (e:IE) (z:Int),e.den=z→lo k≤z∧z≤hi k→(Obl.inR k e).ok:=fun k e z he hz=>by show _∧_;rw[he];exact hz
 have r0:lo .i64≤ga∧ga≤hi .i64:=by simp only[lo,hi];omega
 have r1:lo .i64≤cr+ga∧cr+ga≤hi .i64:=by simp only[lo,hi];omega
 have r2:lo .i64≤gb∧gb≤hi .i64:=by simp only[lo,hi];omega
 have r3:lo .i64≤x∧x≤hi .i64:=by simp only[lo,hi];omega
 have r4:lo .i64≤x+1000000000∧x+1000000000≤hi .i64:=by simp only[lo,hi];omega
 have r5:x<0→lo .u32≤x+1000000000∧x+1000000000≤hi .u32:=fun h=>by simp only[lo,hi];omega
 have r6:¬x<0→lo .u32≤x∧x≤hi .u32:=fun h=>by simp only[lo,hi];omega
 have hlb:(out.length+1)*4≤140737488355328:=by omega
 have oC:out.length+1≤9223372036854775807:=by omega
 have q6:lo .i64≤(i:Int)+1∧(i:Int)+1≤hi .i64:=by simp only[lo,hi];omega
 have hin:∀n',n'=out.length+1→(i:Int)+1=(n':Int):=fun n' h=>by omega
 have hni:out.length+1=i+1:=by omega
 have hmx:i<N→∀n',n'=out.length+1→n'≤N:=fun h n' hn'=>by omega
 have hms:i<N→∀n',n'=out.length+1→N - n'<N - i:=fun h n' hn'=>by omega
 have jT:¬i<N→(val out).toNat=n - m:=fun h1=>by
  obtain⟨d1,d2,_⟩:=hM'.done (by omega) (by omega);have:=d2 (by omega)
  omega
 have hlo:out.length≤2^40:=by omega
 cbv;refine aE hc rfl 100 (fun h=>?_) (fun h=>?_)
 ·have hA:i<N:=Int.ofNat_lt.1 (BE.lt_t h)
  have e0:(IE.sub (.fn f 0 (.n i) 1 0) (.sub (.l 0) (.v cr))).den=cr+ga:=by show(IE.fn f 0 (.n i) 1 0).den - (0 - cr)=_;rw[g1 hA];omega
  have p0:=cQ .i64 _ _ (g1 hA) r0
  have p1:=cQ .i64 _ _ e0 r1
  have p2:=o1 hA
  have p3:=o2 hA
  have q6':(Obl.inR .i64 (.add (.n i) (.l 1))).ok:=q6
  have hmx:=hmx hA
  have hms:=hms hA
  cbv;refine zO hc ?_;refine aE hc rfl 100 (fun h=>?_) (fun h=>?_)
  ·skip
   have hB:i<M:=Int.ofNat_lt.1 (BE.lt_t h)
   have ex:(IE.den (.sub (.sub (.fn f 0 (.n i) 1 0) (.sub (.l 0) (.v cr))) (.fn f' 0 (.n i) 1 0)))=x:=by show(IE.den (.sub (.fn f 0 (.n i) 1 0) (.sub (.l 0) (.v cr)))) - (IE.fn f' 0 (.n i) 1 0).den=x;rw[e0,g2 hB,hx]
   have p4:=o1' hB;have p5:=o2' hB;have p6:=cQ .i64 _ _ (g2 hB) r2;have p7:=cQ .i64 _ _ ex r3
   cbv;refine zO hc ?_;refine aE hc rfl 100 (fun h=>?_) (fun h=>?_)
   ·have hx2:x<0:=by have:=BE.lt_t h;rwa [ex]at this
    have hs:=cL
    rw[(aEm hx2).1,(aEm hx2).2]at hs;have ew:(IE.den (.add (.sub (.sub (.fn f 0 (.n i) 1 0) (.sub (.l 0) (.v cr))) (.fn f' 0 (.n i) 1 0)) (.l 1000000000)))=x+1000000000:=by show(IE.den (.sub (.sub (.fn f 0 (.n i) 1 0) (.sub (.l 0) (.v cr))) (.fn f' 0 (.n i) 1 0)))+1000000000=_;rw[ex]
    have p8:=cQ .i64 _ _ ew r4;have p9:=cQ .u32 _ _ ew (r5 hx2)
    cbv;refine zO hc ?_;refine eH hc _ rfl rfl rfl hG rfl rfl rfl rfl rfl rfl rfl rfl rfl cG hlb oC (fun a' n' aU l' hn' hl'=>?_);have hl':l'=out++[x+1000000000]:=hl'.trans (congrArg (fun z=>out++[z]) ew)
    refine zN hc ?_;cbv;refine zO hc ?_;exact zU 2 (S':=I ⟨(n',a',aU,l',-1),by rw[hn',hl',hni];exact hs,hmx n' hn'⟩) (K':=K) ⟨zS rfl rfl,zS rfl rfl,zS rfl rfl,zS rfl rfl,zI rfl rfl (hin n' hn'),trivial⟩ kf (kof _ _ _ _) (hy _ (hms n' hn'))
   ·have hx2:¬x<0:=by have:=BE.lt_f h;rwa [ex]at this
    have hs:=cL
    rw[(wS hx2).1,(wS hx2).2]at hs;have ew:(IE.den (.sub (.sub (.fn f 0 (.n i) 1 0) (.sub (.l 0) (.v cr))) (.fn f' 0 (.n i) 1 0)))=x:=ex
    have p9:=cQ .u32 _ _ ew (r6 hx2)
    cbv;refine zO hc ?_;refine eH hc _ rfl rfl rfl hG rfl rfl rfl rfl rfl rfl rfl rfl rfl cG hlb oC (fun a' n' aU l' hn' hl'=>?_);have hl':l'=out++[x]:=hl'.trans (congrArg (fun z=>out++[z]) ew)
    refine zN hc ?_;cbv;refine zO hc ?_;exact zU 2 (S':=I ⟨(n',a',aU,l',0),by rw[hn',hl',hni];exact hs,hmx n' hn'⟩) (K':=K) ⟨zS rfl rfl,zS rfl rfl,zS rfl rfl,zS rfl rfl,zI rfl rfl (hin n' hn'),trivial⟩ kf (kof _ _ _ _) (hy _ (hms n' hn'))
  ·skip
   have hB:¬i<M:=fun h'=>BE.lt_f h (Int.ofNat_lt.2 h')
   have ex:(IE.den (.sub (.fn f 0 (.n i) 1 0) (.sub (.l 0) (.v cr))))=x:=by rw[e0,hx,z2 hB];omega
   cbv;refine aE hc rfl 100 (fun h=>?_) (fun h=>?_)
   ·have hx2:x<0:=by have:=BE.lt_t h;rwa [ex]at this
    have hs:=cL
    rw[(aEm hx2).1,(aEm hx2).2]at hs;have ew:(IE.den (.add (.sub (.fn f 0 (.n i) 1 0) (.sub (.l 0) (.v cr))) (.l 1000000000)))=x+1000000000:=by show(IE.den (.sub (.fn f 0 (.n i) 1 0) (.sub (.l 0) (.v cr))))+1000000000=_;rw[ex]
    have p8:=cQ .i64 _ _ ew r4;have p9:=cQ .u32 _ _ ew (r5 hx2)
    cbv;refine zO hc ?_;refine eH hc _ rfl rfl rfl hG rfl rfl rfl rfl rfl rfl rfl rfl rfl cG hlb oC (fun a' n' aU l' hn' hl'=>?_);have hl':l'=out++[x+1000000000]:=hl'.trans (congrArg (fun z=>out++[z]) ew)
    refine zN hc ?_;cbv;refine zO hc ?_;exact zU 2 (S':=I ⟨(n',a',aU,l',-1),by rw[hn',hl',hni];exact hs,hmx n' hn'⟩) (K':=K) ⟨zS rfl rfl,zS rfl rfl,zS rfl rfl,zS rfl rfl,zI rfl rfl (hin n' hn'),trivial⟩ kf (kof _ _ _ _) (hy _ (hms n' hn'))
   ·have hx2:¬x<0:=by have:=BE.lt_f h;rwa [ex]at this
    have hs:=cL
    rw[(wS hx2).1,(wS hx2).2]at hs;have ew:(IE.den (.sub (.fn f 0 (.n i) 1 0) (.sub (.l 0) (.v cr))))=x:=ex
    have p9:=cQ .u32 _ _ ew (r6 hx2)
    cbv;refine zO hc ?_;refine eH hc _ rfl rfl rfl hG rfl rfl rfl rfl rfl rfl rfl rfl rfl cG hlb oC (fun a' n' aU l' hn' hl'=>?_);have hl':l'=out++[x]:=hl'.trans (congrArg (fun z=>out++[z]) ew)
    refine zN hc ?_;cbv;refine zO hc ?_;exact zU 2 (S':=I ⟨(n',a',aU,l',0),by rw[hn',hl',hni];exact hs,hmx n' hn'⟩) (K':=K) ⟨zS rfl rfl,zS rfl rfl,zS rfl rfl,zS rfl rfl,zI rfl rfl (hin n' hn'),trivial⟩ kf (kof _ _ _ _) (hy _ (hms n' hn'))
 ·have hA:¬i<N:=fun h'=>BE.lt_f h (Int.ofNat_lt.2 h')
  have he:=jT hA
  have hwd:=hM'.wd
  cbv;refine lZ (hG _ _ _ _) rfl rfl ?_;cbv;refine dZ (R:=R) hc kL (fun n0 D X μ a w aK H aJ=>?_) 100 ?_
  ·obtain⟨v1,rfl,h1⟩:=aV aJ;simp only[aD]at h1;injection h1 with h1
   rw[←h1,hRR,←he];exact fQ hwd hlo H.xlt (H.cst (.head _))
  cbv;exact aS hc hR rfl (fun X μ a w v H hv=>H.toP.val (k:=2) (R:=R) (.head _) hv)
theorem aUo:aB PP 162:=zK
theorem oby {v:Value}{X:Nat→Prop}{w:World}{n m:Nat}(hm0:0<m)(hm1:m<1000000000)(hbn:(aC n).length≤2^39)(hX:∀b,X b→b<w.heap.size)(hv:(aL n).p v X w):
  Fn PP 162 [v,.int .u32 (m:Int)] X w (iE (aL (n/m)) (dI (.int .u32 (n%m:Nat)))):=by
 have hmI:0<(m:Int)∧(m:Int)<1000000000:=by omega
 obtain⟨R1,hR1⟩:∃R,R=aL (n/m):=⟨_,rfl⟩;obtain⟨R2,hR2⟩:∃R,R=dI (.int .u32 (n%m:Nat)):=⟨_,rfl⟩;obtain⟨R,hRR⟩:=nm (iE (aL (n/m)) (dI (.int .u32 (n%m:Nat))));obtain⟨K,hK⟩:=nm ([KF.cst v (aL n)]);rw[←hRR];refine bE mixed tok [.q v,.i .u32 (.n m)] (K:=K) Tryz.func162 rfl rfl (lbl rfl) rfl hX (by subst hK;simp;exact hv) fun c hc hR=>?_
 refine cW 0 .u32 (aC n) rfl rfl (fun X μ a w v' H hv'=>cA H (by simp[hK]) hv') fun f N cap hN hf dH=>?_
 have hfw:∀i,i<N→f i=(aC n).getD i 0:=fun i hi=>by
  have:=List.getElem?_eq_getElem (l:=aC n) (i:=i) (by omega)
  rw[hf i _ this,List.getD_eq_getElem?_getD,this];rfl
 have hbN:N≤2^39:=by omega
 have kf:∀q,jY q K K:=fun q=>by subst hK;exact⟨⟨.head _,KFr.cst _ _ _⟩,trivial⟩
 have cQ:∀(kd:IntKind) (e:IE) (z:Int),e.den=z→lo kd≤z∧z≤hi kd→(Obl.inR kd e).ok:=fun kd e z he hz=>by show _∧_;rw[he];exact hz
 have q0:(Obl.inR .i64 ((IE.n N).sub (IE.l 1))).ok:=cQ _ _ ((N:Int) - 1) rfl (by simp only[lo,hi];omega)
 refine zN hc ?_;cbv;refine pO hc _ rfl rfl rfl .u32 rfl rfl rfl rfl rfl rfl rfl cG ?_ ?_ ?_ (fun T z hT hz=>?_)
 ·simp only[IE.den];omega
 ·simp only[IE.den];omega
 ·simp only[IE.den];omega
 have hT:T=N:=by simp only[IE.den]at hT;omega
 subst hT;have hz0:z=List.replicate (aC n).length 0:=by rw[hz,hN]
 have dv0:Dv n m T z 0:=by rw[hz0,hN];exact Dv.init (by omega)
 refine zN hc ?_;cbv;refine aQ hc ⟨q0,trivial⟩ ?_;let ι:={x:Nat × List Int × Int//Dv n m x.1 x.2.1 x.2.2∧x.1≤T}
 let I:ι→St:=fun x=>⟨[(0,.sl 0 0 (.n T) cap),(1,.i .u32 (.n m)),(6,.sl 1 0 (.n T) T),(7,.i .u64 (.v x.1.2.2)),(8,.i .i64 (.sub (.n x.1.1) (.l 1)))],[.xi .u32 T f,.r 138 .u32 x.1.2.1],[]⟩
 let x0:ι:=⟨(T,z,0),dv0,lRf _⟩
 refine zU 2 (S':=I x0) (K':=K) ⟨zS rfl rfl,zS rfl rfl,zS rfl rfl,zS rfl rfl,zS rfl rfl,trivial⟩ (kf _) trivial ?_;refine bQ hc I (fun x=>x.1.1) x0 100 ?_;rintro p ⟨⟨k,out,rest⟩,hD,hk⟩ hy;simp only at hD hk;have hlen:=hD.len
 have hrs:=hD.r
 cbv;refine aE hc rfl 100 (fun h=>?_) (fun h=>?_)
 ·have h:(0:Int)≤(k:Int) - 1:=BE.le_t h
  obtain⟨q,hq⟩:∃q,q+1=k:=⟨k - 1,by omega⟩;have hqT:q<T:=by omega
  have hqk:q<k:=by omega
  have hga:=bA (bF n) q
  obtain⟨ga,gI⟩:=nm ((aC n).getD q 0);rw[←gI]at hga;obtain⟨x,hx⟩:=nm (rest*1000000000+ga);obtain⟨x',hx'⟩:=nm (x/(m:Int));obtain⟨r',hr'⟩:=nm (x%(m:Int));obtain⟨hst,hb1,hb2⟩:=Dv.step (x:=x) (q:=q) (by rw[hq];exact hD) hmI.2 (by omega) (by rw[hx,gI]);rw[←hx']at hst hb1 hb2;rw[←hr']at hst;have hxb:0≤x∧x≤1000000000000000000:=by omega
  have hix:aX 0 ((IE.n k).sub (IE.l 1)).den 1 0=q:=by simp only[aX,IE.den];omega
  have g1:(IE.fn f 0 ((IE.n k).sub (IE.l 1)) 1 0).den=ga:=by show f (aX 0 ((IE.n k).sub (IE.l 1)).den 1 0)=ga;rw[hix,hfw q hqT,gI]
  have m1:((IE.v rest).mul (IE.l 1000000000)).den=rest*1000000000:=rfl
  have a1:(((IE.v rest).mul (IE.l 1000000000)).add (IE.fn f 0 ((IE.n k).sub (IE.l 1)) 1 0)).den=x:=by show rest*1000000000+(IE.fn f 0 ((IE.n k).sub (IE.l 1)) 1 0).den=x;rw[g1,hx]
  have d1:((((IE.v rest).mul (IE.l 1000000000)).add (IE.fn f 0 ((IE.n k).sub (IE.l 1)) 1 0)).quo (IE.n m)).den=x':=by
   show(((IE.v rest).mul (IE.l 1000000000)).add (IE.fn f 0 ((IE.n k).sub (IE.l 1)) 1 0)).den.tdiv (m:Int)=x'
   rw[a1,Int.tdiv_eq_ediv_of_nonneg hxb.1,hx']
  have r1:((((IE.v rest).mul (IE.l 1000000000)).add (IE.fn f 0 ((IE.n k).sub (IE.l 1)) 1 0)).rem (IE.n m)).den=r':=by
   show(((IE.v rest).mul (IE.l 1000000000)).add (IE.fn f 0 ((IE.n k).sub (IE.l 1)) 1 0)).den.tmod (m:Int)=r'
   rw[a1,Int.tmod_eq_emod_of_nonneg hxb.1,hr']
  have p1:=cQ .u64 _ _ m1 (by simp only[lo,hi];omega)
  have p2:(Obl.ltE ((IE.n k).sub (IE.l 1)) (IE.n T)).ok:=by show _∧_;simp only[IE.den];omega
  have p3:(Obl.ix 0 ((IE.n k).sub (IE.l 1)) 1 0 1 T).ok:=by show _≤_;rw[hix];omega
  have p4:=cQ .u64 _ _ g1 (by simp only[lo,hi];omega)
  have p5:=cQ .u64 _ _ a1 (by simp only[lo,hi];omega)
  have nzm:(Obl.nz (IE.n m)).ok:=by show(m:Int)≠0;omega
  have pm:(Obl.inR .u64 (.n m)).ok:=cQ _ _ (m:Int) rfl (by simp only[lo,hi];omega)
  have p6:=cQ .u64 _ _ d1 (by simp only[lo,hi];omega)
  have p7:=cQ .u32 _ _ d1 (by simp only[lo,hi];omega)
  have hlt:aX 0 ((IE.n k).sub (IE.l 1)).den 1 0<out.length:=by rw[hix,hlen];omega
  have p8:(Obl.inR .i64 (((IE.n k).sub (IE.l 1)).sub (IE.l 1))).ok:=cQ _ _ ((k:Int) - 1 - 1) rfl (by simp only[lo,hi];omega)
  have s1:(((IE.n k).sub (IE.l 1)).sub (IE.l 1)).den=((IE.n q).sub (IE.l 1)).den:=by simp only[IE.den];omega
  have aW8:q≤T:=by omega
  cbv;refine zO hc ?_;refine iP hc _ rfl rfl (r:=(1,138,.u32,out,aX 0 ((IE.n k).sub (IE.l 1)).den 1 0,((((IE.v rest).mul (IE.l 1000000000)).add (IE.fn f 0 ((IE.n k).sub (IE.l 1)) 1 0)).quo (IE.n m)))) rfl hlt (fun l' hl'=>?_);have hl':l'=out.set q x':=by rw[hl',←hix,←d1]
  have hst:Dv n m q l' r':=by rw[hl'];exact hst
  refine zN hc ?_;cbv;refine zO hc ?_;refine zU 2 (S':=I ⟨(q,l',r'),hst,aW8⟩) (K':=K) ⟨zS rfl rfl,zS rfl rfl,zS rfl rfl,zI rfl rfl r1,zI rfl rfl s1,trivial⟩ (kf _) trivial (hy _ hqk)
 ·have h:¬(0:Int)≤(k:Int) - 1:=BE.le_f h
  have hk0:k=0:=by omega
  have hD:Dv n m 0 out rest:=by rw[←hk0];exact hD
  obtain⟨e1,e2⟩:=hD.done;have hlb:out.length≤2^40:=by omega
  have jV:out.length=T:=by rw[hlen,hN]
  have hrm:=Int.lt_trans hrs.2 hmI.2
  have pr:(Obl.inR .u32 (.v rest)).ok:=cQ _ _ rest rfl (by simp only[lo,hi];exact⟨hrs.1,by omega⟩)
  have hr2:rest=((n%m:Nat):Int):=by rw[←e2];exact(Int.toNat_of_nonneg hrs.1).symm
  cbv;refine oJ 1 rfl rfl (fun g N' hN' hg=>?_);refine dZ (R:=R1) hc kL (fun n0 D X μ a w aK H aJ=>?_) 100 ?_
  ·obtain⟨v1,rfl,h1⟩:=aV aJ;have h2:=H.row (l:=out) rfl h1 (by rw[jV];rfl) (fun j y hj=>by rw[Nat.zero_add];exact hg j y hj) (by omega) (by omega)
   rw[hR1,←e1];exact fQ hD.wd hlb H.xlt h2
  cbv;refine zO hc ?_;refine aS hc hR rfl (fun X μ a w v H hv=>?_);simp only[aD]at hv;split at hv
  ·rename_i vs hvs;injection hv with hv
   obtain⟨v1,v2,rfl,h1,h2⟩:=bL hvs;have k1:=H.toP.val (k:=2) (R:=R1) (.head _) h1
   simp only[aD,IE.den]at h2;injection h2 with h2
   rw[hRR,←hv];exact⟨v1,v2,rfl,by rw[hR1]at k1;exact k1,by rw[←h2,hr2];rfl⟩
  ·cases hv
theorem qH:aB PP 64:=zK
theorem aAy {v u:Value}{X:Nat→Prop}{w:World}{n m:Nat}(hbn:(aC n).length≤2^39)(hbm:(aC m).length≤2^39)(hX:∀b,X b→b<w.heap.size)(hv:(aL n).p v X w)(hu:(aL m).p u X w):
  Fn PP 64 [v,u] X w (aL (n*m)):=by
 obtain⟨R,hRR⟩:=nm (aL (n*m));obtain⟨K,hK⟩:=nm ([KF.cst v (aL n),KF.cst u (aL m)]);rw[←hRR];refine bE mixed tok [.q v,.q u] (K:=K) Tryz.func64 rfl rfl (lbl rfl) rfl hX (by subst hK;simp;exact⟨hv,hu⟩) fun c hc hR=>?_
 refine cW 0 .u32 (aC n) rfl rfl (fun X μ a w v' H hv'=>cA H (by simp[hK]) hv') fun f N cap hN hf dH=>?_
 refine cW 1 .u32 (aC m) rfl rfl (fun X μ a w v' H hv'=>cA H (by simp[hK]) hv') fun f' M aU hM hf' fW=>?_
 have hfw:∀i,i<N→f i=(aC n).getD i 0:=fun i hi=>by
  have:=List.getElem?_eq_getElem (l:=aC n) (i:=i) (by omega)
  rw[hf i _ this,List.getD_eq_getElem?_getD,this];rfl
 have aAn:∀i,i<M→f' i=(aC m).getD i 0:=fun i hi=>by
  have:=List.getElem?_eq_getElem (l:=aC m) (i:=i) (by omega)
  rw[hf' i _ this,List.getD_eq_getElem?_getD,this];rfl
 have hbN:N≤2^39:=by omega
 have hbM:M≤2^39:=by omega
 have kf:∀q,jY q K K:=fun q=>by subst hK;exact⟨⟨.head _,KFr.cst _ _ _⟩,⟨.tail _ (.head _),KFr.cst _ _ _⟩,trivial⟩
 have cQ:∀(kd:IntKind) (e:IE) (z:Int),e.den=z→lo kd≤z∧z≤hi kd→(Obl.inR kd e).ok:=fun kd e z he hz=>by show _∧_;rw[he];exact hz
 have nz:(Obl.nz (IE.l 1000000000)).ok:=by show _≠_;simp[IE.den]
 have q0:(Obl.inR .i64 ((IE.n N).add (IE.n M))).ok:=cQ _ _ ((N:Int)+M) rfl (by simp only[lo,hi];omega)
 have aZ2:N=0∨M=0→∀{X:Nat→Prop} {w:World},(lA .u32 (aC (n*m))).p (.slice none 0 0) X w:=fun h X w=>by
  have e:n*m=0:=by
   rcases h with h | h
   ·have:n=0:=by
     apply Classical.byContradiction;intro hn;have:=bY hn
     rw[this]at hN;simp at hN;omega
    rw[this,Nat.zero_mul]
   ·have:m=0:=by
     apply Classical.byContradiction;intro hn;have:=bY hn
     rw[this]at hM;simp at hM;omega
    rw[this,Nat.mul_zero]
  rw[e,bS];exact⟨none,0,rfl,by simp,rfl,rfl⟩
 have fnil:N=0∨M=0→∀{X:Nat→Prop} {w:World} {μ:Mu} {v:Value},aD μ (.xs none 0 0)=some v→R.p v X w:=fun h X w μ v hv=>by
  simp only[aD]at hv;injection hv with hv
  rw[hRR,←hv];exact aZ2 h
 refine zN hc ?_;cbv;refine bU hc 13 rfl rfl 100 (fun h=>?_) (fun h=>?_)
 ·have h0:N=0:=by have:=of_decide_eq_true (show decide ((N:Int)=0)=true from h);omega
  cbv;exact aS hc hR rfl (fun X μ a w v H hv=>fnil (.inl h0) (μ:=μ) hv)
 cbv;refine aE hc rfl 100 (fun h=>?_) (fun h=>?_)
 ·have h0:M=0:=by have:=of_decide_eq_true (show decide ((M:Int)=0)=true from h);omega
  cbv;exact aS hc hR rfl (fun X μ a w v H hv=>fnil (.inr h0) (μ:=μ) hv)
 cbv;refine aQ hc ⟨q0,trivial⟩ ?_;refine pO hc _ rfl rfl rfl .u32 rfl rfl rfl rfl rfl rfl rfl cG ?_ ?_ ?_ (fun T z hT hz=>?_)
 ·simp only[IE.den];omega
 ·simp only[IE.den];omega
 ·simp only[IE.den];omega
 have hT:T=N+M:=by simp only[IE.den]at hT;omega
 have hz0:z=List.replicate ((aC n).length+(aC m).length) 0:=by rw[hz,hT,hN,hM]
 have mul0:Mul n m 0 0 z 0:=by rw[hz0];exact Mul.init
 refine zN hc ?_;cbv;let ι:={x:Nat × List Int//Mul n m x.1 0 x.2 0∧x.1≤N}
 let I:ι→St:=fun x=>⟨[(0,.sl 0 0 (.n N) cap),(1,.sl 1 0 (.n M) aU),(5,.sl 2 0 (.n T) T),(6,.i .i64 (.n x.1.1))],[.xi .u32 N f,.xi .u32 M f',.r 138 .u32 x.1.2],[]⟩
 let x0:ι:=⟨(0,z),mul0,Nat.zero_le _⟩
 refine zU 3 (S':=I x0) (K':=K) ⟨zS rfl rfl,zS rfl rfl,zS rfl rfl,zS rfl rfl,trivial⟩ (kf _) trivial ?_;refine bQ hc I (fun x=>N - x.1.1) x0 100 ?_;rintro p ⟨⟨i,out⟩,hMu,aPy⟩ hy;simp only at hMu aPy;have hlen:=hMu.len
 cbv;refine aE hc rfl 100 (fun h=>?_) (fun h=>?_)
 ·have h:(i:Int)<(N:Int):=BE.lt_t h
  have hiN:i<N:=Int.ofNat_lt.1 h
  have hga:=bA (bF n) i
  obtain⟨ga,gI⟩:=nm ((aC n).getD i 0);rw[←gI]at hga;have hix:aX 0 (IE.n i).den 1 0=i:=by simp only[aX,IE.den];omega
  have g1:(IE.fn f 0 (IE.n i) 1 0).den=ga:=by show f (aX 0 (IE.n i).den 1 0)=ga;rw[hix,hfw i hiN,gI]
  have o1:(Obl.ltE (IE.n i) (IE.n N)).ok:=by show _∧_;simp only[IE.den];omega
  have o2:(Obl.ix 0 (IE.n i) 1 0 1 N).ok:=by show _≤_;rw[hix];omega
  let κ:={x:Nat × List Int × Int//Mul n m i x.1 x.2.1 x.2.2∧x.1≤M}
  let J:κ→St:=fun x=>⟨[(0,.sl 0 0 (.n N) cap),(1,.sl 1 0 (.n M) aU),(5,.sl 2 0 (.n T) T),(6,.i .i64 (.n i)),(7,.i .u64 (.v x.1.2.2)),(8,.i .i64 (.n x.1.1))],[.xi .u32 N f,.xi .u32 M f',.r 138 .u32 x.1.2.1],[]⟩
  let y0:κ:=⟨(0,out,0),hMu,Nat.zero_le _⟩
  cbv;refine zU 3 (S':=J y0) (K':=K) ⟨zS rfl rfl,zS rfl rfl,zS rfl rfl,zS rfl rfl,zS rfl rfl,zS rfl rfl,trivial⟩ (kf _) trivial ?_;refine bQ hc J (fun x=>M - x.1.1) y0 100 ?_;rintro p' ⟨⟨k,ot,cr⟩,hMk,hk⟩ hyk;simp only at hMk hk;have hlk:=hMk.len
  have hcr:=hMk.c
  cbv;refine aE hc rfl 100 (fun h=>?_) (fun h=>?_)
  ·have h:(k:Int)<(M:Int):=BE.lt_t h
   have hkM:k<M:=Int.ofNat_lt.1 h
   have hgb:=bA (bF m) k
   obtain⟨gb,kT⟩:=nm ((aC m).getD k 0);rw[←kT]at hgb;have hog:=bA hMk.wd (i+k)
   obtain⟨og,aAp⟩:=nm (ot.getD (i+k) 0);rw[←aAp]at hog;obtain⟨pr,hpr⟩:=nm (ga*gb);have aZ8:0≤pr∧pr≤999999999*999999999:=by
    rw[hpr];exact⟨Int.mul_nonneg hga.1 hgb.1,Int.mul_le_mul (by omega) (by omega) hgb.1 (by omega)⟩
   obtain⟨x2,hx2⟩:=nm (cr+(pr+og));have aBv:0≤x2∧x2≤999999998000000001+1999999998:=by omega
   obtain⟨c0,hc0⟩:=nm (x2/1000000000);obtain⟨k',hk'⟩:=nm (k+1);have hst:=hMk.step (x:=x2) (by omega) (by omega) (by rw[hx2,hpr,gI,kT,aAp])
   rw[←hc0,←hk']at hst;have aGj:aX 0 (IE.n k).den 1 0=k:=by simp only[aX,IE.den];omega
   have hik:aX 0 ((IE.n i).add (IE.n k)).den 1 0=i+k:=by simp only[aX,IE.den];omega
   have g2:(IE.fn f' 0 (IE.n k) 1 0).den=gb:=by show f' (aX 0 (IE.n k).den 1 0)=gb;rw[aGj,aAn k hkM,kT]
   have g3:(IE.nth ot 0 ((IE.n i).add (IE.n k)) 1 0).den=og:=by show ot.getD (aX 0 ((IE.n i).add (IE.n k)).den 1 0) 0=og;rw[hik,aAp]
   have m1:((IE.fn f 0 (IE.n i) 1 0).mul (IE.fn f' 0 (IE.n k) 1 0)).den=pr:=by show(IE.fn f 0 (IE.n i) 1 0).den*(IE.fn f' 0 (IE.n k) 1 0).den=pr;rw[g1,g2,hpr]
   have a1:((IE.nth ot 0 ((IE.n i).add (IE.n k)) 1 0).add ((IE.fn f 0 (IE.n i) 1 0).mul (IE.fn f' 0 (IE.n k) 1 0))).den=pr+og:=by show(IE.nth ot 0 ((IE.n i).add (IE.n k)) 1 0).den+((IE.fn f 0 (IE.n i) 1 0).mul (IE.fn f' 0 (IE.n k) 1 0)).den=_;rw[m1,g3];omega
   have a2:(((IE.nth ot 0 ((IE.n i).add (IE.n k)) 1 0).add ((IE.fn f 0 (IE.n i) 1 0).mul (IE.fn f' 0 (IE.n k) 1 0))).add (IE.v cr)).den=x2:=by show((IE.nth ot 0 ((IE.n i).add (IE.n k)) 1 0).add ((IE.fn f 0 (IE.n i) 1 0).mul (IE.fn f' 0 (IE.n k) 1 0))).den+cr=_;rw[a1,hx2];omega
   have r1:((((IE.nth ot 0 ((IE.n i).add (IE.n k)) 1 0).add ((IE.fn f 0 (IE.n i) 1 0).mul (IE.fn f' 0 (IE.n k) 1 0))).add (IE.v cr)).rem (IE.l 1000000000)).den=x2%1000000000:=by
    show(((IE.nth ot 0 ((IE.n i).add (IE.n k)) 1 0).add ((IE.fn f 0 (IE.n i) 1 0).mul (IE.fn f' 0 (IE.n k) 1 0))).add (IE.v cr)).den.tmod 1000000000=_
    rw[a2,Int.tmod_eq_emod_of_nonneg aBv.1]
   have d1:((((IE.nth ot 0 ((IE.n i).add (IE.n k)) 1 0).add ((IE.fn f 0 (IE.n i) 1 0).mul (IE.fn f' 0 (IE.n k) 1 0))).add (IE.v cr)).quo (IE.l 1000000000)).den=c0:=by
    show(((IE.nth ot 0 ((IE.n i).add (IE.n k)) 1 0).add ((IE.fn f 0 (IE.n i) 1 0).mul (IE.fn f' 0 (IE.n k) 1 0))).add (IE.v cr)).den.tdiv 1000000000=_
    rw[a2,Int.tdiv_eq_ediv_of_nonneg aBv.1,hc0]
   have p0:=cQ .u64 _ _ g1 (by simp only[lo,hi];omega)
   have p1:(Obl.ltE (IE.n k) (IE.n M)).ok:=by show _∧_;simp only[IE.den];omega
   have p2:(Obl.ix 0 (IE.n k) 1 0 1 M).ok:=by show _≤_;rw[aGj];omega
   have p3:(Obl.inR .u64 (IE.v ga)).ok:=cQ _ _ ga rfl (by simp only[lo,hi];omega)
   have p4:=cQ .u64 _ _ g2 (by simp only[lo,hi];omega)
   have p5:=cQ .u64 _ _ m1 (by simp only[lo,hi];omega)
   have p6:(Obl.inR .i64 ((IE.n i).add (IE.n k))).ok:=cQ _ _ ((i:Int)+k) rfl (by simp only[lo,hi];omega)
   have p7:(Obl.ltE ((IE.n i).add (IE.n k)) (IE.n T)).ok:=by show _∧_;simp only[IE.den];omega
   have hlt:aX 0 ((IE.n i).add (IE.n k)).den 1 0<ot.length:=by rw[hik,hlk];omega
   have bDz:(Obl.ix 0 ((IE.n i).add (IE.n k)) 1 0 1 ot.length).ok:=hlt
   have p9:=cQ .u64 _ _ g3 (by simp only[lo,hi];omega)
   have p10:=cQ .u64 _ _ a1 (by simp only[lo,hi];omega)
   have p11:=cQ .u64 _ _ a2 (by simp only[lo,hi];omega)
   have p12:=cQ .u32 _ _ r1 (by simp only[lo,hi];omega)
   have p13:=cQ .u64 _ _ d1 (by simp only[lo,hi];omega)
   have p14:(Obl.inR .i64 ((IE.n k).add (IE.l 1))).ok:=cQ _ _ ((k:Int)+1) rfl (by simp only[lo,hi];omega)
   have s1:((IE.n k).add (IE.l 1)).den=(IE.n k').den:=by simp only[IE.den,hk'];omega
   have aPz:k'≤M:=by omega
   have hmk:M - k'<M - k:=by omega
   cbv;refine zO hc ?_;refine bX hc _ rfl rfl rfl rfl rfl 0 ?_;cbv;refine zE hc ?_;cbv;refine zO hc ?_;refine iP hc _ rfl rfl (r:=(2,138,.u32,ot,aX 0 ((IE.n i).add (IE.n k)).den 1 0,((((IE.nth ot 0 ((IE.n i).add (IE.n k)) 1 0).add ((IE.fn f 0 (IE.n i) 1 0).mul (IE.fn f' 0 (IE.n k) 1 0))).add (IE.v cr)).rem (IE.l 1000000000)))) rfl hlt (fun l' hl'=>?_);have hl':l'=ot.set (i+k) (x2%1000000000):=by rw[hl',←hik,←r1]
   have hst:Mul n m i k' l' c0:=by rw[hl'];exact hst
   refine zN hc ?_;cbv;refine zO hc ?_;refine zU 3 (S':=J ⟨(k',l',c0),hst,aPz⟩) (K':=K) ⟨zS rfl rfl,zS rfl rfl,zS rfl rfl,zS rfl rfl,zI rfl rfl d1,zI rfl rfl s1,trivial⟩ (kf _) trivial (hyk _ hmk)
  ·have h:¬(k:Int)<(M:Int):=BE.lt_f h
   have hkM:k=(aC m).length:=by omega
   have hMk:Mul n m i (aC m).length ot cr:=by rw[←hkM];exact hMk
   have iS:=hMk.row (by omega)
   rw[←hM]at iS;have hik:aX 0 ((IE.n i).add (IE.n M)).den 1 0=i+M:=by simp only[aX,IE.den];omega
   have p1:(Obl.inR .i64 ((IE.n i).add (IE.n M))).ok:=cQ _ _ ((i:Int)+M) rfl (by simp only[lo,hi];omega)
   have p2:(Obl.inR .u32 (IE.v cr)).ok:=cQ _ _ cr rfl (by simp only[lo,hi];omega)
   have p3:(Obl.ltE ((IE.n i).add (IE.n M)) (IE.n T)).ok:=by show _∧_;simp only[IE.den];omega
   have hlt:aX 0 ((IE.n i).add (IE.n M)).den 1 0<ot.length:=by rw[hik,hlk];omega
   have p4:(Obl.inR .i64 ((IE.n i).add (IE.l 1))).ok:=cQ _ _ ((i:Int)+1) rfl (by simp only[lo,hi];omega)
   obtain⟨i',hi'⟩:=nm (i+1);rw[←hi']at iS;have s1:((IE.n i).add (IE.l 1)).den=(IE.n i').den:=by simp only[IE.den,hi'];omega
   have aBs:i'≤N:=by omega
   have hmi:N - i'<N - i:=by omega
   cbv;refine zO hc ?_;refine iP hc _ rfl rfl (r:=(2,138,.u32,ot,aX 0 ((IE.n i).add (IE.n M)).den 1 0,IE.v cr)) rfl hlt (fun l' hl'=>?_);have hl':l'=ot.set (i+M) cr:=by rw[hl',←hik];rfl
   have iS:Mul n m i' 0 l' 0:=by rw[hl'];exact iS
   refine zN hc ?_;cbv;refine zO hc ?_;refine zU 3 (S':=I ⟨(i',l'),iS,aBs⟩) (K':=K) ⟨zS rfl rfl,zS rfl rfl,zS rfl rfl,zI rfl rfl s1,trivial⟩ (kf _) trivial (hy _ hmi)
 ·have h:¬(i:Int)<(N:Int):=BE.lt_f h
  have hiN:i=(aC n).length:=by omega
  have hMu:Mul n m (aC n).length 0 out 0:=by rw[←hiN];exact hMu
  have qW:=hMu.done
  have jV:out.length=T:=by rw[hlen,hT,hN,hM]
  have hlb:out.length≤2^40:=by omega
  cbv;refine oJ 2 rfl rfl (fun g N' hN' hg=>?_);refine dZ (R:=R) hc kL (fun n0 D X μ a w aK H aJ=>?_) 100 ?_
  ·obtain⟨v1,rfl,h1⟩:=aV aJ;have h2:=H.row (l:=out) rfl h1 (by rw[jV];rfl) (fun j y hj=>by rw[Nat.zero_add];exact hg j y hj) (by omega) (by omega)
   rw[hRR,←qW];exact fQ hMu.wd hlb H.xlt h2
  cbv;exact aS hc hR rfl (fun X μ a w v H hv=>H.toP.val (k:=3) (R:=R) (.head _) hv)
end Go.Ai
