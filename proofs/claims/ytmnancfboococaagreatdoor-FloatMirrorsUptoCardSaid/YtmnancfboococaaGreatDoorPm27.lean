/- Part 28 of the proof: garboardlaw17.FloatMirrors returns true, where what it reads is of bulk at most 1048576. -/
import Derived.Test.YtmnancfboococaaGreatDoorPm16
import Derived.Test.YtmnancfboococaaGreatDoorPm17
import Derived.Test.YtmnancfboococaaGreatDoorPm18
import Derived.Test.YtmnancfboococaaGreatDoorPm22
import Derived.Test.YtmnancfboococaaGreatDoorPm26
set_option linter.all false
namespace Go.Ai
open Go Go.Proofs Go.Num Go.Lib
theorem aXw:aB PP 83:=zK
theorem bFk {b b':Bool}{n:Nat}(hb:b'=(!b&&decide (n≠0))):yY PP 83 [zR b n] (.sg (zR b' n)):=by
 have km:=aW8 (b:= !b) hb
 obtain⟨R1,hR1⟩:∃R,R=aP n:=⟨_,rfl⟩;unfold zR at *;rw[←hR1]at km ⊢;clear hb;obtain⟨F,hF⟩:=nm (wA (.sg (.agg [.b (.l b),.x R1])));refine oA mixed tok Tryz.func83 rfl (by rfl) rfl [F] ⟨hF,trivial⟩ fun c G hG hc hR=>?_
 obtain⟨K,hK⟩:=nm (xL 0 [F]);rw[←hK];have m1:KF.at 0 F∈K:=by rw[hK];exact .head _
 refine zN hc ?_;cbv;refine dZ hc aLv km ⟨.b rfl,.ec m1 hF rfl,trivial⟩ (.g [.b (.l b'),.ec 3 1]) rfl 100 (fun FB hFB=>?_);cbv;exact iP hc hG hR rfl ⟨.b rfl,.ec (.head _) hFB rfl,trivial⟩
theorem aEt:aB PP 37:=zK
theorem bCu (q:Rat):yY PP 37 [qI q] (.sg (qI (-q))):=by
 have ko:=bFk (b:=decide (q.num<0)) (b':=decide ((-q).num<0)) (n:=q.num.natAbs) (by
  rw[Rat.neg_num,Bool.eq_iff_iff];simp only[Bool.and_eq_true,Bool.not_eq_true',decide_eq_true_eq,decide_eq_false_iff_not,ne_eq];omega)
 have e1:(-q).num.natAbs=q.num.natAbs:=by rw[Rat.neg_num,Int.natAbs_neg]
 have e2:(-q).den=q.den:=Rat.neg_den q
 unfold qI qR;rw[e1,e2];unfold zR at ko;generalize decide ((-q).num<0)=b' at *;generalize decide (q.num<0)=b at *;obtain⟨R1,hR1⟩:∃R,R=aP q.num.natAbs:=⟨_,rfl⟩;obtain⟨R2,hR2⟩:∃R,R=aP q.den:=⟨_,rfl⟩;rw[←hR1]at ko ⊢;rw[←hR2];clear hR1 hR2 e1 e2;obtain⟨F,hF⟩:=nm (wA (.sg (.agg [.b (.l b),.x R1,.x R2])));refine oA mixed tok Tryz.func37 rfl (by rfl) rfl [F] ⟨hF,trivial⟩ fun c G hG hc hR=>?_
 obtain⟨K,hK⟩:=nm (xL 0 [F]);rw[←hK];have m1:KF.at 0 F∈K:=by rw[hK];exact .head _
 refine zN hc ?_;cbv;refine aKs hc aXw ko ⟨⟨.b rfl,.ec m1 hF rfl,trivial⟩,trivial⟩ (.g [.b (.l b'),.ec 3 1]) rfl 100 (fun FB hFB=>?_);cbv;refine zE hc ?_;cbv;exact iP hc hG hR rfl ⟨.b rfl,.ec (.head _) hFB rfl,.ec (.tail _ m1) hF rfl,trivial⟩
theorem aP9:aB PP 78:=zK
theorem bAm {x:Int}(h0:0≤x)(h1:x<4294967296):yY PP 78 [.one (.i .i64 (.v x))] (.sg (zIt x)):=by
 have kn:∀{X:Nat→Prop} {w:World},(∀b,X b→b<w.heap.size)→Fn PP 75 [.int .u32 x] X w (aP x.natAbs):=fun hX=>by
  have:=xP (x:=x) hX h0 h1
  rwa [show x.toNat=x.natAbs by omega]at this
 have km:=aW8 (b:=false) (b':=decide (x<0)) (n:=x.natAbs) (by simp;omega)
 unfold zIt;obtain⟨R1,hR1⟩:∃R,R=aP x.natAbs:=⟨_,rfl⟩;have mJ:∀{v:Value} {X:Nat→Prop} {w:World},R1.p v X w→v.oneCell'=true:=fun h=>by rw[hR1]at h;exact mP h
 unfold zR at *;rw[←hR1]at kn km ⊢;generalize decide (x<0)=b' at *;clear hR1;obtain⟨F,hF⟩:=nm (wA (.sg (.one (.i .i64 (.v x)))));refine oA mixed tok Tryz.func78 rfl (by rfl) rfl [F] ⟨hF,trivial⟩ fun c G hG hc hR=>?_
 obtain⟨K,hK⟩:=nm (xL 0 [F]);rw[←hK];refine zN hc ?_;cbv;refine aE hc rfl 100 (fun h=>?_) (fun _=>?_)
 ·have h:=BE.lt_t h
  simp only[IE.den]at h;omega
 cbv;refine aQ hc ⟨by show _∧_;simp only[lo,hi,IE.den];omega,trivial⟩ ?_;refine eE (R:=R1) hc oG (fun n0 D X μ a w aL H aJ=>?_) 100 ?_
 ·obtain⟨v,rfl,e1⟩:=aV aJ;rw[bQ e1];exact kn H.xlt
 cbv;refine dZ hc aLv km ⟨.b rfl,.e (.head _) mJ,trivial⟩ (.g [.b (.l b'),.ec 3 1]) rfl 100 (fun FB hFB=>?_);cbv;exact iP hc hG hR rfl ⟨.b rfl,.ec (.head _) hFB rfl,trivial⟩
theorem wX:aB PP 32:=zK
theorem bFb {x:Int}(h0:0≤x)(h1:x<4294967296):yY PP 32 [.one (.i .i64 (.v x))] (.sg (qI x)):=by
 have ks:=bAm h0 h1
 have kn:∀{X:Nat→Prop} {w:World},(∀b,X b→b<w.heap.size)→Fn PP 75 [.int .u32 1] X w (aP 1):=fun hX=>xP (x:=1) hX (by omega) (by omega)
 unfold qI;rw[show((x:Rat)).num=x from rfl,show((x:Rat)).den=1 from rfl];unfold zIt at ks;unfold qR;obtain⟨R1,hR1⟩:∃R,R=aP x.natAbs:=⟨_,rfl⟩;obtain⟨R2,hR2⟩:∃R,R=aP 1:=⟨_,rfl⟩;have mJ:∀{v:Value} {X:Nat→Prop} {w:World},R2.p v X w→v.oneCell'=true:=fun h=>by rw[hR2]at h;exact mP h
 unfold zR at *;rw[←hR1]at ks ⊢;rw[←hR2]at kn ⊢;generalize decide (x<0)=b at *;clear hR1 h0 h1;obtain⟨RR,hRR⟩:=nm (RV.sg (.agg [.b (.l b),.x R1,.x R2]));rw[←hRR];obtain⟨F,hF⟩:=nm (wA (.sg (.one (.i .i64 (.v x)))));refine oA mixed tok Tryz.func32 rfl (by rfl) rfl [F] ⟨hF,trivial⟩ fun c G hG hc hR=>?_
 obtain⟨K,hK⟩:=nm (xL 0 [F]);rw[←hK];refine zN hc ?_;cbv;refine dZ hc aP9 ks ⟨.i rfl,trivial⟩ (.g [.b (.l b),.ec 2 1]) rfl 100 (fun FB hFB=>?_);cbv;refine eE (R:=R2) hc oG (fun n0 D X μ a w aL H aJ=>?_) 100 ?_
 ·obtain⟨v,rfl,e1⟩:=aV aJ;rw[bQ e1];exact kn H.xlt
 cbv;refine dQ 5 .u32 (aF 1) rfl rfl (fun X μ a w v' H hv'=>by have h:=H.toP.val (R:=R2) (.head _) hv';rw[hR2]at h;exact h) fun f N cap hN hf dI=>?_
 refine zN hc ?_;cbv;refine aS hc hR rfl (fun X μ a w v H hv=>?_);obtain⟨vs,q1,rfl⟩:=xF hv;obtain⟨v1,v2,v3,rfl,e3,e4,e5⟩:=eX q1;have h3:=H.toP.numRow rfl e5 hN hf dI
 rw[hG,hRR];exact⟨[v1,v2,v3],rfl,fU e3,(eH.ec (c:=.x R1) (.tail _ (.head _)) hFB rfl).ok H.toP.kf e4,⟨mP h3,by rw[hR2];exact h3⟩,trivial⟩
theorem aQm (l:List UInt8):(cU l).1.length≤l.length∧((cU l).2.getD [49]).length≤l.length+1:=by
 cases hc:(cU l).2 with
 | none=>rw[rX hc];exact⟨lRf _,by show 1≤_;omega⟩
 | some r=>
  have h:=congrArg List.length (rY hc)
  simp only[List.length_append,List.length_cons]at h;exact⟨by omega,by show r.length≤_;omega⟩
theorem aOm {a:ByteArray}(hs:a.size≤2^34)(h:nU a.data.toList=none):yY PP 29 [.one (.s (.v a))] (.tp [qI 0,.one (.b (.l false))]):=by
 obtain⟨l,hl⟩:=nm (a.data.toList);have hlen:l.length≤2^34:=by rw[hl];exact hs
 have hq:nU l=none:=by rw[hl];exact h
 have ksp:=aSd a (by omega)
 rw[←hl]at ksp;clear hl h hs;have hcl:=aQm l
 have kI:yY PP 32 [.one (.i .i64 (.v 0))] (.sg (qI 0)):=bFb (x:=0) (by decide) (by decide)
 obtain⟨p,hp⟩:∃p:ByteArray,p=⟨(cU l).1.toArray⟩:=⟨_,rfl⟩;obtain⟨tx,htx⟩:∃p:ByteArray,p=⟨((cU l).2.getD [49]).toArray⟩:=⟨_,rfl⟩;obtain⟨sl,hsl⟩:∃b,b=(cU l).2.isSome:=⟨_,rfl⟩;have hpl:p.data.toList=(cU l).1:=by rw[hp]
 have htl:tx.data.toList=(cU l).2.getD [49]:=by rw[htx]
 have hps:p.size≤2^34:=by rw[show p.size=p.data.toList.length from rfl,hpl];omega
 have hts:tx.size≤2^34+1:=by rw[show tx.size=tx.data.toList.length from rfl,htl];omega
 rw[←hp,←htx,←hsl]at ksp;have kv1:=aTz p (by omega)
 have kv2:=aFk tx (by omega)
 obtain⟨RR,hRR⟩:=nm (RV.tp [qI 0,.one (.b (.l false))]);rw[←hRR];unfold qI qR at hRR kI;generalize decide ((0:Rat).num<0)=b0 at *;obtain⟨R0,hR0⟩:∃R,R=aP (0:Rat).num.natAbs:=⟨_,rfl⟩;obtain⟨RD,hRD⟩:∃R,R=aP (0:Rat).den:=⟨_,rfl⟩;rw[←hR0,←hRD]at hRR kI;clear hR0 hRD;obtain⟨F,hF⟩:=nm (wA (.sg (.one (.s (.v a)))));refine oA mixed tok Tryz.func29 rfl (by rfl) rfl [F] ⟨hF,trivial⟩ fun c G hG hc hR=>?_
 obtain⟨K,hK⟩:=nm (xL 0 [F]);rw[←hK];refine zN hc ?_;cbv;refine zC hc (.t [.s (.v p),.s (.v tx),.b (.l sl)]) ksp aGj ?_;cbv;cases hz:vX p.data.toList with
 | none=>
  rw[hz]at kv1;refine zC hc (.b (.l false)) kv1 aAm ?_;cbv;refine dZ hc wX kI ⟨.i rfl,trivial⟩ (.g [.b (.l b0),.ec 2 1,.ec 2 2]) rfl 100 (fun FB hFB=>?_);cbv;rw[hRR]at hG;exact iP hc hG hR rfl ⟨⟨.b rfl,.ec (.head _) hFB rfl,.ec (.head _) hFB rfl,trivial⟩,.b rfl,trivial⟩
 | some z=>
 rw[hz]at kv1;refine zC hc (.b (.l true)) kv1 aAm ?_;cbv;cases hn:isNat tx.data.toList with
 | false=>
  rw[hn]at kv2;refine zC hc (.b (.l false)) kv2 oH ?_;cbv;refine dZ hc wX kI ⟨.i rfl,trivial⟩ (.g [.b (.l b0),.ec 2 1,.ec 2 2]) rfl 100 (fun FB hFB=>?_);cbv;rw[hRR]at hG;exact iP hc hG hR rfl ⟨⟨.b rfl,.ec (.head _) hFB rfl,.ec (.head _) hFB rfl,trivial⟩,.b rfl,trivial⟩
 | true=>
 rw[hn]at kv2;refine zC hc (.b (.l true)) kv2 oH ?_;cbv;obtain⟨n,hnn⟩:=nm (dS 0 tx.data.toList);have hrn:rdN tx.data.toList=some n:=by unfold rdN;rw[if_pos hn,hnn]
 have ep:p=aU z:=jH (by rw[cQ];exact vY hz)
 have et:tx=aK n:=jH (by rw[cM];exact aBt hrn)
 have aUy:sl=true∧¬(z≠0∧n≠0∧n≠1∧z.natAbs.gcd n=1):=by
  unfold nU at hq;cases hc2:(cU l).2 with
  | none=>
   rw[hc2]at hq;rw[hpl,rX hc2]at hz;rw[hz]at hq;cases hq
  | some r=>
   rw[hc2]at hq htl hsl;rw[hpl]at hz;have htl:tx.data.toList=r:=htl
   rw[htl]at hrn;rw[hz]at hq;simp only[hrn]at hq;refine⟨hsl,fun h=>?_⟩;rw[dif_pos h]at hq;cases hq
 obtain⟨aUy,hno⟩:=aUy;have hdz:dl z.natAbs≤2^34:=by
  refine lTr ?_ hps;rw[ep,show(aU z).size=(aU z).data.toList.length from rfl,cQ];unfold itoa;split
  ·exact Nat.le_succ _
  ·rename_i h;rw[show z.toNat=z.natAbs by omega];exact lRf _
 have hdn:dl n≤2^34+1:=by rw[et,eR]at hts;exact hts
 have hln:=iF n
 have hlz:=iF z.natAbs
 have krd:=aXa (z:=z) (by omega)
 rw[←ep]at krd;have kfr:∀{X:Nat→Prop} {w:World},(∀b,X b→b<w.heap.size)→Fn PP 74 [.string tx] X w (aP n):=fun hX=>by rw[et];exact aR8 (by omega) hX
 have ksm:∀{X:Nat→Prop} {w:World},(∀b,X b→b<w.heap.size)→Fn PP 75 [.int .u32 1] X w (aP 1):=fun hX=>xP (x:=1) hX (by omega) (by omega)
 have hl1:(aF 1).length≤2^40:=lTr (bR (k:=1) (by decide)) (by decide)
 have kc1:∀{v u:Value} {X:Nat→Prop} {w:World},(∀b,X b→b<w.heap.size)→(aP n).p v X w→(aP 1).p u X w→Fn PP 76 [v,u] X w (dJ (.int .i64 (bS n (1:Nat)))):=fun hX h1 h2=>aR7 (n:=n) (m:=1) (by omega) hl1 hX h1 h2
 obtain⟨sg,hsg⟩:∃sg:Int,sg=if decide (z<0)then -1 else if z.natAbs=0 then 0 else 1:=⟨_,rfl⟩
 have ksg:=aM6 (b:=decide (z<0)) (n:=z.natAbs) hsg
 obtain⟨g,hg⟩:=nm (z.natAbs.gcd n);have kcm:∀{v u:Value} {X:Nat→Prop} {w:World},(∀b,X b→b<w.heap.size)→(aP z.natAbs).p v X w→(aP n).p u X w→Fn PP 77 [v,u] X w (aP g):=fun hX h1 h2=>by
  rw[hg];exact aMo aWq (by omega) (by omega) hX h1 h2
 have kc2:n≠0→z≠0→g≠1→∀{v u:Value} {X:Nat→Prop} {w:World},(∀b,X b→b<w.heap.size)→(aP g).p v X w→(aP 1).p u X w→Fn PP 76 [v,u] X w (dJ (.int .i64 1)):=fun h0 hz0 h1 X w v u hX h2 h3=>by
  have hg0:g≠0:=fun e=>by rw[hg]at e;exact h0 (Nat.eq_zero_of_gcd_eq_zero_right e)
  have hgn:g≤n:=by rw[hg];exact Nat.gcd_le_right _ (by omega)
  have hlg:(aF g).length≤2^40:=lTr (bU hgn) (by omega)
  have:=aR7 (n:=g) (m:=1) hlg hl1 hX h2 h3
  rw[show bS (g:Int) ((1:Nat):Int)=1 by unfold bS;rw[if_neg (by omega),if_pos (by omega)]]at this;exact this
 have aRr:z≠0→sg≠0:=fun h=>by
  rw[hsg,if_neg (show z.natAbs≠0 by omega)];split<;>decide
 have bEx:z=0→sg=0:=fun h=>by rw[hsg,h];rfl
 unfold zIt zR at krd;unfold zR at ksg;subst aUy;obtain⟨bz,hbz⟩:∃b,b=decide (z<0):=⟨_,rfl⟩;rw[←hbz]at krd ksg;obtain⟨R1,hR1⟩:∃R,R=aP z.natAbs:=⟨_,rfl⟩;obtain⟨R2,hR2⟩:∃R,R=aP n:=⟨_,rfl⟩;obtain⟨RO,hRO⟩:∃R,R=aP 1:=⟨_,rfl⟩;obtain⟨RG,hRG⟩:∃R,R=aP g:=⟨_,rfl⟩;rw[←hR1]at krd ksg kcm;rw[←hR2]at kfr kc1 kcm;rw[←hRO]at ksm kc1 kc2;rw[←hRG]at kcm kc2;refine dZ hc aLw krd ⟨.s rfl,trivial⟩ (.g [.b (.l bz),.ec 2 1]) rfl 100 (fun FB hFB=>?_);cbv;refine eE (R:=R2) hc zF (fun n0 D X μ a w aL H aJ=>?_) 100 ?_
 ·obtain⟨v,rfl,e1⟩:=aV aJ;rw[dH e1];exact kfr H.xlt
 cbv;refine dQ 28 .u32 (aF n) rfl rfl (fun X μ a w v' H hv'=>by have h:=H.toP.val (R:=R2) (.head _) hv';rw[hR2]at h;exact h) fun f N cap hN hf dI=>?_
 refine zN hc ?_;cbv;refine eE (R:=RO) hc oG (fun n0 D X μ a w aL H aJ=>?_) 100 ?_
 ·obtain⟨v,rfl,e1⟩:=aV aJ;rw[bQ e1];exact ksm H.xlt
 cbv;rw[hRR]at hG
 by_cases h0:n=0
 ·refine bL hc (.i .i64 (.l (-1))) tK (fun n0 D X μ a w aL H aJ=>?_) rfl 100 ?_
  ·obtain⟨v,u,rfl,e1,e2⟩:=bX aJ;have:=kc1 H.xlt (by rw[hR2];exact H.numRow rfl e1 hN hf dI) (H.val (R:=RO) (.head _) e2)
   rw[h0]at this;exact this
  cbv;refine dZ hc wX kI ⟨.i rfl,trivial⟩ (.g [.b (.l b0),.ec 7 1,.ec 7 2]) rfl 100 (fun FC hFC=>?_);cbv;exact iP hc hG hR rfl ⟨⟨.b rfl,.ec (.head _) hFC rfl,.ec (.head _) hFC rfl,trivial⟩,.b rfl,trivial⟩
 by_cases h1:n=1
 ·refine bL hc (.i .i64 (.l 0)) tK (fun n0 D X μ a w aL H aJ=>?_) rfl 100 ?_
  ·obtain⟨v,u,rfl,e1,e2⟩:=bX aJ;have:=kc1 H.xlt (by rw[hR2];exact H.numRow rfl e1 hN hf dI) (H.val (R:=RO) (.head _) e2)
   rw[h1]at this;exact this
  cbv;refine dZ hc wX kI ⟨.i rfl,trivial⟩ (.g [.b (.l b0),.ec 7 1,.ec 7 2]) rfl 100 (fun FC hFC=>?_);cbv;exact iP hc hG hR rfl ⟨⟨.b rfl,.ec (.head _) hFC rfl,.ec (.head _) hFC rfl,trivial⟩,.b rfl,trivial⟩
 have hc1:bS (n:Int) ((1:Nat):Int)=1:=by unfold bS;rw[if_neg (by omega),if_pos (by omega)]
 rw[hc1]at kc1;refine bL hc (.i .i64 (.l 1)) tK (fun n0 D X μ a w aL H aJ=>?_) rfl 100 ?_
 ·obtain⟨v,u,rfl,e1,e2⟩:=bX aJ;exact kc1 H.xlt (by rw[hR2];exact H.numRow rfl e1 hN hf dI) (H.val (R:=RO) (.head _) e2)
 cbv
 by_cases hz0:z=0
 ·have hs0:=bEx hz0
  rw[hs0]at ksg;refine dZ hc xB ksg ⟨⟨.b rfl,.ec (by repeat (first | exact .head _ | apply List.Mem.tail)) hFB rfl,trivial⟩,trivial⟩ (.i .i64 (.v 0)) rfl 100 (fun FS hFS=>?_);cbv;refine bT hc 45 rfl rfl 100 (fun h=>absurd h (by decide)) (fun _=>?_);cbv;refine dZ hc wX kI ⟨.i rfl,trivial⟩ (.g [.b (.l b0),.ec 8 1,.ec 8 2]) rfl 100 (fun FC hFC=>?_);cbv;exact iP hc hG hR rfl ⟨⟨.b rfl,.ec (.head _) hFC rfl,.ec (.head _) hFC rfl,trivial⟩,.b rfl,trivial⟩
 have hg1:g≠1:=fun e=>hno ⟨hz0,h0,h1,hg.symm.trans e⟩
 have hs0:=aRr hz0
 refine dZ hc xB ksg ⟨⟨.b rfl,.ec (by repeat (first | exact .head _ | apply List.Mem.tail)) hFB rfl,trivial⟩,trivial⟩ (.i .i64 (.v sg)) rfl 100 (fun FS hFS=>?_);cbv;have e0:(BE.not (.eq (.v sg) (.l 0))).den=true:=by show(!decide (sg=0))=true;simp[hs0]
 refine bT hc 45 rfl rfl 100 (fun _=>?_) (fun h=>absurd (e0.symm.trans h) (by decide));cbv;refine eE (R:=RG) hc aC7 (fun n0 D X μ a w aL H aJ=>?_) 100 ?_
 ·obtain⟨v,u,rfl,e1,e2⟩:=bX aJ;exact kcm H.xlt (((eH.ec (c:=.x R1) (F:=FB) (by repeat (first | exact .head _ | apply List.Mem.tail)) hFB rfl).ok H.kf e1).2) (by rw[hR2];exact H.numRow rfl e2 hN hf dI)
 cbv;refine bL hc (.i .i64 (.l 1)) tK (fun n0 D X μ a w aL H aJ=>?_) rfl 100 ?_
 ·obtain⟨v,u,rfl,e1,e2⟩:=bX aJ;exact kc2 h0 hz0 hg1 H.xlt (H.val (R:=RG) (by repeat (first | exact .head _ | apply List.Mem.tail)) e1) (H.val (R:=RO) (by repeat (first | exact .head _ | apply List.Mem.tail)) e2)
 cbv;refine dZ hc wX kI ⟨.i rfl,trivial⟩ (.g [.b (.l b0),.ec 9 1,.ec 9 2]) rfl 100 (fun FC hFC=>?_);cbv;exact iP hc hG hR rfl ⟨⟨.b rfl,.ec (.head _) hFC rfl,.ec (.head _) hFC rfl,trivial⟩,.b rfl,trivial⟩
end Go.Ai
namespace Go.Ai
open Go Go.Num V3
def cZ {α:Type}(f:α→Rat):List α→Rat
 | []=>0
 | x::l=>f x+cZ f l
theorem aIs {α:Type}(f:α→Rat):∀l m:List α,cZ f (l++m)=cZ f l+cZ f m
 | [],m=>by simp only[List.nil_append,cZ];grind
 | x::l,m=>by simp only[List.cons_append,cZ,aIs f l m];grind
theorem rR {α:Type}(f g:α→Rat):∀l:List α,cZ (fun x=>f x+g x) l=cZ f l+cZ g l
 | []=>by simp only[cZ];grind
 | x::l=>by simp only[cZ,rR f g l];grind
theorem aEc {α β:Type}(f:β→Rat)(g:α→List β):∀l:List α,cZ f (l.flatMap g)=cZ (fun x=>cZ f (g x)) l
 | []=>rfl
 | x::l=>by rw[List.flatMap_cons,aIs,aEc f g l];rfl
theorem kQ {α:Type}{f g:α→Rat}:∀{l:List α},(∀x,x∈l→f x=g x)→cZ f l=cZ g l
 | [],_=>rfl
 | x::l,h=>by simp only[cZ];rw[h x (.head _),kQ fun y hy=>h y (.tail _ hy)]
theorem xX {α:Type}{f:α→Rat}:∀{l:List α},(∀x,x∈l→f x=0)→cZ f l=0
 | [],_=>rfl
 | x::l,h=>by simp only[cZ];rw[h x (.head _),xX fun y hy=>h y (.tail _ hy)];grind
def gL (ψ:V3→V3→Rat)(t:Tri):Rat:=ψ t.a t.b+ψ t.b t.c+ψ t.c t.a
def aEh (ψ:V3→V3→Rat):Prop:=∀x y,ψ y x=-ψ x y
def wtE (w:List ByteArray→Rat)(es:eV):Rat:=cZ (fun x=>(x.2:Rat)*w x.1) es
theorem aM5 (w:List ByteArray→Rat)(k:List ByteArray)(d:Int):∀es:eV,wtE w (fH k d es)=wtE w es+d*w k
 | []=>by simp only[fH,wtE,cZ];grind
 | (q,v)::l=>by
  unfold fH;split
  ·rename_i e;subst e;simp only[wtE,cZ,Rat.intCast_add];grind
  ·have:=aM5 w k d l;simp only[wtE,cZ]at *;grind
theorem bDa (w:List ByteArray→Rat)(es:eV)(t:Tri):wtE w (aGv es t)=wtE w es+gL (fun a b=>w (qL a b) - w (qL b a)) t:=by
 have e1:((1:Int):Rat)=1:=rfl
 have e2:((-1:Int):Rat)=-1:=rfl
 simp only[aGv,aQh,aM5,gL,e1,e2];grind
theorem aW7 (w:List ByteArray→Rat):∀(l:List Tri) (es:eV),wtE w (l.foldl aGv es)=wtE w es+cZ (gL fun a b=>w (qL a b) - w (qL b a)) l
 | [],es=>by simp only[List.foldl,cZ];grind
 | t::l,es=>by rw[List.foldl_cons,aW7 w l,bDa];simp only[cZ];grind
theorem aW6 (w:List ByteArray→Rat)(l:List Tri):wtE w (xD l)=cZ (gL fun a b=>w (qL a b) - w (qL b a)) l:=by
 have:=aW7 w l []
 unfold xD;rw[this];simp only[wtE,cZ];grind
def aE4 (ψ:V3→V3→Rat):List ByteArray→Rat
 | [a,b,c,d,e,f]=>ψ ⟨(nU a.data.toList).getD 0,(nU b.data.toList).getD 0,(nU c.data.toList).getD 0⟩ ⟨(nU d.data.toList).getD 0,(nU e.data.toList).getD 0,(nU f.data.toList).getD 0⟩
 | _=>0
theorem aL5 (ψ:V3→V3→Rat)(a b:V3):aE4 ψ (qL a b)=ψ a b:=by
 simp only[qL,aE4,cT,Option.getD_some]
theorem vP {l:List Tri}(h:fL l=true){ψ:V3→V3→Rat}(ha:aEh ψ):cZ (gL ψ) l=0:=by
 have h1:=aW6 (aE4 ψ) l
 have h2:wtE (aE4 ψ) (xD l)=0:=xX fun x hx=>by
  have h3:=List.all_eq_true.1 h x hx
  obtain⟨k,n⟩:=x
  by_cases hn:n=0
  ·subst hn;show((0:Int):Rat)*_=0;grind
  ·have h4:k.take 3=k.drop 3:=by
    simp only[yS,hn,ne_eq,not_false_eq_true,decide_true,Bool.true_and,Bool.not_eq_true',decide_eq_false_iff_not,Decidable.not_not]at h3;exact h3
   have:aE4 ψ k=0:=by
    unfold aE4;split
    ·simp at h4;obtain⟨rfl,rfl,rfl⟩:=h4;have:=ha ⟨(nU ‹ByteArray›.data.toList).getD 0,0,0⟩ ⟨0,0,0⟩
     have h5:∀v,ψ v v=0:=fun v=>by have:=ha v v;grind
     exact h5 _
    ·rfl
   show _*aE4 ψ k=0
   rw[this];grind
 rw[h2]at h1;have h6:(fun a b=>aE4 ψ (qL a b) - aE4 ψ (qL b a))=fun a b=>ψ a b+ψ a b:=by
  funext a b;rw[aL5,aL5,ha a b];grind
 rw[h6,show(gL fun a b=>ψ a b+ψ a b)=fun t=>gL ψ t+gL ψ t from by funext t;simp only[gL];grind,rR]at h1
 grind
def KU (es:eV):Prop:=es.Pairwise fun x y=>x.1≠y.1
theorem aF3 {k:List ByteArray}{d:Int}:∀{es:eV} {x:List ByteArray × Int},x∈fH k d es→x.1=k∨∃y,y∈es∧y.1=x.1
 | [],x,h=>by simp[fH]at h;subst h;exact .inl rfl
 | (q,v)::l,x,h=>by
  unfold fH at h;split at h
  ·rcases List.mem_cons.1 h with e | e
   ·subst e;exact .inr ⟨_,.head _,rfl⟩
   ·exact .inr ⟨x,.tail _ e,rfl⟩
  ·rcases List.mem_cons.1 h with e | e
   ·subst e;exact .inr ⟨_,.head _,rfl⟩
   ·rcases aF3 e with e | ⟨y,e1,e2⟩
    ·exact .inl e
    ·exact .inr ⟨y,.tail _ e1,e2⟩
theorem KU.add {k:List ByteArray}{d:Int}:∀{es:eV},KU es→KU (fH k d es)
 | [],h=>by simp[fH,KU]
 | (q,v)::l,h=>by
  obtain⟨h1,h2⟩:=List.pairwise_cons.1 h;unfold fH;split
  ·exact List.pairwise_cons.2 ⟨h1,h2⟩
  ·rename_i hk;refine List.pairwise_cons.2 ⟨fun x hx=>?_,KU.add h2⟩
   rcases aF3 hx with e | ⟨y,e1,e2⟩
   ·rw[e];exact fun e=>hk e.symm
   ·rw[←e2];exact h1 y e1
theorem KU.l:∀(l:List Tri) {es:eV},KU es→KU (l.foldl aGv es)
 | [],_,h=>h
 | t::l,es,h=>KU.l l (es:=aGv es t) h.add.add.add.add.add.add
def one (k:List ByteArray)(k':List ByteArray):Rat:=if k'=k then 1 else 0
theorem KU.at:∀{es:eV},KU es→∀{x},x∈es→wtE (one x.1) es=x.2
 | y::l,h,x,hx=>by
  obtain⟨h1,h2⟩:=List.pairwise_cons.1 h;have h3:wtE (one x.1) (y::l)=y.2*one x.1 y.1+wtE (one x.1) l:=rfl
  rw[h3]
  rcases List.mem_cons.1 hx with e | e
  ·subst e;have:wtE (one x.1) l=0:=xX fun z hz=>by
    show _*one x.1 z.1=0
    unfold one;rw[if_neg (fun e=>h1 z hz e.symm)];grind
   rw[this];unfold one;rw[if_pos rfl];grind
  ·rw[KU.at h2 e];unfold one;rw[if_neg (h1 x e)];grind
theorem aMk {l:List Tri}(hs:∀ψ,aEh ψ→cZ (gL ψ) l=0):fL l=true:=by
 refine List.all_eq_true.2 fun x hx=>?_
 have h1:=KU.at (KU.l l (es:=[]) .nil) (x:=x) hx
 have h2:=aW6 (one x.1) l
 rw[hs _ fun a b=>by grind,show wtE (one x.1) (xD l)=(x.2:Rat) from h1]at h2;obtain⟨k,n⟩:=x;have:n=0:=Rat.intCast_inj.1 (h2.trans rfl)
 simp[yS,this]
theorem aKa {l l':List Tri}(h1:(∀ψ,aEh ψ→cZ (gL ψ) l=0)→∀ψ,aEh ψ→cZ (gL ψ) l'=0)(h2:(∀ψ,aEh ψ→cZ (gL ψ) l'=0)→∀ψ,aEh ψ→cZ (gL ψ) l=0):fL l'=fL l:=by
 cases h:fL l with
 | true=>exact aMk (h1 fun ψ hψ=>vP h hψ)
 | false=>
  cases h':fL l' with
  | false=>rfl
  | true=>rw[aMk (h2 fun ψ hψ=>vP h' hψ)]at h;cases h
def Cop (a b c d:V3):Prop:=(a.sub d).dot ((b.sub d).cross (c.sub d))=0
structure Cone (T:V3→V3→V3→Rat):Prop where
 rot:∀a b c,T b c a=T a b c
 alt:∀a b c,T a c b=-T a b c
 add:∀a b c d,Cop a b c d→T a b c=T d a b+T d b c+T d c a
def kG (a b c:V3):Rat:=a.dot (b.cross c)
def aK8 (a b c:V3):Rat:=kG a b c*(1/6)
def sV (π:V3→Rat)(a b c:V3):Rat:=kG a b c*(π a+π b+π c)*(1/24)
theorem aG1 (a b c:V3):kG b c a=kG a b c:=by simp only[kG,dot,cross];grind
theorem aGz (a b c:V3):kG a c b=-kG a b c:=by simp only[kG,dot,cross];grind
theorem aG0 {a b c d:V3}(h:Cop a b c d):kG a b c=kG d a b+kG d b c+kG d c a:=by
 simp only[Cop,kG,dot,cross,sub]at *;grind
theorem aQj:Cone aK8 where
 rot a b c:=by unfold aK8;rw[aG1]
 alt a b c:=by unfold aK8;rw[aGz];grind
 add a b c d h:=by unfold aK8;rw[aG0 h];grind
theorem aAu {π:V3→Rat}(hπ:∀a b c d,kG a b c*π d=kG d b c*π a+kG d c a*π b+kG d a b*π c):Cone (sV π) where
 rot a b c:=by unfold sV;rw[aG1];grind
 alt a b c:=by unfold sV;rw[aGz];grind
 add a b c d h:=by
  have h1:=hπ a b c d
  have h2:=aG0 h
  unfold sV;generalize kG a b c=D at *;generalize kG d a b=D1 at *;generalize kG d b c=D2 at *;generalize kG d c a=D3 at *;generalize π a=x at *;generalize π b=y at *;generalize π c=z at *;generalize π d=u at *
  grind
theorem aX0:Cone (sV V3.x):=aAu fun a b c d=>by simp only[kG,dot,cross];grind
theorem aX1:Cone (sV V3.y):=aAu fun a b c d=>by simp only[kG,dot,cross];grind
theorem aX2:Cone (sV V3.z):=aAu fun a b c d=>by simp only[kG,dot,cross];grind
theorem Cone.same {T:V3→V3→V3→Rat}(hT:Cone T)(o x:V3):T o x x=0:=by have:=hT.alt o x x;grind
def tip (T:V3→V3→V3→Rat)(o a b c:V3):Rat:=T a b c - T o a b - T o b c - T o c a
theorem Cone.tip {T:V3→V3→V3→Rat}(hT:Cone T)(o:V3):Cone (tip T o) where
 rot a b c:=by unfold Ai.tip;rw[hT.rot];grind
 alt a b c:=by unfold Ai.tip;rw[hT.alt a b c,hT.alt o a c,hT.alt o b a,hT.alt o c b];grind
 add a b c d h:=by
  unfold Ai.tip;rw[hT.add a b c d h,hT.alt o a d,hT.alt o b d,hT.alt o c d];grind
theorem Cone.tip0 {T:V3→V3→V3→Rat}(hT:Cone T){o a b c:V3}(h:Cop a b c o):Ai.tip T o a b c=0:=by
 unfold Ai.tip;rw[hT.add a b c o h];grind
theorem aMp {p:Pl}{x y:V3}(h:p.over x≠p.over y):p.height x - p.height y≠0:=by
 refine aQo ?_;unfold Pl.over at h
 by_cases h1:0<p.height x<;>by_cases h2:0<p.height y<;>simp[h1,h2]at h ⊢
theorem gY {p:Pl}{x y:V3}(h:p.over x≠p.over y):p.height (p.cut x y)=0:=by
 have h1:=aMp h
 have h2:p.height (p.cut x y)=p.height x - (p.height x - p.height y)*(p.height x/(p.height x - p.height y)):=by
  unfold Pl.cut;generalize p.height x/(p.height x - p.height y)=s;simp only[Pl.height,V3.add,V3.sub,V3.scale,V3.dot];grind
 rw[h2];generalize p.height x - p.height y=d at *;generalize p.height x=x at *
 grind
theorem mI {p:Pl}{x y:V3}(h:p.over x≠p.over y):p.cut y x=p.cut x y:=by
 have h1:=aMp h
 have h2:p.height y/(p.height y - p.height x)=1 - p.height x/(p.height x - p.height y):=by
  generalize p.height x=u at *;generalize p.height y=v at *;have h3:v - u≠0:=by grind
  grind
 unfold Pl.cut;rw[h2];generalize p.height x/(p.height x - p.height y)=s;simp only[V3.add,V3.sub,V3.scale,V3.mk.injEq];refine⟨?_,?_,?_⟩<;>grind
theorem xQ {p:Pl}(hn:p.n≠V3.zero){a b c d:V3}(ha:p.height a=0)(hb:p.height b=0)(hc:p.height c=0)(hd:p.height d=0):Cop a b c d:=by
 obtain⟨⟨n1,n2,n3⟩,q⟩:=p;simp only[Cop,Pl.height,V3.dot,V3.cross,V3.sub]at *;have e1:n1*(a.x - d.x)+n2*(a.y - d.y)+n3*(a.z - d.z)=0:=by grind
 have e2:n1*(b.x - d.x)+n2*(b.y - d.y)+n3*(b.z - d.z)=0:=by grind
 have e3:n1*(c.x - d.x)+n2*(c.y - d.y)+n3*(c.z - d.z)=0:=by grind
 clear ha hb hc hd;generalize a.x - d.x=a1 at *;generalize a.y - d.y=a2 at *;generalize a.z - d.z=a3 at *;generalize b.x - d.x=b1 at *;generalize b.y - d.y=b2 at *;generalize b.z - d.z=b3 at *;generalize c.x - d.x=c1 at *;generalize c.y - d.y=c2 at *;generalize c.z - d.z=c3 at *;generalize hD:a1*(b2*c3 - b3*c2)+a2*(b3*c1 - b1*c3)+a3*(b1*c2 - b2*c1)=D;have f1:n1*D=0:=by
  have:n1*D=(n1*a1+n2*a2+n3*a3)*(b2*c3 - b3*c2)+(n1*b1+n2*b2+n3*b3)*(c2*a3 - c3*a2)+(n1*c1+n2*c2+n3*c3)*(a2*b3 - a3*b2):=by rw[←hD];grind
  rw[this,e1,e2,e3];grind
 have f2:n2*D=0:=by
  have:n2*D=(n1*a1+n2*a2+n3*a3)*(b3*c1 - b1*c3)+(n1*b1+n2*b2+n3*b3)*(c3*a1 - c1*a3)+(n1*c1+n2*c2+n3*c3)*(a3*b1 - a1*b3):=by rw[←hD];grind
  rw[this,e1,e2,e3];grind
 have f3:n3*D=0:=by
  have:n3*D=(n1*a1+n2*a2+n3*a3)*(b1*c2 - b2*c1)+(n1*b1+n2*b2+n3*b3)*(c1*a2 - c2*a1)+(n1*c1+n2*c2+n3*c3)*(a1*b2 - a2*b1):=by rw[←hD];grind
  rw[this,e1,e2,e3];grind
 by_cases z:D=0
 ·exact z
 ·have g1:=(Rat.mul_eq_zero.1 f1).resolve_right z
  have g2:=(Rat.mul_eq_zero.1 f2).resolve_right z
  have g3:=(Rat.mul_eq_zero.1 f3).resolve_right z
  subst g1;subst g2;subst g3;exact absurd rfl hn
def qF (a e f x:V3):Prop:=∃u v,x=(a.add (e.scale u)).add (f.scale v)
theorem qF.cut {a e f x y:V3}(p:Pl)(hx:qF a e f x)(hy:qF a e f y):qF a e f (p.cut x y):=by
 obtain⟨u,v,rfl⟩:=hx;obtain⟨u',v',rfl⟩:=hy;unfold Pl.cut;generalize Pl.height _ _/_=s;refine⟨u+(u' - u)*s,v+(v' - v)*s,?_⟩;simp only[V3.add,V3.sub,V3.scale,V3.mk.injEq];refine⟨?_,?_,?_⟩<;>grind
theorem qF.cop {a e f x y z w:V3}(hx:qF a e f x)(hy:qF a e f y)(hz:qF a e f z)(hw:qF a e f w):Cop x y z w:=by
 obtain⟨u1,v1,rfl⟩:=hx;obtain⟨u2,v2,rfl⟩:=hy;obtain⟨u3,v3,rfl⟩:=hz;obtain⟨u4,v4,rfl⟩:=hw;have key:∀u v:Rat,(((a.add (e.scale u)).add (f.scale v)).sub ((a.add (e.scale u4)).add (f.scale v4)))=(e.scale (u - u4)).add (f.scale (v - v4)):=fun u v=>by
  simp only[V3.add,V3.sub,V3.scale,V3.mk.injEq];refine⟨?_,?_,?_⟩<;>grind
 unfold Cop;rw[key,key,key];generalize u1 - u4=p1;generalize u2 - u4=p2;generalize u3 - u4=p3;generalize v1 - v4=q1;generalize v2 - v4=q2;generalize v3 - v4=q3;simp only[V3.add,V3.scale,V3.dot,V3.cross]
 grind
theorem qF.a (t:Tri):qF t.a (t.b.sub t.a) (t.c.sub t.a) t.a:=⟨0,0,by cases t;rename_i a b c;cases a;simp only[V3.add,V3.sub,V3.scale,V3.mk.injEq];refine⟨?_,?_,?_⟩<;>grind⟩
theorem qF.b (t:Tri):qF t.a (t.b.sub t.a) (t.c.sub t.a) t.b:=⟨1,0,by cases t;rename_i a b c;cases b;simp only[V3.add,V3.sub,V3.scale,V3.mk.injEq];refine⟨?_,?_,?_⟩<;>grind⟩
theorem qF.c (t:Tri):qF t.a (t.b.sub t.a) (t.c.sub t.a) t.c:=⟨0,1,by cases t;rename_i a b c;cases c;simp only[V3.add,V3.sub,V3.scale,V3.mk.injEq];refine⟨?_,?_,?_⟩<;>grind⟩
def vC (T:V3→V3→V3→Rat):List V3→Rat
 | [a,b,c]=>T a b c
 | [a,b,c,d]=>T a b c+T a c d
 | _=>0
def aFg (T:V3→V3→V3→Rat)(p:Pl)(o x y:V3):Rat:=
 if p.over x then(if p.over y then 0 else T o (p.cut x y) y)else(if p.over y then T o x (p.cut x y)else T o x y)
theorem aDv {T:V3→V3→V3→Rat}(hT:Cone T)(p:Pl)(o:V3):aEh (aFg T p o):=fun x y=>by
 unfold aFg;cases hx:p.over x<;>cases hy:p.over y
 ·simp;exact hT.alt _ _ _
 ·simp;rw[mI (x:=x) (y:=y) (by rw[hx,hy];decide)];exact hT.alt _ _ _
 ·simp;rw[mI (x:=x) (y:=y) (by rw[hx,hy];decide)];exact hT.alt _ _ _
 ·simp
theorem aDn {T:V3→V3→V3→Rat}(hT:Cone T){p:Pl}{t:Tri}{a e f B:V3}(ha:qF a e f t.a)(hb:qF a e f t.b)(hc:qF a e f t.c)(hB:qF a e f B)(hz:¬(p.over t.a=p.over t.b∧p.over t.b=p.over t.c)→∀X Y,p.height X=0→p.height Y=0→T B X Y=0):
  vC T (t.low p)=gL (aFg T p B) t:=by
 have k1:=ha.cut p hb
 have k2:=hb.cut p hc
 have k3:=hc.cut p ha
 have A:∀{x y z},qF a e f x→qF a e f y→qF a e f z→T x y z=T B x y+T B y z+T B z x:=fun h1 h2 h3=>hT.add _ _ _ _ (h1.cop h2 h3 hB)
 have z1:p.over t.a≠p.over t.b→p.height (p.cut t.a t.b)=0:=gY
 have z2:p.over t.b≠p.over t.c→p.height (p.cut t.b t.c)=0:=gY
 have z3:p.over t.c≠p.over t.a→p.height (p.cut t.c t.a)=0:=gY
 have R:=fun x y=>hT.alt B x y
 cases h1:p.over t.a<;>cases h2:p.over t.b<;>cases h3:p.over t.c<;>simp only[h1,h2,h3,ne_eq,reduceCtorEq,not_true_eq_false,not_false_eq_true,forall_const,false_implies,true_and,and_true,false_and,and_false,and_self,Tri.low,Pl.low,gL,aFg,ite_true,ite_false,Bool.false_eq_true,List.append_nil,List.nil_append,List.cons_append,List.append_assoc,vC]at *
 ·exact A ha hb hc
 ·rw[A ha hb k2,A ha k2 k3,R (p.cut t.b t.c) t.a,hz _ _ z2 z3]<;>grind
 ·rw[A ha k1 k2,A ha k2 hc,R (p.cut t.b t.c) t.a,hz _ _ z1 z2]<;>grind
 ·rw[A ha k1 k3,hz _ _ z1 z3]<;>grind
 ·rw[A k1 hb hc,A k1 hc k3,R t.c,hz _ _ z3 z1]<;>grind
 ·rw[A k1 hb k2,hz _ _ z2 z1]<;>grind
 ·rw[A k2 hc k3,hz _ _ z3 z2]<;>grind
 ·grind
def aJh (F:V3→V3→Rat)(p:Pl)(t:Tri):Rat:=
 match p.over t.a,p.over t.b,p.over t.c with
 | true,false,false=>F (p.cut t.a t.b) (p.cut t.c t.a)
 | false,true,false=>F (p.cut t.b t.c) (p.cut t.a t.b)
 | false,false,true=>F (p.cut t.c t.a) (p.cut t.b t.c)
 | false,true,true=>F (p.cut t.c t.a) (p.cut t.a t.b)
 | true,false,true=>F (p.cut t.a t.b) (p.cut t.b t.c)
 | true,true,false=>F (p.cut t.b t.c) (p.cut t.c t.a)
 | _,_,_=>0
theorem aVu {F:V3→V3→Rat}(hF:∀x,F x x=0)(t:Tri)(p:Pl):cZ (fun g=>F g.a g.b) (t.seg p)=aJh F p t:=by
 have c1:=fun h=>mI (p:=p) (x:=t.a) (y:=t.b) h
 have c2:=fun h=>mI (p:=p) (x:=t.b) (y:=t.c) h
 have c3:=fun h=>mI (p:=p) (x:=t.c) (y:=t.a) h
 have sg:∀(x y:V3),cZ (fun g:Seg=>F g.a g.b) (if x=y then []else [⟨x,y⟩])=F x y:=fun x y=>by
  split
  ·rename_i e;subst e;exact(hF x).symm
  ·simp only[cZ];grind
 cases h1:p.over t.a<;>cases h2:p.over t.b<;>cases h3:p.over t.c<;>simp only[h1,h2,h3,ne_eq,reduceCtorEq,not_true_eq_false,not_false_eq_true,forall_const,Tri.seg,Tri.cx,Tri.cy,Tri.turn,Tri.cutP,aCh,Tri.rot,aJh]at *
 ·rfl
 ·simp only[Int.toNat,Tri.rot,c2,Int.reduceLT,ite_false,ite_true,reduceIte];exact sg _ _
 ·simp only[Int.toNat,Tri.rot,c1,Int.reduceLT,ite_false,ite_true,reduceIte];exact sg _ _
 ·simp only[Int.toNat,Tri.rot,←c3,Int.reduceLT,ite_false,ite_true,reduceIte];simp only[eq_comm (a:=p.cut t.a t.b),reduceIte,Bool.false_eq_true];exact sg _ _
 ·simp only[Int.toNat,Tri.rot,c3,Int.reduceLT,ite_false,ite_true,reduceIte];exact sg _ _
 ·simp only[Int.toNat,Tri.rot,c1,Int.reduceLT,ite_false,ite_true,reduceIte];simp only[eq_comm (a:=p.cut t.b t.c),reduceIte,Bool.false_eq_true];exact sg _ _
 ·simp only[Int.toNat,Tri.rot,c2,Int.reduceLT,ite_false,ite_true,reduceIte];simp only[eq_comm (a:=p.cut t.c t.a),reduceIte,Bool.false_eq_true];exact sg _ _
 ·rfl
theorem aKu {t:Tri}{p:Pl}{g:Seg}(h:g∈t.seg p):p.height g.a=0∧p.height g.b=0:=by
 have c1:=fun h=>gY (p:=p) (x:=(t.turn p).a) (y:=(t.turn p).b) h
 have c2:=fun h=>gY (p:=p) (x:=(t.turn p).a) (y:=(t.turn p).c) h
 unfold Tri.seg at h;split at h
 ·cases h
 ·rename_i hc;have h1:p.over (t.turn p).a≠p.over (t.turn p).b∧p.over (t.turn p).a≠p.over (t.turn p).c:=by
   unfold Tri.turn Tri.cutP at *;cases h1:p.over t.a<;>cases h2:p.over t.b<;>cases h3:p.over t.c<;>simp[h1,h2,h3,aCh,Tri.rot]at hc ⊢
  have c1:=c1 h1.1
  have c2:=c2 h1.2
  split at h
  ·cases h
  ·split at h
   ·simp at h;subst h;exact⟨c1,c2⟩
   ·simp at h;subst h;exact⟨c2,c1⟩
def chi (φ:V3→Rat)(p:Pl)(x y:V3):Rat:=
 if p.over x then(if p.over y then 0 else φ (p.cut x y))else(if p.over y then -φ (p.cut x y)else 0)
theorem aQd (φ:V3→Rat)(p:Pl):aEh (chi φ p):=fun x y=>by
 unfold chi;cases hx:p.over x<;>cases hy:p.over y
 ·simp
 ·simp;rw[mI (x:=x) (y:=y) (by rw[hx,hy];decide)]
 ·simp;rw[mI (x:=x) (y:=y) (by rw[hx,hy];decide)]
 ·simp
theorem aUa (φ:V3→Rat)(p:Pl)(t:Tri):aJh (fun x y=>φ x - φ y) p t=gL (chi φ p) t:=by
 cases h1:p.over t.a<;>cases h2:p.over t.b<;>cases h3:p.over t.c<;>simp only[h1,h2,h3,aJh,gL,chi,ite_true,ite_false,Bool.false_eq_true]<;>grind
theorem aUb {T:V3→V3→V3→Rat}(hT:Cone T)(p:Pl)(o:V3)(t:Tri):aJh (T o) p t+vC T (t.low p)=vC (tip T o) (t.low p)+gL (aFg T p o) t:=by
 have R:=hT.alt o
 cases h1:p.over t.a<;>cases h2:p.over t.b<;>cases h3:p.over t.c<;>simp only[h1,h2,h3,reduceCtorEq,Tri.low,Pl.low,gL,aFg,ite_true,ite_false,Bool.false_eq_true,List.append_nil,List.nil_append,List.cons_append,List.append_assoc,vC,tip,aJh]at *
 ·grind
 ·rw[R t.a (p.cut t.b t.c),R (p.cut t.b t.c) (p.cut t.c t.a)];grind
 ·rw[R t.a (p.cut t.b t.c),R (p.cut t.a t.b) (p.cut t.b t.c)];grind
 ·rw[R (p.cut t.a t.b) (p.cut t.c t.a)];grind
 ·rw[R (p.cut t.a t.b) t.c,R (p.cut t.c t.a) (p.cut t.a t.b)];grind
 ·rw[R (p.cut t.b t.c) (p.cut t.a t.b)];grind
 ·rw[R (p.cut t.c t.a) (p.cut t.b t.c)];grind
 ·grind
def aCe (T:V3→V3→V3→Rat)(p:Pl)(l:List Tri):Rat:=
 cZ (fun g=>T ((dB p l).headD ⟨V3.zero,V3.zero⟩).a g.a g.b) (dB p l)+cZ (fun t=>vC T (t.low p)) l
theorem aSz {F:V3→V3→Rat}(hF:∀x,F x x=0)(p:Pl)(l:List Tri):cZ (fun g=>F g.a g.b) (dB p l)=cZ (aJh F p) l:=by
 unfold dB;rw[aEc];exact kQ fun t _=>aVu hF t p
theorem aLe {T:V3→V3→V3→Rat}(hT:Cone T){p:Pl}(hn:p.n≠V3.zero){l:List Tri}(hm:fL l=true){o:V3}(ho:p.height o=0):
  aCe T p l=cZ (fun t=>vC (tip T o) (t.low p)) l:=by
 have hh:∀g,g∈dB p l→p.height g.a=0∧p.height g.b=0:=fun g hg=>by
  obtain⟨t,_,h⟩:=List.mem_flatMap.1 hg;exact aKu h
 have e1:cZ (fun g=>T ((dB p l).headD ⟨V3.zero,V3.zero⟩).a g.a g.b) (dB p l)=cZ (fun g=>T o g.a g.b) (dB p l):=by
  cases hs:dB p l with
  | nil=>rfl
  | cons g0 s=>
   rw[←hs];have h0:p.height ((dB p l).headD ⟨V3.zero,V3.zero⟩).a=0:=by rw[hs];exact(hh g0 (by rw[hs];exact .head _)).1
   generalize ((dB p l).headD ⟨V3.zero,V3.zero⟩).a=o0 at *;rw[kQ (g:=fun g=>T o g.a g.b+(T o o0 g.a - T o o0 g.b)) fun g hg=>by
    rw[hT.add o0 g.a g.b o (xQ hn h0 (hh g hg).1 (hh g hg).2 ho),hT.alt o o0 g.b];grind]
   rw[rR,aSz (F:=fun x y=>T o o0 x - T o o0 y) (fun x=>by grind),kQ fun t _=>aUa (T o o0) p t,vP hm (aQd _ _)]
   grind
 unfold aCe;rw[e1,aSz (F:=T o) (fun x=>hT.same o x),←rR,kQ fun t _=>aUb hT p o t,rR,vP hm (aDv hT p o)]
 grind
theorem aSc {p:Pl}(hn:p.n≠V3.zero):∃o,p.height o=0:=by
 obtain⟨⟨n1,n2,n3⟩,q⟩:=p
 by_cases h1:n1=0
 ·by_cases h2:n2=0
  ·by_cases h3:n3=0
   ·subst h1;subst h2;subst h3;exact absurd rfl hn
   ·exact⟨⟨0,0,q/n3⟩,by simp only[Pl.height,V3.dot];grind⟩
  ·exact⟨⟨0,q/n2,0⟩,by simp only[Pl.height,V3.dot];grind⟩
 ·exact⟨⟨q/n1,0,0⟩,by simp only[Pl.height,V3.dot];grind⟩
theorem exB (p:Pl){t:Tri}{P:V3}(hP:qF t.a (t.b.sub t.a) (t.c.sub t.a) P):∃B,qF t.a (t.b.sub t.a) (t.c.sub t.a) B∧(¬(p.over t.a=p.over t.b∧p.over t.a=p.over t.c∧p.over t.a=p.over P)→p.height B=0):=by
 by_cases h1:p.over t.a=p.over t.b
 ·by_cases h2:p.over t.a=p.over t.c
  ·by_cases h3:p.over t.a=p.over P
   ·exact⟨P,hP,fun h=>absurd ⟨h1,h2,h3⟩ h⟩
   ·exact⟨_,(qF.a t).cut p hP,fun _=>gY h3⟩
  ·exact⟨_,(qF.a t).cut p (qF.c t),fun _=>gY h2⟩
 ·exact⟨_,(qF.a t).cut p (qF.b t),fun _=>gY h1⟩
theorem uJ {T:V3→V3→V3→Rat}{π:Ms→Rat}(h0:π Ms.none=0)(ha:∀m n,π (m.add n)=π m+π n)(hm:∀a b c,π (Tri.mass ⟨a,b,c⟩)=T a b c)(p:Pl)(l:List Tri):π (aT p l)=aCe T p l:=by
 have f1:∀(L:List V3) (s:Ms),π (fan L s)=π s+vC T L:=fun L s=>by
  match L with
  | [] | [_] | [_,_] | _::_::_::_::_::_=>simp only[fan,vC];grind
  | [a,b,c]=>simp only[fan,vC];rw[ha,hm]
  | [a,b,c,d]=>simp only[fan,vC];rw[ha,ha,hm,hm];grind
 have f2:∀(l:List Tri) (s:Ms),π (aU5 p l s)=π s+cZ (fun t=>vC T (t.low p)) l:=fun l=>by
  unfold aU5
  induction l with
  | nil=>intro s;simp only[List.foldl,cZ];grind
  | cons t l ih=>intro s;rw[List.foldl_cons,ih,f1];simp only[cZ];grind
 have f3:∀(o:V3) (l:List Seg) (s:Ms),π (l.foldl (fun s g=>s.add (Tri.mass ⟨o,g.a,g.b⟩)) s)=π s+cZ (fun g=>T o g.a g.b) l:=fun o l=>by
  induction l with
  | nil=>intro s;simp only[List.foldl,cZ];grind
  | cons t l ih=>intro s;rw[List.foldl_cons,ih,ha,hm];simp only[cZ];grind
 unfold aT aSx aCe;rw[f2,f3,h0]
 grind
theorem aV5 (p:Pl)(l:List Tri):(aT p l).v=aCe aK8 p l:=uJ (π:=Ms.v) rfl (fun _ _=>rfl) (fun _ _ _=>rfl) p l
theorem aV6 (p:Pl)(l:List Tri):(aT p l).f.x=aCe (sV V3.x) p l:=uJ (π:=fun m=>m.f.x) rfl (fun _ _=>rfl) (fun _ _ _=>rfl) p l
theorem aV7 (p:Pl)(l:List Tri):(aT p l).f.y=aCe (sV V3.y) p l:=uJ (π:=fun m=>m.f.y) rfl (fun _ _=>rfl) (fun _ _ _=>rfl) p l
theorem aV8 (p:Pl)(l:List Tri):(aT p l).f.z=aCe (sV V3.z) p l:=uJ (π:=fun m=>m.f.z) rfl (fun _ _=>rfl) (fun _ _ _=>rfl) p l
def V3.mir (v:V3):V3:=⟨v.x,-v.y,v.z⟩
def Tri.mir (t:Tri):Tri:=⟨t.a.mir,t.c.mir,t.b.mir⟩
def Pl.mir (p:Pl):Pl:=⟨p.n.mir,p.a⟩
theorem kN (p:Pl)(v:V3):p.mir.height v.mir=p.height v:=by simp only[Pl.mir,Pl.height,V3.mir,V3.dot];grind
theorem rL (p:Pl)(v:V3):p.mir.over v.mir=p.over v:=by unfold Pl.over;rw[kN]
theorem aU7 (p:Pl)(u v:V3):p.mir.cut u.mir v.mir=(p.cut u v).mir:=by
 unfold Pl.cut;rw[kN,kN];generalize p.height u/_=s;simp only[V3.mir,V3.add,V3.sub,V3.scale,V3.mk.injEq,true_and,and_true];grind
theorem zW {a e f x:V3}(h:qF a e f x):qF a.mir e.mir f.mir x.mir:=by
 obtain⟨u,v,rfl⟩:=h;refine⟨u,v,?_⟩;simp only[V3.mir,V3.add,V3.scale,V3.mk.injEq,true_and,and_true];grind
theorem aKc {p:Pl}(h:p.n≠V3.zero):p.mir.n≠V3.zero:=fun e=>h (by
 obtain⟨⟨x,y,z⟩,q⟩:=p;simp only[Pl.mir,V3.mir,V3.zero,V3.mk.injEq]at *;refine⟨e.1,?_,e.2.2⟩;grind)
theorem aBl (l:List Tri):fL (l.map Tri.mir)=fL l:=by
 have e:∀(ψ:V3→V3→Rat),aEh ψ→∀l:List Tri,cZ (gL ψ) (l.map Tri.mir)=-cZ (gL fun x y=>ψ x.mir y.mir) l:=fun ψ hψ l=>by
  induction l with
  | nil=>simp only[List.map,cZ];grind
  | cons t l ih=>
   simp only[List.map,cZ,gL,Tri.mir];rw[ih,hψ t.b.mir t.a.mir,hψ t.c.mir t.b.mir,hψ t.a.mir t.c.mir];grind
 have m:∀v:V3,v.mir.mir=v:=fun v=>by cases v;simp only[V3.mir,V3.mk.injEq,true_and,and_true];grind
 refine aKa (fun h ψ hψ=>?_) (fun h ψ hψ=>?_)
 ·rw[e ψ hψ,h _ fun x y=>hψ _ _];grind
 ·have h1:=h (fun x y=>ψ x.mir y.mir) fun x y=>hψ _ _
  rw[e _ fun x y=>hψ _ _]at h1;simp only[m]at h1;have:(fun x y=>ψ x y)=ψ:=rfl
  rw[this]at h1
  grind
structure Flip (T:V3→V3→V3→Rat)(σ:Rat):Prop where
 f:∀a b c,T a.mir b.mir c.mir=-(σ*T a b c)
theorem Flip.tip {T:V3→V3→V3→Rat}{σ:Rat}(h:Flip T σ)(o:V3)(a b c:V3):tip T o.mir a.mir b.mir c.mir=-(σ*tip T o a b c):=by
 unfold Ai.tip;rw[h.f,h.f,h.f,h.f];grind
theorem aBj {T T':V3→V3→V3→Rat}{σ:Rat}{p:Pl}{B:V3}(h:∀a b c,T' a.mir b.mir c.mir=-(σ*T a b c))(x y:V3):aFg T' p.mir B.mir x.mir y.mir=-(σ*aFg T p B x y):=by
 unfold aFg;rw[rL,rL,aU7,h,h,h];cases p.over x<;>cases p.over y<;>simp<;>grind
theorem aV0 {T:V3→V3→V3→Rat}{σ:Rat}(hT:Cone T)(hF:Flip T σ){p:Pl}(hn:p.n≠V3.zero){o:V3}(ho:p.height o=0)(t:Tri):
  vC (tip T o.mir) (t.mir.low p.mir)=σ*vC (tip T o) (t.low p):=by
 obtain⟨B,hB,h0⟩:=exB p (qF.a t);have hz:¬(p.over t.a=p.over t.b∧p.over t.a=p.over t.c)→∀X Y,p.height X=0→p.height Y=0→tip T o B X Y=0:=fun h X Y hX hY=>hT.tip0 (xQ hn (h0 fun e=>h ⟨e.1,e.2.1⟩) hX hY ho)
 have hz':¬(p.over t.a=p.over t.b∧p.over t.a=p.over t.c)→∀X Y,p.mir.height X=0→p.mir.height Y=0→tip T o.mir B.mir X Y=0:=fun h X Y hX hY=>hT.tip0 (xQ (aKc hn) (by rw[kN];exact h0 fun e=>h ⟨e.1,e.2.1⟩) hX hY (by rw[kN];exact ho))
 have A:=aDv (hT.tip o) p B
 rw[aDn (hT.tip o) (qF.a t) (qF.b t) (qF.c t) hB fun h=>hz fun e=>h ⟨e.1,e.1.symm.trans e.2⟩,
  aDn (hT.tip o.mir) (t:=t.mir) (zW (qF.a t)) (zW (qF.c t)) (zW (qF.b t)) (zW hB) fun h=>hz' fun e=>h (by
   show p.mir.over t.a.mir=p.mir.over t.c.mir∧p.mir.over t.c.mir=p.mir.over t.b.mir
   rw[rL,rL,rL];exact⟨e.2,e.2.symm.trans e.1⟩)]
 simp only[gL,Tri.mir];rw[aBj (hF.tip o),aBj (hF.tip o),aBj (hF.tip o),A t.b t.a,A t.c t.b,A t.a t.c]
 grind
theorem aIu {α:Type}(s:Rat)(f:α→Rat):∀l:List α,cZ (fun x=>s*f x) l=s*cZ f l
 | []=>by simp only[cZ];grind
 | x::l=>by simp only[cZ,aIu s f l];grind
theorem aIt {α β:Type}(f:β→Rat)(g:α→β):∀l:List α,cZ f (l.map g)=cZ (fun x=>f (g x)) l
 | []=>rfl
 | x::l=>by simp only[List.map,cZ,aIt f g l]
theorem yZ {T:V3→V3→V3→Rat}{σ:Rat}(hT:Cone T)(hF:Flip T σ){p:Pl}(hn:p.n≠V3.zero){l:List Tri}(hm:fL l=true):aCe T p.mir (l.map Tri.mir)=σ*aCe T p l:=by
 obtain⟨o,ho⟩:=aSc hn;rw[aLe hT hn hm ho,aLe hT (aKc hn) (by rw[aBl];exact hm) (o:=o.mir) (by rw[kN];exact ho),aIt,←aIu];exact kQ fun t _=>aV0 hT hF hn ho t
theorem uW (a b c:V3):kG a.mir b.mir c.mir=-kG a b c:=by simp only[kG,V3.dot,V3.cross,V3.mir];grind
theorem aYb:Flip aK8 1:=⟨fun a b c=>by unfold aK8;rw[uW];grind⟩
theorem aYc:Flip (sV V3.x) 1:=⟨fun a b c=>by unfold sV;rw[uW];simp only[V3.mir];grind⟩
theorem aYd:Flip (sV V3.y) (-1):=⟨fun a b c=>by unfold sV;rw[uW];simp only[V3.mir];grind⟩
theorem aYe:Flip (sV V3.z) 1:=⟨fun a b c=>by unfold sV;rw[uW];simp only[V3.mir];grind⟩
theorem aNa {p:Pl}(hn:p.n≠V3.zero){l:List Tri}(hm:fL l=true):
  (aT p.mir (l.map Tri.mir)).v=(aT p l).v∧(aT p.mir (l.map Tri.mir)).f=(aT p l).f.mir:=by
 refine⟨by rw[aV5,aV5,yZ aQj aYb hn hm];grind,?_⟩;have h1:(aT p.mir (l.map Tri.mir)).f.x=(aT p l).f.x:=by rw[aV6,aV6,yZ aX0 aYc hn hm];grind
 have h2:(aT p.mir (l.map Tri.mir)).f.y=-(aT p l).f.y:=by rw[aV7,aV7,yZ aX1 aYd hn hm];grind
 have h3:(aT p.mir (l.map Tri.mir)).f.z=(aT p l).f.z:=by rw[aV8,aV8,yZ aX2 aYe hn hm];grind
 cases hf:(aT p.mir (l.map Tri.mir)).f;rw[hf]at h1 h2 h3;unfold V3.mir;cases h1;cases h2;cases h3;rfl
def At.mir (a:At):At:=⟨-a.h,a.t⟩
theorem aZm (a:At)(d:Rat):(At.mir a).up=a.up.mir:=by
 have e1:gV (-a.h)=gV a.h:=by unfold gV;rw[show -a.h*-a.h=a.h*a.h by grind]
 have e2:gJ (-a.h)=-gJ a.h:=by
  unfold gJ;rw[show -a.h*-a.h=a.h*a.h by grind,show 2*-a.h=-(2*a.h) by grind];generalize 1+a.h*a.h=d
  grind
 unfold At.mir At.up V3.mir;simp only[e1,e2,V3.mk.injEq,true_and,and_true]
 grind
theorem aZl (a:At):(At.mir a).ok=a.ok:=by
 have h1:(-1≤-a.h)=(a.h≤1):=propext ⟨fun h=>by grind,fun h=>by grind⟩
 have h2:(-a.h≤1)=(-1≤a.h):=propext ⟨fun h=>by grind,fun h=>by grind⟩
 unfold At.ok At.mir;simp only[h1,h2];cases decide (-1≤a.h)<;>cases decide (a.h≤1)<;>rfl
end Go.Ai
namespace Go.Ai
open Go Go.Proofs Go.Num V3
theorem aAh:aB PP 24:=zK
theorem vA {r:Raw}{e:Int}(hr:r.errs e)(hL:r.L.length=9*r.N){X:Nat→Prop}{w:World}{v:Value}(hX:∀b,X b→b<w.heap.size)(hv:(rowS r.N r.L).p v X w):
  Fn PP 24 [v,r.attV,.string r.d] X w (dJ (.tuple #[.agg #[.string ⟨#[]⟩,.string ⟨#[]⟩,.string ⟨#[]⟩],.int .i64 e])):=by
 have kw:∀{X:Nat→Prop} {w:World} {v:Value},(∀b,X b→b<w.heap.size)→(rowS r.N r.L).p v X w→Fn PP 60 [v,r.attV,.string r.d] X w (dJ (.tuple #[.agg #[.string ⟨#[]⟩,.string ⟨#[]⟩,.string ⟨#[]⟩,.string ⟨#[]⟩,.string ⟨#[]⟩,.string ⟨#[]⟩,.string ⟨#[]⟩,.string ⟨#[]⟩,.string ⟨#[]⟩,.string ⟨#[]⟩],.int .i64 e])):=fun hX hv=>aA2 hr hL hX hv
 obtain⟨R,hRR⟩:=nm (dJ (.tuple #[.agg #[.string ⟨#[]⟩,.string ⟨#[]⟩,.string ⟨#[]⟩],.int .i64 e]));rw[←hRR];unfold Raw.attV at *;obtain⟨RS,hRS⟩:=nm (rowS r.N r.L);rw[←hRS]at hv kw;obtain⟨K,hK⟩:=nm ([KF.cst v RS]);refine bE mixed tok [.q v,.g [.s (.v r.h),.s (.v r.t)],.s (.v r.d)] (K:=K) Tryz.func24 rfl rfl (lbl rfl) rfl hX (by rw[hK];simp;exact hv) fun c hc hR=>?_
 refine zN hc ?_;cbv;refine bL hc (.t [.g [.s (.v ⟨#[]⟩),.s (.v ⟨#[]⟩),.s (.v ⟨#[]⟩),.s (.v ⟨#[]⟩),.s (.v ⟨#[]⟩),.s (.v ⟨#[]⟩),.s (.v ⟨#[]⟩),.s (.v ⟨#[]⟩),.s (.v ⟨#[]⟩),.s (.v ⟨#[]⟩)],.i .i64 (.v e)]) qP (fun n0 D X μ a w aL H hv=>?_) rfl 100 ?_
 ·obtain⟨u1,u2,u3,rfl,e1,e2,e3⟩:=eX hv;rw[cA e1,show u2=_ from(Option.some.inj e2).symm,show u3=_ from(Option.some.inj e3).symm];exact kw H.xlt (H.cst (by rw[hK];exact .head _))
 cbv;refine aS hc hR rfl (fun X μ a w v' H hv'=>?_);rw[hRR];simp only[aC,aH]at hv';injection hv' with hv'
 exact hv'.symm
theorem yJ {r:Raw}{l:List Tri}{p:Pl}(hg:r.good l p)(hp:p.fit (2^9))(hl:∀t,t∈l→t.le (2^9))(hN:r.N≤32)(hL:r.L.length=9*r.N){X:Nat→Prop}{w:World}{v:Value}(hX:∀b,X b→b<w.heap.size)(hv:(rowS r.N r.L).p v X w):
  Fn PP 24 [v,r.attV,.string r.d] X w (dJ (.tuple #[fS (aT p l).f,.int .i64 0])):=by
 have kw:∀{X:Nat→Prop} {w:World} {v:Value},(∀b,X b→b<w.heap.size)→(rowS r.N r.L).p v X w→Fn PP 60 [v,r.attV,.string r.d] X w (dJ (.tuple #[oO (aT p l),.int .i64 0])):=fun hX hv=>xH hg hp hl hN hL hX hv
 clear hg hp;unfold oO at kw;obtain⟨R,hRR⟩:=nm (dJ (.tuple #[fS (aT p l).f,.int .i64 0]));rw[←hRR];unfold fS kR at hRR;unfold Raw.attV at *;obtain⟨RS,hRS⟩:=nm (rowS r.N r.L);rw[←hRS]at hv kw;obtain⟨K,hK⟩:=nm ([KF.cst v RS]);generalize aA (aT p l).v=m0 at *;generalize aA (aT p l).f.x=m1 at *;generalize aA (aT p l).f.y=m2 at *;generalize aA (aT p l).f.z=m3 at *;generalize aA (aT p l).xx=m4 at *;generalize aA (aT p l).yy=m5 at *;generalize aA (aT p l).zz=m6 at *;generalize aA (aT p l).xy=m7 at *;generalize aA (aT p l).yz=m8 at *;generalize aA (aT p l).zx=m9 at *;refine bE mixed tok [.q v,.g [.s (.v r.h),.s (.v r.t)],.s (.v r.d)] (K:=K) Tryz.func24 rfl rfl (lbl rfl) rfl hX (by rw[hK];simp;exact hv) fun c hc hR=>?_
 refine zN hc ?_;cbv;refine bL hc (.t [.g [.s (.v m0),.s (.v m1),.s (.v m2),.s (.v m3),.s (.v m4),.s (.v m5),.s (.v m6),.s (.v m7),.s (.v m8),.s (.v m9)],.i .i64 (.l 0)]) qP (fun n0 D X μ a w aL H hv=>?_) rfl 100 ?_
 ·obtain⟨u1,u2,u3,rfl,e1,e2,e3⟩:=eX hv;rw[cA e1,show u2=_ from(Option.some.inj e2).symm,show u3=_ from(Option.some.inj e3).symm];exact kw H.xlt (H.cst (by rw[hK];exact .head _))
 cbv;refine aS hc hR rfl (fun X μ a w v' H hv'=>?_);rw[hRR];simp only[aC,aH]at hv';injection hv' with hv'
 exact hv'.symm
theorem aNl:aB PP 35:=zK
theorem aK4 {h t:ByteArray}(hh:h.size≤2^31)(ht:t.size≤2^31)(xK:(iK h&&iK t)=false):Pure PP 79 [.agg #[.string h,.string t]] (.int .i64 1):=by
 have k0:=aVy h t hh ht
 change ((nU h.data.toList).isSome&&(nU t.data.toList).isSome)=false at xK
 rw[xK]at k0;refine aG mixed tok [.g [.s (.v h),.s (.v t)]] Tryz.func79 rfl rfl (lbl rfl) rfl fun c hc hR=>?_
 refine zN hc ?_;cbv;refine zC hc (.b (.l false)) k0 pD ?_;cbv;exact aD hc hR rfl rfl
theorem aB7 {h t:ByteArray}{e:Int}(he:e≠0)(kc:Pure PP 79 [.agg #[.string h,.string t]] (.int .i64 e)):Pure PP 35 [.agg #[.string h,.string t]] (.tuple #[.agg #[.string ⟨#[]⟩,.string ⟨#[]⟩],.int .i64 e]):=by
 have b0:=aM3 he
 refine aG mixed tok [.g [.s (.v h),.s (.v t)]] Tryz.func35 rfl rfl (lbl rfl) rfl fun c hc hR=>?_
 refine zN hc ?_;cbv;refine zC hc (.i .i64 (.v e)) kc qW ?_;cbv;refine aE hc rfl 100 (fun h=>?_) (fun h=>absurd (b0.symm.trans h) (by decide));cbv;exact aD hc hR rfl rfl
theorem aVx {a:At}(ha:a.le (2^25))(hk:a.ok=true):Pure PP 35 [atV a] (.tuple #[atV (At.mir a),.int .i64 0]):=by
 have k0:=aFy ha
 unfold At.code at k0;rw[if_pos hk]at k0;have k1:=aTc (x:=a.h) (lTr ha.1 (by decide))
 unfold atV At.mir at *
 dsimp only
 clear hk ha;generalize aA (-a.h)=q at *;generalize aA a.h=h at *;generalize aA a.t=t at *;refine aG mixed tok [.g [.s (.v h),.s (.v t)]] Tryz.func35 rfl rfl (lbl rfl) rfl fun c hc hR=>?_
 refine zN hc ?_;cbv;refine zC hc (.i .i64 (.l 0)) k0 qW ?_;cbv;refine zD hc (.s (.v q)) k1 pE ?_;cbv;refine zE hc ?_;cbv;exact aD hc hR rfl rfl
def yW (a:ByteArray):ByteArray:=aA (-(nU a.data.toList).getD 0)
theorem aHz (q:Rat):yW (aA q)=aA (-q):=by unfold yW;rw[cT];rfl
def pP:List ByteArray→List ByteArray
 | a1::a2::a3::b1::b2::b3::d1::d2::d3::L=>a1::yW a2::a3::d1::yW d2::d3::b1::yW b2::b3::pP L
 | _=>[]
def okY:List ByteArray→Bool
 | a1::a2::a3::b1::b2::b3::d1::d2::d3::L=>iK a2&&iK b2&&iK d2&&okY L
 | _=>true
theorem sG {n:Nat}{L:List ByteArray}(h:L.length=9*(n+1)):∃a1 a2 a3 b1 b2 b3 d1 d2 d3 M,L=a1::a2::a3::b1::b2::b3::d1::d2::d3::M∧M.length=9*n:=by
 obtain⟨a1,L1,rfl,h1⟩:=eL (n:=9*n+8) (by omega);obtain⟨a2,L2,rfl,h2⟩:=eL h1;obtain⟨a3,L3,rfl,h3⟩:=eL h2;obtain⟨b1,L4,rfl,h4⟩:=eL h3;obtain⟨b2,L5,rfl,h5⟩:=eL h4;obtain⟨b3,L6,rfl,h6⟩:=eL h5;obtain⟨d1,L7,rfl,h7⟩:=eL h6;obtain⟨d2,L8,rfl,h8⟩:=eL h7;obtain⟨d3,L9,rfl,h9⟩:=eL h8;exact⟨_,_,_,_,_,_,_,_,_,_,rfl,h9⟩
theorem aHv:∀(n:Nat) (A B:List ByteArray),A.length=9*n→pP (A++B)=pP A++pP B
 | 0,A,B,h=>by rw[List.eq_nil_of_length_eq_zero h];rfl
 | n+1,A,B,h=>by
  obtain⟨a1,a2,a3,b1,b2,b3,d1,d2,d3,M,rfl,h'⟩:=sG h;simp only[List.cons_append,pP,aHv n M B h']
theorem aFl:∀(n:Nat) (A B:List ByteArray),A.length=9*n→okY (A++B)=(okY A&&okY B)
 | 0,A,B,h=>by rw[List.eq_nil_of_length_eq_zero h];rfl
 | n+1,A,B,h=>by
  obtain⟨a1,a2,a3,b1,b2,b3,d1,d2,d3,M,rfl,h'⟩:=sG h;simp only[List.cons_append,okY,aFl n M B h',Bool.and_assoc]
theorem aHx:∀(n:Nat) (A:List ByteArray),A.length=9*n→(pP A).length=9*n
 | 0,A,h=>by rw[List.eq_nil_of_length_eq_zero h];rfl
 | n+1,A,h=>by
  obtain⟨a1,a2,a3,b1,b2,b3,d1,d2,d3,M,rfl,h'⟩:=sG h;simp only[pP,List.length_cons,aHx n M h'];omega
theorem aHy:∀l:List Tri,pP (gQ l)=gQ (l.map Tri.mir)
 | []=>rfl
 | t::l=>by
  have:=aHy l
  unfold gQ at *;simp only[List.map,List.flatMap_cons,aO6,List.cons_append,List.nil_append,pP,this,aHz,Tri.mir,V3.mir]
theorem aHw:∀(n:Nat) (A:List ByteArray),A.length=9*n→okY A=true→nH (pP A)=nH A
 | 0,A,h,_=>by rw[List.eq_nil_of_length_eq_zero h];rfl
 | n+1,A,h,hA=>by
  obtain⟨a1,a2,a3,b1,b2,b3,d1,d2,d3,M,rfl,h'⟩:=sG h;simp only[okY,Bool.and_eq_true]at hA;obtain⟨⟨⟨e1,e2⟩,e3⟩,e⟩:=hA;have:=aHw n M h' e
  unfold nH at *;simp only[pP,List.all_cons,e1,e2,e3,show ∀a,iK (yW a)=true from fun a=>sI _,Bool.true_and,Bool.not_and]at this ⊢;rw[this];cases iK a1<;>cases iK a3<;>cases iK b1<;>cases iK b3<;>cases iK d1<;>cases iK d3<;>rfl
inductive Twin (r r':Raw):Prop
 | bad (e:Int):r.errs e→r'.errs e→Twin r r'
 | ok (l:List Tri) (p:Pl):r.good l p→r'.good (l.map Tri.mir) p.mir→p.fit (2^9)→p.mir.fit (2^9)→(∀t,t∈l→t.le (2^9))→(∀t,t∈l.map Tri.mir→t.le (2^9))→l.length≤24→Twin r r'
theorem aZk {t:Tri}{k:Nat}(h:t.le k):t.mir.le k:=by
 obtain⟨⟨a1,a2,a3⟩,⟨b1,b2,b3⟩,c1,c2,c3⟩:=h;exact⟨⟨a1,by show sz (-_)≤_;rw[fD];exact a2,a3⟩,⟨c1,by show sz (-_)≤_;rw[fD];exact c2,c3⟩,b1,by show sz (-_)≤_;rw[fD];exact b2,b3⟩
theorem bFe {L:List ByteArray}{N:Nat}(hL:L.length=9*N)(hs:L.all sh=true)(hN:N≤24)(hy:okY L=true){a:At}(ha:a.le 40)(hk:a.ok=true){d:ByteArray}(hd:sh d=true):
  Twin ⟨L,N,aA a.h,aA a.t,d⟩ ⟨pP L,N,aA (-a.h),aA a.t,d⟩:=by
 have hsz:∀a,a∈L→a.size≤2^31:=fun a ha=>lTr (pX (List.all_eq_true.1 hs a ha)) (by decide)
 by_cases hN0:N=0
 ·exact .bad _ (.solid (by show cB N≠0;rw[hN0];decide)) (.solid (by show cB N≠0;rw[hN0];decide))
 have hso:cB N=0:=by
  unfold cB;rw[if_neg hN0,if_neg (by omega)]
 have hb':=aHw N L hL hy
 have aRs:∀a,a∈pP L→a.size≤2^31:=by
  have key:∀(n:Nat) (A:List ByteArray),A.length=9*n→(∀a,a∈A→iK a=true→a.size≤40)→(∀a,a∈A→a.size≤40)→∀a,a∈pP A→a.size≤2^31:=by
   intro n
   induction n with
   | zero=>intro A h _ _ a ha;rw[List.eq_nil_of_length_eq_zero h]at ha;cases ha
   | succ n ih=>
    intro A h h1 h2 a ha;obtain⟨a1,a2,a3,b1,b2,b3,d1,d2,d3,M,rfl,h'⟩:=sG h;have aHf:∀x:ByteArray,x.size≤40→(yW x).size≤2^31:=fun x hx=>by
     unfold yW;refine lTr (bH _) ?_;rw[fD];cases hq:nU x.data.toList with
     | none=>exact lTr (Nat.add_le_add_right (Nat.mul_le_mul_left 2 (show sz 0≤1 from oT)) 2) (by decide)
     | some q=>
      have e:=mT hq
      have h3:sz q≤40:=by rw[e]at hx;exact lTr (fE q) hx
      show 2*sz q+2≤_
      omega
    have m:∀x,x∈(a1::a2::a3::b1::b2::b3::d1::d2::d3::M)→x.size≤2^31:=fun x hx=>lTr (h2 x hx) (by decide)
    simp only[pP,List.mem_cons]at ha
    rcases ha with rfl | rfl | rfl | rfl | rfl | rfl | rfl | rfl | rfl | ha
    ·exact m _ (by simp)
    ·exact aHf _ (h2 _ (by simp))
    ·exact m _ (by simp)
    ·exact m _ (by simp)
    ·exact aHf _ (h2 _ (by simp))
    ·exact m _ (by simp)
    ·exact m _ (by simp)
    ·exact aHf _ (h2 _ (by simp))
    ·exact m _ (by simp)
    ·exact ih M h' (fun x hx=>h1 x (by simp[hx])) (fun x hx=>h2 x (by simp[hx])) a ha
  exact key N L hL (fun a ha _=>pX (List.all_eq_true.1 hs a ha)) (fun a ha=>pX (List.all_eq_true.1 hs a ha))
 have z3:=pX hd
 have hat:(At.mir a).le 40:=⟨by show sz (-_)≤_;rw[fD];exact ha.1,ha.2⟩
 cases hb:nH L with
 | true=>exact .bad 1 (.bad hso hb hsz) (.bad hso (hb'.trans hb) aRs)
 | false=>
  have hb':=hb'.trans hb
  cases hq:iK d with
  | false=>
   have s1:=bH a.h
   have s2:=bH a.t
   have s3:=bH (-a.h)
   rw[fD]at s3;have:=ha.1
   have:=ha.2
   exact .bad 1 (.att 1 hso hb hsz (by decide) (aB8 (h:=aA a.h) (t:=aA a.t) (d:=d) (by omega) (by omega) (by omega) (by rw[hq,Bool.and_false]))) (.att 1 hso hb' aRs (by decide) (aB8 (h:=aA (-a.h)) (t:=aA a.t) (d:=d) (by omega) (by omega) (by omega) (by rw[hq,Bool.and_false])))
  | true=>
   obtain⟨l,rfl,hle⟩:=aS5 N L hL fun a ha=>by
    unfold nH at hb;rw[Bool.not_eq_false']at hb;exact⟨List.all_eq_true.1 hb a ha,List.all_eq_true.1 hs a ha⟩
   have hlen:l.length=N:=by rw[fP]at hL;omega
   have aN4:∀k,40≤k→∀t,t∈l→t.le k:=fun k hk t ht=>⟨(hle t ht).1.mono hk,(hle t ht).2.1.mono hk,(hle t ht).2.2.mono hk⟩
   have hlm:∀k,40≤k→∀t,t∈l.map Tri.mir→t.le k:=fun k hk t ht=>by
    obtain⟨u,hu,rfl⟩:=List.mem_map.1 ht;exact aZk (aN4 k hk u hu)
   obtain⟨qd,rfl,y3⟩:=oD hq hd;have k1:=aK5 (a:=a) (d:=qd) ⟨lTr ha.1 (by decide),lTr ha.2 (by decide)⟩ (by omega)
   have k2:=aK5 (a:=At.mir a) (d:=qd) ⟨lTr hat.1 (by decide),lTr hat.2 (by decide)⟩ (by omega)
   rw[if_pos hk]at k1;rw[if_pos ((aZl a).trans hk),show(At.mir a).water qd=(a.water qd).mir from by unfold At.water Pl.mir;rw[aZm a 0]]at k2;rw[aHy]at hb' aRs ⊢;cases hm:fL l with
   | false=>exact .bad 17 (.op l _ hso hb hsz rfl (aN4 _ (by decide)) k1 hm) (.op _ _ hso hb' aRs rfl (hlm _ (by decide)) k2 ((aBl l).trans hm))
   | true=>
    have f1:(a.water qd).fit (2^9):=⟨At.up_ne hk,(At.le_up (a:=a) (k:=40) ha).mono (by decide),by show sz qd≤_;omega⟩
    exact .ok l _ ⟨hso,hb,hsz,rfl,aN4 _ (by decide),k1,hm⟩ ⟨hso,hb',aRs,rfl,hlm _ (by decide),k2,(aBl l).trans hm⟩ f1 ⟨aKc f1.h0,⟨f1.hn.1,by show sz (-_)≤_;rw[fD];exact f1.hn.2.1,f1.hn.2.2⟩,f1.ha⟩ (aN4 _ (by decide)) (hlm _ (by decide)) (by omega)
end Go.Ai
