/- Part 13: lemmas for the particulars laws -/
import Derived.Test.YtafimpgfbgigeaaGreatDoorPh11
set_option linter.all false
namespace Go.Ai
open Go Go.Proofs Go.Num
def niV (b:Bool)(s:ByteArray):Value:=.agg #[.bool b,.string s]
def eK (z:Int):Value:=niV (decide (z<0)) (aJ z.natAbs)
def sgn (b:Bool)(a:Nat):Int:=if b then -(a:Int)else a
theorem aN8:aB PP 253:=zK
theorem kT:aB PP 255:=zK
theorem xA:aB PP 236:=zK
theorem aR4:aB PP 238:=zK
theorem sR:aB PP 258:=zK
theorem aN7:aB PP 239:=zK
theorem bC8:aJ 0=⟨#[48]⟩:=by unfold aJ;rw[aMb]
theorem aVj {s t:ByteArray}{a b:Nat}(hs:s=aJ a)(ht:t=aJ b):(BE.seq (.v s) (.v t)).den=decide (a=b):=by
 rw[aB7];simp only[SE.den];rw[hs,ht,cZ,cZ];by_cases h:a=b
 ·subst h;simp
 ·rw[decide_eq_false h,beq_eq_false_iff_ne];exact λe=>h (pU e)
theorem bC1 {s:ByteArray}{a:Nat}(hs:s=aJ a):(BE.seq (.v s) (.v ⟨#[48]⟩)).den=decide (a=0):=aVj hs bC8.symm
theorem aUo {s:ByteArray}{a:Nat}(hs:s=aJ a):(BE.not (BE.seq (.v s) (.v ⟨#[48]⟩))).den=decide (a≠0):=by
 show(!(BE.seq (.v s) (.v ⟨#[48]⟩)).den)=_
 rw[bC1 hs];simp
theorem aUf (b:Bool)(a:Nat):eK (sgn b a)=niV (b&&decide (a≠0)) (aJ a):=by
 unfold eK sgn;cases b
 ·rw[if_neg zA,Int.natAbs_natCast,decide_eq_false zW];rfl
 ·rw[if_pos rfl,Int.natAbs_neg,Int.natAbs_natCast];congr 1;rw[Bool.true_and];exact decide_eq_decide.2 zW
theorem aY4:Pure PP 253 [] (niV false ⟨#[48]⟩):=by
 refine zF [] Tryz.func253 λc hc hR=>?_;cbv;exact zR
theorem xZ (b:Bool)(a:Nat):Pure PP 255 [.bool b,.string (aJ a)] (eK (sgn b a)):=by
 obtain⟨r,hr⟩:=nm (eK (sgn b a));obtain⟨s,hs⟩:=nm (aJ a);rw[<-hr,<-hs];have hr:=hr.trans (aUf b a);rw[<-hs]at hr;have h0:=aUo hs;refine zF [.b (.v b),.s (.v s)] Tryz.func255 λc hc hR=>?_;cbv;refine cG 6 rfl rfl 100 (λh=>?_) (λh=>?_)
 ·have h:b=true:=h
  subst h;cbv;exact bR hc hR rfl (by rw[hr,<-h0];rfl)
 ·have h:b=false:=h
  subst h;cbv;exact bR hc hR rfl (by rw[hr];rfl)
theorem aJ8 {z:Int}(hs:dl z.natAbs<=2^60):Pure PP 236 [eK z] (.string (aW z)):=by
 have hz:aW z=if decide (z<0)=true then⟨#[45]⟩++aJ z.natAbs else aJ z.natAbs:=by
  apply kQ;rw[dF];unfold Lib.itoa;split
  ·rename_i h;rw[decide_eq_true h,if_pos rfl,gF,cZ];rfl
  ·rename_i h;rw[decide_eq_false h,if_neg zA,cZ];congr 1;omega
 obtain⟨r,hr⟩:=nm (aW z);rw[<-hr]at hz |-;have hsz:(aJ z.natAbs).size<=2^60:=by rw[fS];exact hs
 unfold eK;generalize decide (z<0)=b at hz |-;generalize aJ z.natAbs=s at hz hsz |-;have o1:(Obl.cat (.v ⟨#[45]⟩) (.v s)).ok:=by show((1+s.size:Nat):Int)<=_;omega
 refine zF [.g [.b (.v b),.s (.v s)]] Tryz.func236 λc hc hR=>?_;cbv;refine aE rfl 100 (λh=>?_) (λh=>?_)
 ·have h:b=true:=h
  subst h;rw[if_pos rfl]at hz;cbv;refine aP hc ⟨o1,trivial⟩ ?_;exact bR hc hR rfl (by rw[hz];rfl)
 ·have h:b=false:=h
  subst h;rw[if_neg zA]at hz;cbv;exact bR hc hR rfl (by rw[hz];rfl)
theorem aYj (z:Int):sgn (!decide (z<0)) z.natAbs=-z:=by
 unfold sgn;by_cases h:z<0
 ·rw[decide_eq_true h,Bool.not_true,if_neg zA];omega
 ·rw[decide_eq_false h,Bool.not_false,if_pos rfl];omega
theorem aVl (z:Int):sgn (decide (z<0)) z.natAbs=z:=by
 unfold sgn;by_cases h:z<0
 ·rw[decide_eq_true h,if_pos rfl];omega
 ·rw[decide_eq_false h,if_neg zA];omega
theorem bFi (z:Int):Pure PP 238 [eK z] (eK (-z)):=by
 have h1:=xZ (!decide (z<0)) z.natAbs
 rw[aYj]at h1;obtain⟨r,hr⟩:=nm (eK (-z));rw[<-hr]at h1 |-;unfold eK at hr |-;generalize decide (z<0)=b,aJ z.natAbs=s at h1 |-;generalize decide (-z<0)=b',aJ (-z).natAbs=s' at hr;subst hr;refine zF [.g [.b (.v b),.s (.v s)]] Tryz.func238 λc hc hR=>?_;cbv;refine zC (.g [.b (.v b'),.s (.v s')]) h1 kT ?_;cbv;exact zR
theorem aY3 (z:Int):Pure PP 239 [eK z] (.int .i64 (bD z 0)):=by
 obtain⟨r,hr⟩:=nm (bD z 0);rw[<-hr];have h0:=bC1 (s:=aJ z.natAbs) rfl;unfold eK;obtain⟨b,hb⟩:=nm (decide (z<0));obtain⟨s,hs⟩:=nm (aJ z.natAbs);rw[<-hs]at h0;rw[<-hb,<-hs];refine zF [.g [.b (.v b),.s (.v s)]] Tryz.func239 λc hc hR=>?_;cbv;refine zD (.g [.b (.l false),.s (.v ⟨#[48]⟩)]) aY4 aN8 ?_;cbv;have ec:(BE.and (BE.beq (.v b) (.l false)) (BE.seq (.v s) (.v ⟨#[48]⟩))).den=decide (z=0):=by
  show((b==false)&&(BE.seq (.v s) (.v ⟨#[48]⟩)).den)=_
  rw[h0,hb];by_cases hz:z=0
  ·subst hz;rfl
  ·rw[decide_eq_false hz,decide_eq_false (zW:¬z.natAbs=0),Bool.and_false]
 refine zE ?_;cbv;refine aE rfl 100 (λh=>?_) (λh=>?_)
 ·have hz:=of_decide_eq_true (ec.symm.trans h)
  have hr:r=0:=by rw[hr,hz];rfl
  subst hr;cbv;exact zR
 ·have hz:=of_decide_eq_false (ec.symm.trans h)
  cbv;refine aE rfl 100 (λh=>?_) (λh=>?_)
  ·have h:b=true:=h
   have hr:r=-1:=by rw[hb]at h;have h:=of_decide_eq_true h;rw[hr];unfold bD;rw[if_pos h]
   subst hr;cbv;exact zR
  ·have h:b=false:=h
   have hr:r=1:=by rw[hb]at h;have h:=of_decide_eq_false h;rw[hr];unfold bD;rw[if_neg h,if_pos zW]
   subst hr;cbv;exact zR
theorem bFg (b:Bool):Pure PP 258 [.bool b] (.int .i64 (if b then 1 else 0)):=by
 refine zF [.b (.v b)] Tryz.func258 λc hc hR=>?_;cbv;refine aE rfl 100 (λh=>?_) (λh=>?_)
 ·have h:b=true:=h
  subst h;cbv;exact zR
 ·have h:b=false:=h
  subst h;cbv;exact zR
theorem aR5:aB PP 256:=zK
theorem aN5:aB PP 257:=zK
theorem aN6:aB PP 237:=zK
theorem aR6:aB PP 235:=zK
theorem aSa:aB PP 271:=zK
theorem aLy:aB PP 273:=zK
theorem vR:aB PP 254:=zK
theorem bAc:aB PP 251:=zK
theorem aLx:aB PP 272:=zK
theorem aFd:aB PP 277:=zK
theorem bIa (b:Bool){n m:Nat}(hn:dl n<=2^37)(hm:dl m<=2^37)(b':Bool):Pure PP 256 [niV b (aJ n),niV b' (aJ m)] (eK (sgn b (n+m))):=by
 have h1:=bFm hn hm
 have h2:=xZ b (n+m)
 obtain⟨r,hr⟩:=nm (eK (sgn b (n+m)));rw[<-hr]at h2 |-;unfold eK at hr;generalize decide (sgn b (n+m)<0)=b1,aJ (sgn b (n+m)).natAbs=s1 at hr;generalize aJ n=s,aJ m=t at h1 |-;generalize aJ (n+m)=u at h1 h2;subst hr;refine zF [.g [.b (.v b),.s (.v s)],.g [.b (.v b'),.s (.v t)]] Tryz.func256 λc hc hR=>?_;cbv;refine zC (.t [.s (.v u),.i .i64 (.l 0)]) h1 aSa ?_;cbv;refine zC (.g [.b (.v b1),.s (.v s1)]) h2 kT ?_;cbv;exact zR
theorem bB5 {z y:Int}(hn:dl z.natAbs<=2^37)(hm:dl y.natAbs<=2^37):Pure PP 235 [eK z,eK y] (eK (z*y)):=by
 have h1:=bB9 hn hm
 have h2:=xZ (!(decide (z<0)==decide (y<0))) (z.natAbs*y.natAbs)
 have he:sgn (!(decide (z<0)==decide (y<0))) (z.natAbs*y.natAbs)=z*y:=by
  rw[<-Int.natAbs_mul];conv=>rhs;rw[<-aVl (z*y)]
  by_cases h0:z=0\/y=0
  ·have:(z*y)=0:=by rcases h0 with h | h<;>simp[h]
   rw[this];cases (!(decide (z<0)==decide (y<0)))<;>simp[sgn]
  ·congr 1
   by_cases hz:z<0<;>by_cases hy:y<0
   ·have:=Int.mul_pos_of_neg_of_neg hz hy;simp[hz,hy];omega
   ·have:=Int.mul_neg_of_neg_of_pos hz (show 0<y by omega);simp[hz,hy];omega
   ·have:=Int.mul_neg_of_pos_of_neg (show 0<z by omega) hy;simp[hz,hy];omega
   ·have:=Int.mul_pos (show 0<z by omega) (show 0<y by omega);simp[hz,hy];omega
 rw[he]at h2;obtain⟨r,hr⟩:=nm (eK (z*y));rw[<-hr]at h2 |-;unfold eK at hr |-;generalize decide (z*y<0)=b1,aJ (z*y).natAbs=s1 at hr;generalize aJ z.natAbs=s,aJ y.natAbs=t at h1 |-;generalize aJ (z.natAbs*y.natAbs)=u at h1 h2;generalize decide (z<0)=b,decide (y<0)=b' at h2 |-;subst hr;refine zF [.g [.b (.v b),.s (.v s)],.g [.b (.v b'),.s (.v t)]] Tryz.func235 λc hc hR=>?_;cbv;refine zC (.t [.s (.v u),.i .i64 (.l 0)]) h1 vR ?_;cbv;refine zC (.g [.b (.v b1),.s (.v s1)]) h2 kT ?_;cbv;exact zR
def dif (b b':Bool)(n m:Nat):Int:=if n<m then sgn b' (m - n)else sgn b (n - m)
theorem bFh (b b':Bool){n m:Nat}(hn:dl n<=2^37)(hm:dl m<=2^37):Pure PP 257 [niV b (aJ n),niV b' (aJ m)] (eK (dif b b' n m)):=by
 have h0:=aUn hn hm
 obtain⟨z,hz⟩:=nm (bD n m);rw[<-hz]at h0;have hlt:z<0->n<m:=λh=>aHe hz h;have hge:¬z<0->m<=n:=λh=>aCu hz h;obtain⟨r,hr⟩:=nm (eK (dif b b' n m));have h1:=λh:z<0=>bCa (Nat.le_of_lt (hlt h)) hm hn;have h2:=λh:¬z<0=>bCa (hge h) hn hm;have w1:z<0->Pure PP 255 [.bool b',.string (aJ (m - n))] r:=λh=>by rw[hr];unfold dif;rw[if_pos (hlt h)];exact xZ _ _
 have w2:¬z<0->Pure PP 255 [.bool b,.string (aJ (n - m))] r:=λh=>by rw[hr];unfold dif;rw[if_neg (by have:=hge h;omega)];exact xZ _ _
 rw[<-hr];unfold eK at hr;generalize decide (dif b b' n m<0)=b1,aJ (dif b b' n m).natAbs=s1 at hr;generalize aJ n=s,aJ m=t at h0 h1 h2 |-;generalize aJ (m - n)=u1 at h1 w1;generalize aJ (n - m)=u2 at h2 w2;subst hr;refine zF [.g [.b (.v b),.s (.v s)],.g [.b (.v b'),.s (.v t)]] Tryz.func257 λc hc hR=>?_;cbv;refine zC (.t [.i .i64 (.v z),.i .i64 (.l 0)]) h0 aLx ?_;cbv;refine aE rfl 100 (λh=>?_) (λh=>?_)
 ·have h:z<0:=BE.lt_t h
  cbv;refine zC (.t [.s (.v u1),.i .i64 (.l 0)]) (h1 h) aLy ?_;cbv;refine zC (.g [.b (.v b1),.s (.v s1)]) (w1 h) kT ?_;cbv;exact zR
 ·have h:¬z<0:=BE.lt_f h
  cbv;refine zC (.t [.s (.v u2),.i .i64 (.l 0)]) (h2 h) aLy ?_;cbv;refine zC (.g [.b (.v b1),.s (.v s1)]) (w2 h) kT ?_;cbv;exact zR
theorem aQs {z y:Int}(h:decide (z<0)=decide (y<0)):sgn (decide (z<0)) (z.natAbs+y.natAbs)=z+y:=by
 have hh:=decide_eq_decide.1 h
 unfold sgn;by_cases hz:z<0
 ·have:=hh.1 hz;rw[if_pos (decide_eq_true hz)];omega
 ·have:¬y<0:=λh=>hz (hh.2 h);rw[if_neg (by simpa using hz)];omega
theorem aM6 {z y:Int}(h:decide (z<0)≠decide (y<0)):dif (decide (z<0)) (decide (y<0)) z.natAbs y.natAbs=z+y:=by
 unfold dif sgn;by_cases hz:z<0<;>by_cases hy:y<0
 ·exact absurd ((decide_eq_true hz).trans (decide_eq_true hy).symm) h
 ·rw[decide_eq_true hz,decide_eq_false hy];simp only[if_true,if_false,Bool.false_eq_true];split<;>omega
 ·rw[decide_eq_false hz,decide_eq_true hy];simp only[if_true,if_false,Bool.false_eq_true];split<;>omega
 ·exact absurd ((decide_eq_false hz).trans (decide_eq_false hy).symm) h
theorem aY1 {z y:Int}(hn:dl z.natAbs<=2^37)(hm:dl y.natAbs<=2^37):Pure PP 237 [eK z,eK y] (eK (z+y)):=by
 have h1:=bIa (decide (z<0)) hn hm (decide (y<0))
 have h2:=bFh (decide (z<0)) (decide (y<0)) hn hm
 have e1:decide (z<0)=decide (y<0)->sgn (decide (z<0)) (z.natAbs+y.natAbs)=z+y:=aQs
 have e2:decide (z<0)≠decide (y<0)->dif (decide (z<0)) (decide (y<0)) z.natAbs y.natAbs=z+y:=aM6
 obtain⟨r,hr⟩:=nm (eK (z+y));have h1:decide (z<0)=decide (y<0)->Pure PP 256 [eK z,eK y] r:=λh=>by rw[hr,<-e1 h];exact h1
 have h2:decide (z<0)≠decide (y<0)->Pure PP 257 [eK z,eK y] r:=λh=>by rw[hr,<-e2 h];exact h2
 clear e1 e2;rw[<-hr];unfold eK at hr h1 h2 |-;generalize decide (z+y<0)=b1,aJ (z+y).natAbs=s1 at hr;generalize aJ z.natAbs=s,aJ y.natAbs=t,decide (z<0)=b,decide (y<0)=b' at h1 h2 |-;subst hr;have hb:=bFg b;have hb':=bFg b';cases b<;>cases b'
 ·have h:=h1 rfl
  refine zF [.g [.b (.l false),.s (.v s)],.g [.b (.l false),.s (.v t)]] Tryz.func237 λc hc hR=>?_;cbv;refine zD (.i .i64 (.l 0)) hb sR ?_;cbv;refine zD (.i .i64 (.l 0)) hb' sR ?_;cbv;refine eO hc (.g [.b (.v b1),.s (.v s1)]) h aR5 rfl 100 ?_;cbv;refine zE ?_;cbv;exact zR
 ·have h:=h2 zV
  refine zF [.g [.b (.l false),.s (.v s)],.g [.b (.l true),.s (.v t)]] Tryz.func237 λc hc hR=>?_;cbv;refine zD (.i .i64 (.l 0)) hb sR ?_;cbv;refine zD (.i .i64 (.l 1)) hb' sR ?_;cbv;refine zD (.g [.b (.v b1),.s (.v s1)]) h aN5 ?_;cbv;refine zE ?_;cbv;exact zR
 ·have h:=h2 zV
  refine zF [.g [.b (.l true),.s (.v s)],.g [.b (.l false),.s (.v t)]] Tryz.func237 λc hc hR=>?_;cbv;refine zD (.i .i64 (.l 1)) hb sR ?_;cbv;refine zD (.i .i64 (.l 0)) hb' sR ?_;cbv;refine zD (.g [.b (.v b1),.s (.v s1)]) h aN5 ?_;cbv;refine zE ?_;cbv;exact zR
 ·have h:=h1 rfl
  refine zF [.g [.b (.l true),.s (.v s)],.g [.b (.l true),.s (.v t)]] Tryz.func237 λc hc hR=>?_;cbv;refine zD (.i .i64 (.l 1)) hb sR ?_;cbv;refine zD (.i .i64 (.l 1)) hb' sR ?_;cbv;refine eO hc (.g [.b (.v b1),.s (.v s1)]) h aR5 rfl 100 ?_;cbv;refine zE ?_;cbv;exact zR
end Go.Ai
namespace Go.Ai
open Go Go.RowKit
mutual
def AV.fr (k:Nat):AV->Bool
 | .p j _ | .pe j _ _ _ _ | .sl j _ _ _ | .e j | .ec j _=>decide (j≠k)
 | .g l | .t l=>AV.frL k l
 | .f _ fs l=>AV.frL k fs&&AV.frL k l
 | _=>true
def AV.frL (k:Nat):List AV->Bool
 | []=>true
 | a::l=>AV.fr k a&&AV.frL k l
end
theorem fP {μ:Mu}{k j:Nat}{m:MV}(h:j≠k):rA (μ.upd k m) j=rA μ j/\atS (μ.upd k m) j=atS μ j/\(μ.upd k m) j=μ j:=by
 have:(μ.upd k m) j=μ j:=by simp[Mu.upd,h]
 exact⟨by simp[rA,this],by simp[atS,this],this⟩
mutual
theorem xJ {μ:Mu}{k:Nat}{m:MV}:∀(av:AV),av.fr k=true->aD (μ.upd k m) av=aD μ av
 | .p j off,h=>by simp only[AV.fr,decide_eq_true_eq]at h;simp only[aD,(fP h).1]
 | .pe j off i sz inner,h=>by simp only[AV.fr,decide_eq_true_eq]at h;simp only[aD,(fP h).1]
 | .sl j off len cap,h=>by simp only[AV.fr,decide_eq_true_eq]at h;simp only[aD,(fP h).2.1]
 | .e j,h=>by simp only[AV.fr,decide_eq_true_eq]at h;simp only[aD,(fP h).2.2]
 | .ec j i,h=>by simp only[AV.fr,decide_eq_true_eq]at h;simp only[aD,(fP h).2.2]
 | .g l,h=>by simp only[AV.fr]at h;simp only[aD,mL l h]
 | .t l,h=>by simp only[AV.fr]at h;simp only[aD,mL l h]
 | .f _ fs l,h=>by simp only[AV.fr,Bool.and_eq_true]at h;simp only[aD,mL fs h.1,mL l h.2]
 | .i ..,_=>rfl
 | .b ..,_=>rfl
 | .s ..,_=>rfl
 | .xs ..,_=>rfl
 | .o ..,_=>rfl
 | .q ..,_=>rfl
theorem mL {μ:Mu}{k:Nat}{m:MV}:∀(l:List AV),AV.frL k l=true->aF (μ.upd k m) l=aF μ l
 | [],_=>rfl
 | x::l,h=>by
  simp only[AV.frL,Bool.and_eq_true]at h;simp only[aF,xJ x h.1,mL l h.2]
end
def Blk.fr (k:Nat):Blk->Bool
 | .c _ l=>AV.frL k l
 | _=>true
theorem Blk.ok_fr {X:Nat->Prop}{μ:Mu}{w:World}{k:Nat}{mk:MV}{blk:Blk}{m:MV}(hf:blk.fr k=true)(hb:blk.ok X μ w m):blk.ok X (μ.upd k mk) w m:=by
 match blk,m,hb with
 | .c ..,.own b,hb=>obtain⟨vs,h1,h2⟩:=hb;exact⟨vs,by rw[mL _ hf];exact h1,h2⟩
 | .r ..,.own b,hb=>exact hb
 | .w ..,.own b,hb=>exact hb
 | .d ..,.own b,hb=>exact hb
 | .xi ..,.ext none,hb=>exact hb
 | .xs ..,.ext none,hb=>exact hb
 | .xi ..,.ext (some (b,o)),hb=>exact hb
 | .xs ..,.ext (some (b,o)),hb=>exact hb
 | .e,.val _,_=>trivial
 | .xr ..,.ext none,hb=>exact hb
 | .xr ..,.ext (some (b,o)),hb=>exact hb
def OF.cells (b bt:Nat)(cells:List AV):OF where
 F _ j:=j=b
 p μ w:=∃vs,aF μ cells=some vs/\w.heap[b]?=some (.cells vs.toArray bt (0,0))
 st μ μ' w w' hv hk h:=by
  obtain⟨vs,h1,h2⟩:=h;exact⟨⟨vs,nV hv _ _ h1,by rw[hk b rfl];exact h2⟩,λ_=>Iff.rfl⟩
structure KFk (k:Nat)(f:KF):Prop where
 out:∀X μ w v,f.p X μ w->f.p X (μ.upd k (.val v)) w
structure OFk (k:Nat)(f:OF):Prop where
 out:∀μ w v,f.p μ w->f.p (μ.upd k (.val v)) w/\∀b,f.F (μ.upd k (.val v)) b↔f.F μ b
theorem KFk.cst (k:Nat)(v:Value)(R:VF):KFk k (KF.cst v R):=⟨λ_ _ _ _ h=>h⟩
theorem KFk.at {k j:Nat}(h:j≠k)(R:VF):KFk k (KF.at j R):=⟨λX μ w v hp=>by
 obtain⟨u,h1,h2⟩:=hp;exact⟨u,by rw[(fP h).2.2];exact h1,h2⟩⟩
theorem KFk.ext {k j:Nat}(h:j≠k)(a:Option (Nat × Nat)):KFk k (KF.ext j a):=⟨λX μ w v hp=>by
 show(μ.upd k (.val v)) j=_
 rw[(fP h).2.2];exact hp⟩
theorem KFk.fr {k:Nat}{l:List (Nat × AV)}(h:l.all (λx=>x.2.fr k)=true)(tm:Array Value):KFk k (KF.fr l tm):=⟨λX μ w u hp t av hl=>by
 obtain⟨v,h1,h2⟩:=hp t av hl;obtain⟨x,hx,rfl⟩:=aDr hl;exact⟨v,by rw[xJ _ (List.all_eq_true.1 h x hx)];exact h1,h2⟩⟩
theorem OFk.row (k:Nat)(v:Value)(base e:Nat)(kd:IntKind)(l:List Int):OFk k (OF.row v base e kd l):=⟨λ_ _ _ h=>⟨h,λ_=>Iff.rfl⟩⟩
theorem OFk.cells {k b bt:Nat}{cells:List AV}(h:AV.frL k cells=true):OFk k (OF.cells b bt cells):=⟨λμ w v hp=>by
 obtain⟨vs,h1,h2⟩:=hp;exact⟨⟨vs,by rw[mL _ h];exact h1,h2⟩,λ_=>Iff.rfl⟩⟩
def aCa (k:Nat)(K:List KF):List KF->Prop
 | []=>True
 | f::l=>(f∈K/\KFk k f)/\aCa k K l
theorem aCa.mem {k:Nat}{K:List KF}:∀{l:List KF},aCa k K l->∀f,f∈l->f∈K/\KFk k f
 | g::l,h,f,hf=>by
  rcases List.mem_cons.1 hf with e | e
  ·subst e;exact h.1
  ·exact h.2.mem f e
def aEz (k:Nat):List OF->Prop
 | []=>True
 | f::l=>OFk k f/\aEz k l
theorem aEz.mem {k:Nat}:∀{l:List OF},aEz k l->∀f,f∈l->OFk k f
 | g::l,h,f,hf=>by
  rcases List.mem_cons.1 hf with e | e
  ·subst e;exact h.1
  ·exact h.2.mem f e
def aE0 (S:St)(k:Nat):List (Nat × AV)->Prop
 | []=>True
 | (t,b)::l=>(∃a,look S.sl t=some a/\b.fr k=true/\∀μ,aD μ a=aD μ b)/\aE0 S k l
theorem aE0.look {S:St}{k:Nat}:∀{l:List (Nat × AV)},aE0 S k l->∀t b,Go.Ai.look l t=some b->∃a,Go.Ai.look S.sl t=some a/\b.fr k=true/\∀μ,aD μ a=aD μ b
 | (d,x)::l,h,t,b,hb=>by
  by_cases e:d=t
  ·subst e;rw[bK]at hb;injection hb with hb;subst hb;exact h.1
  ·rw[bE e]at hb;exact h.2.look t b hb
section
variable {c:Cx}{P:Program}{ty:Nat->Option TyI}{nt:Nat}{K:List KF}{S:St}
theorem aVa {ks:List KI}(d k:Nat){bt:Nat}{G:Nat->List AV->OF}(hG:∀b l,G b l=OF.cells b bt l){cells:List AV}{l:List (Nat × AV)}{K':List KF}(hp:jT ks=true)(hk:S.hp[k]?=some (.c bt cells))(hd:look S.sl d=some (.p k 0))(hl:aE0 S k l)(hb:(S.hp.set k .e).all (Blk.fr k)=true)(hc:AV.frL k cells=true)(hK:aCa k K K')(hO:aEz k S.ow)
  (h:∀b,Goal c K' ⟨ks,⟨(d,.o (.pointer (some ⟨b,0,none⟩)))::l,S.hp.set k .e,G b cells::S.ow⟩,[]⟩):Goal c K ⟨ks,S,[]⟩:=by
 simp only[hG]at h;refine jD (ι:=Nat) (K':=λ_=>K') (S':=λb=>⟨(d,.o (.pointer (some ⟨b,0,none⟩)))::l,S.hp.set k .e,OF.cells b bt cells::S.ow⟩) (p:=λ_=>True) hp (λX μ a w H=>?_) (λb _=>h b);have P:=H.toP;have hkl:k<S.hp.length:=(List.getElem?_eq_some_iff.1 hk).1;obtain⟨m,hm⟩:=P.all k hkl;have hok:=P.heap k _ m hk hm;match m,hok,hm with
 | .own b,hok,hm=>
 obtain⟨vs,hvs,hbk⟩:=hok;have hlen:(S.hp.set k .e).length=S.hp.length:=zA;have fG:∀j b',(μ.upd k (.val undef)) j=some (.own b')->j≠k/\μ j=some (.own b'):=λj b' hj=>by
  by_cases e:j=k
  ·subst e;rw[Mu.upd_same]at hj;injection hj with hj;cases hj
  ·rw[(fP e).2.2]at hj;exact⟨e,hj⟩
 refine⟨b,X,μ.upd k (.val undef),trivial,⟨⟨P.dfr,P.size,?_,?_,?_,?_,?_,P.xlt,P.xnew,P.xold,P.bel,?_,?_⟩,?_⟩⟩
 ·intro t av _ ht;by_cases e:d=t
  ·subst e;rw[bK]at ht;injection ht with ht;subst ht
   obtain⟨v,e1,e2⟩:=P.slots d _ trivial hd;have hv:v=.pointer (some ⟨b,0,none⟩):=by
    simp only[aD,rB hm]at e1;injection e1 with e1;exact e1.symm
   exact⟨v,by rw[hv];simp[aD,Value.oneCell'],e2⟩
  ·rw[bE e]at ht;obtain⟨a',e1,e2,e3⟩:=hl.look t av ht;obtain⟨v,e4,e5⟩:=P.slots t a' trivial e1;exact⟨v,by rw[xJ _ e2,<-e3 μ];exact e4,e5⟩
 ·intro j bj m hj hmj;by_cases e:j=k
  ·subst e;rw[Mu.upd_same]at hmj;injection hmj with hmj;subst hmj
   have hse:(S.hp.set j .e)[j]?=some .e:=by simp[hkl]
   have hj:some Blk.e=some bj:=hse.symm.trans hj
   injection hj with hj;subst hj;trivial
  ·rw[(fP e).2.2]at hmj;have hfr:bj.fr k=true:=List.all_eq_true.1 hb _ (List.mem_of_getElem? hj);rw[List.getElem?_set_ne (λe'=>e e'.symm)]at hj;exact Blk.ok_fr hfr (P.heap j bj m hj hmj)
 ·intro j hj;rw[hlen]at hj;by_cases e:j=k
  ·subst e;exact⟨_,Mu.upd_same _ _ _⟩
  ·obtain⟨m,hm⟩:=P.all j hj;exact⟨m,by rw[(fP e).2.2];exact hm⟩
 ·intro j j' b' h1 h2;exact P.inj j j' b' (fG _ _ h1).2 (fG _ _ h2).2
 ·intro j b' h1;exact P.loc j b' (fG _ _ h1).2
 ·intro f hf;obtain⟨h1,h2⟩:=hK.mem f hf;exact h2.out _ _ _ _ (P.kf f h1)
 ·obtain⟨l1,l2,l3⟩:=P.loc k b hm;refine⟨λf hf=>?_,List.Pairwise.cons (λg hg j hj=>?_) ?_⟩
  ·rcases List.mem_cons.1 hf with e | e
   ·subst e;refine⟨⟨vs,by rw[mL _ hc];exact hvs,hbk⟩,λj hj=>?_⟩;have hj:j=b:=hj;subst hj;exact⟨l1,l3,l2,λk' hk'=>(fG _ _ hk').1 (P.inj _ _ _ (fG _ _ hk').2 hm)⟩
   ·obtain⟨h1,h2⟩:=P.own.at_ f e;obtain⟨h3,h4⟩:=(hO.mem f e).out μ w undef h1;refine⟨h3,λj hj=>?_⟩;obtain⟨q1,q2,q3,q4⟩:=h2 j ((h4 j).1 hj);exact⟨q1,q2,q3,λk' hk'=>q4 k' (fG _ _ hk').2⟩
  ·have hj:j=b:=hj
   subst hj;intro hg';obtain⟨h1,h2⟩:=P.own.at_ g hg;exact(h2 j ((((hO.mem g hg).out μ w undef h1).2 j).1 hg')).2.2.2 k hm
  ·refine P.own.apart.imp_of_mem λ{f g} hf hg hq j hj hj'=>?_;exact hq j ((((hO.mem f hf).out μ w undef (P.own.at_ f hf).1).2 j).1 hj) ((((hO.mem g hg).out μ w undef (P.own.at_ g hg).1).2 j).1 hj')
 ·intro j hj;rw[hlen]at hj;have e:j≠k:=zW;rw[(fP e).2.2];exact H.dom j hj
theorem aB6 {ks:List KI}(d:Nat){b bt:Nat}{G:Nat->List AV->OF}(hG:∀b l,G b l=OF.cells b bt l){cells:List AV}{ow':List OF}(hp:jT ks=true)(hd:look S.sl d=some (.o (.pointer (some ⟨b,0,none⟩))))(how:S.ow=G b cells::ow')
  (h:Goal c K ⟨ks,⟨(d,.p S.hp.length 0)::S.sl,S.hp++[.c bt cells],ow'⟩,[]⟩):Goal c K ⟨ks,S,[]⟩:=by
 rw[hG]at how;refine oR hp (λX μ a w H=>?_) h;have P:=H.toP;have hf0:OF.cells b bt cells∈S.ow:=by rw[how];exact .head _
 obtain⟨⟨vs,hvs,hbk⟩,hat⟩:=P.own.at_ _ hf0;obtain⟨q1,q2,q3,q4⟩:=hat b rfl;have hap:=P.own.apart;rw[how]at hap;have hn:=H.dom _ (lRf _);have hle:Mu.le μ (μ.upd S.hp.length (.own b)):=Mu.le_upd hn;have sM:∀j m,(μ.upd S.hp.length (.own b)) j=some m->(j=S.hp.length/\m=.own b)\/(j≠S.hp.length/\μ j=some m):=λj m hj=>by
  by_cases e:j=S.hp.length
  ·subst e;rw[Mu.upd_same]at hj;injection hj with hj;exact .inl ⟨rfl,hj.symm⟩
  ·rw[(fP e).2.2]at hj;exact .inr ⟨e,hj⟩
 refine⟨X,μ.upd S.hp.length (.own b),⟨⟨P.dfr,P.size,?_,?_,?_,?_,?_,P.xlt,P.xnew,P.xold,P.bel,lH P.kf (λ_ h=>h) hle.v (λ_ _=>rfl),?_⟩,?_⟩⟩
 ·intro t av _ ht;by_cases e:d=t
  ·subst e;rw[bK]at ht;injection ht with ht;subst ht
   obtain⟨v,e1,e2⟩:=P.slots d _ trivial hd;have hv:v=.pointer (some ⟨b,0,none⟩):=by
    simp only[aD,Value.oneCell',if_true]at e1;injection e1 with e1;exact e1.symm
   exact⟨v,by rw[hv];simp only[aD,rB (Mu.upd_same _ _ _)],e2⟩
  ·rw[bE e]at ht;obtain⟨v,e4,e5⟩:=P.slots t av trivial ht;exact⟨v,iN hle _ _ e4,e5⟩
 ·intro j bj m hj hmj;rcases sM j m hmj with⟨rfl,rfl⟩ | ⟨e,hmj⟩
  ·simp only[List.getElem?_append_right (lRf _)]at hj;simp at hj;subst hj;exact⟨vs,gV hle _ _ hvs,hbk⟩
  ·have hlt:j<S.hp.length:=by
    rcases Nat.lt_or_ge j S.hp.length with h | h
    ·exact h
    ·rw[H.dom j h]at hmj;cases hmj
   simp only[List.getElem?_append_left hlt]at hj;exact Blk.ok_keep hle (λ_ h=>h) (λ_ _=>rfl) (λ_ _=>rfl) (P.heap j bj m hj hmj)
 ·intro j hj;simp at hj;by_cases e:j=S.hp.length
  ·subst e;exact⟨_,Mu.upd_same _ _ _⟩
  ·obtain⟨m,hm⟩:=P.all j zW;exact⟨m,by rw[(fP e).2.2];exact hm⟩
 ·intro j j' b' h1 h2;rcases sM j _ h1 with⟨r1,e1⟩ | ⟨e1,g1⟩<;>rcases sM j' _ h2 with⟨r2,e2⟩ | ⟨e2,g2⟩
  ·rw[r1,r2]
  ·injection e1 with e1;rw[e1]at g2;exact absurd g2 (q4 j')
  ·injection e2 with e2;rw[e2]at g1;exact absurd g1 (q4 j)
  ·exact P.inj j j' b' g1 g2
 ·intro j b' h1;rcases sM j _ h1 with⟨rfl,e1⟩ | ⟨e,h1⟩
  ·injection e1 with e1;subst e1;exact⟨q1,q3,q2⟩
  ·exact P.loc j b' h1
 ·refine⟨λf hf=>?_,(List.Pairwise.of_cons hap).imp_of_mem λ{f g} hf hg hq j hj hj'=>?_⟩
  rotate_left
  ·have k1:=(f.st μ (μ.upd S.hp.length (.own b)) w w hle.v (λ_ _=>rfl) (P.own.at_ f (by rw[how];exact .tail _ hf)).1).2
   have k2:=(g.st μ (μ.upd S.hp.length (.own b)) w w hle.v (λ_ _=>rfl) (P.own.at_ g (by rw[how];exact .tail _ hg)).1).2
   exact hq j ((k1 j).1 hj) ((k2 j).1 hj')
  obtain⟨h1,h2⟩:=P.own.at_ f (by rw[how];exact .tail _ hf);obtain⟨h3,h4⟩:=f.st μ (μ.upd S.hp.length (.own b)) w w hle.v (λ_ _=>rfl) h1;refine⟨h3,λj hj=>?_⟩;obtain⟨r1,r2,r3,r4⟩:=h2 j ((h4 j).1 hj);refine⟨r1,r2,r3,λk' hk'=>?_⟩;rcases sM k' _ hk' with⟨rfl,e1⟩ | ⟨e,h5⟩
  ·injection e1 with e1;subst e1
   exact List.rel_of_pairwise_cons hap hf j rfl ((h4 j).1 hj)
  ·exact r4 k' h5
 ·intro j hj;simp at hj;rw[(fP zW).2.2];exact H.dom j zW
theorem bCf {R:OF->OF->Prop}{pre post:List OF}{g g':OF}(h1:∀f,R f g->R f g')(h2:∀f,R g f->R g' f)(h:(pre++g::post).Pairwise R):(pre++g'::post).Pairwise R:=by
 rw[List.pairwise_append,List.pairwise_cons]at h |-;obtain⟨a1,⟨a2,a3⟩,a4⟩:=h;refine⟨a1,⟨λf hf=>h2 f (a2 f hf),a3⟩,λx hx y hy=>?_⟩;rcases List.mem_cons.1 hy with e | e
 ·subst e;exact h1 x (a4 x hx g (.head _))
 ·exact a4 x hx y (.tail _ e)
theorem bFu {R:OF->OF->Prop}{pre post:List OF}{g:OF}(h:(pre++g::post).Pairwise R):∀f,f∈pre++post->R f g\/R g f:=by
 rw[List.pairwise_append,List.pairwise_cons]at h;obtain⟨a1,⟨a2,a3⟩,a4⟩:=h;intro f hf;rcases List.mem_append.1 hf with e | e
 ·exact .inl (a4 f e g (.head _))
 ·exact .inr (a2 f e)
theorem aJd {n0:Nat}{D:Nat->Prop}{o:Oper}{t:TypeId}{x y:Operand}{i:TyI}{b off bt:Nat}{av:AV}{l cells:List AV}{pre post:List OF}(hop:o.op=.store t x y)(hd:o.dst=none)(hi:c.ty t=some i)(hx:fW S.sl x=some (.o (.pointer (some ⟨b,off,none⟩))))(hy:fW S.sl y=some av)(hl:cellsOf av=some l)
  (how:S.ow=pre++OF.cells b bt cells::post) (hsz:l.length=i.size) (hle:off+l.length<=cells.length) (mA:l.all AV.one=true) (hD:∀t,Operand.tmp t∈o.op.operands->D t):
  Cert c K n0 D S o (.q undef) none [] (pre++OF.cells b bt (pL cells off l)::post):=by
 intro X μ a w next Q H _ hn
 have hf0:OF.cells b bt cells∈S.ow:=by rw[how];simp
 obtain⟨⟨cs,hcs,ho⟩,hat⟩:=H.own.at_ _ hf0;obtain⟨q1,q2,q3,q4⟩:=hat b rfl;have e1:=aH H hx (λt e=>hD t (by rw[hop];simp[Op.operands,e]));have e2:=aH H hy (λt e=>hD t (by rw[hop];simp[Op.operands,e]));have hb2:a.eval x=.pointer (some ⟨b,off,none⟩):=by
  simp only[aD,Value.oneCell',if_true]at e1;injection e1 with e1;exact e1.symm
 have hcl:=kZ hl e2
 obtain⟨ti,z,h1,h2,h3,h4,h5⟩:=(c.tok _ i hi).info;have hlen:=bC hcl;have aT1:=bC hcs;have mA:=uN mA hcl;have hwr:(Instr.storeAt t (a.eval x) (a.eval y)).run c.P w=.ok () (w.setCells b off (a.eval y).cells.toList):=by
  rw[hb2];simp only[Instr.storeAt,Instr.sureAddr,Sem.run_bind,Sem.run_pure,Result.andThen_ok,storeVar,dD h1];rw[if_neg (by simp at hlen;omega)];have:=run_storeCells_cells (P:=c.P) b off (a.eval y).cells.toList 0 w
   (λj hj=>by simp[World.cell?,ho];simp at hlen hj;omega)
   (λj hj=>by simp[World.frozen?,ho]) mA
  simpa using this
 have aJ2:∀j,j≠b->(w.setCells b off (a.eval y).cells.toList).heap[j]?=w.heap[j]?:=λj hj=>fN b _ _ _ j hj
 have aBg:∃vs,aF μ (pL cells off l)=some vs/\(w.setCells b off (a.eval y).cells.toList).heap[b]?=some (.cells vs.toArray bt (0,0)):=by
  refine⟨_,rX hcs hcl hle,(gJ b bt _ off w cs.toArray ho (by simp at hlen |-;omega)).trans ?_⟩;congr 2;rw[<-Array.foldl_toList];simp
 have oK:=setCells_size b (a.eval y).cells.toList off w
 have hap:=H.own.apart
 rw[how]at hap;have hnb:∀f,f∈pre++post->¬f.F μ b:=λf hf hfb=>by
  rcases bFu hap f hf with h | h
  ·exact h b hfb rfl
  ·exact h b rfl hfb
 have hr:(execOp a.eval o).run c.P w=.ok .skip (w.setCells b off (a.eval y).cells.toList):=by simp only[execOp,hop,Sem.run_bind,hwr,Result.andThen_ok,Sem.run_pure]
 refine tW hr ?_;have:=hn X μ undef (w.setCells b off (a.eval y).cells.toList) ⟨fM b q1 _ _ _ (RowKit.Below.refl _ _),λj hj hjf=>aJ2 j (λe=>hjf _ hf0 (show j=b from e)),by simp[aD],rfl,λ_ h=>h,λ_ h=>.inl h,?_⟩ (λf hf=>by cases hf)
 ·simpa[Act.put,hd]using this
 ·refine⟨λf hf=>?_,bCf (g:=OF.cells b bt cells) (λf h=>h) (λf h=>h) hap⟩;rw[oK];by_cases hfn:f=OF.cells b bt (pL cells off l)
  ·subst hfn;refine⟨aBg,λj hj=>?_⟩;have hj:j=b:=hj;subst hj;exact⟨q1,q2,q3,q4⟩
  ·have hf':f∈pre++post:=by
    rcases List.mem_append.1 hf with h | h
    ·exact List.mem_append.2 (.inl h)
    ·rcases List.mem_cons.1 h with h | h
     ·exact absurd h hfn
     ·exact List.mem_append.2 (.inr h)
   obtain⟨h1,h2⟩:=H.own.at_ f (by rw[how];rcases List.mem_append.1 hf' with h | h<;>simp[h]);obtain⟨h3,h4⟩:=f.st μ μ w _ (Mu.vle_refl _) (λj hj=>aJ2 j (λe=>hnb f hf' (e▸hj))) h1;exact⟨h3,h2⟩
theorem uS (hc:Ctx c P ty nt){all:Array Oper}{i0 n0:Nat}{K0:List KF}{k:List KI}(o:Oper){t:TypeId}{x y:Operand}{i:TyI}{b off bt:Nat}{G:Nat->List AV->OF}(hG:∀b l,G b l=OF.cells b bt l){av:AV}{l cells:List AV}(pre:List OF){post:List OF}(ho:all[i0]?=some o)(hg:guardOf all S.sl o=some true)(hop:o.op=.store t x y)(hd:o.dst=none)(hi:ty t=some i)(hx:fW S.sl x=some (.o (.pointer (some ⟨b,off,none⟩))))(hy:fW S.sl y=some av)(hl:cellsOf av=some l)
  (how:S.ow=pre++G b cells::post) (hsz:l.length=i.size) (hle:Nat.ble (off+l.length) cells.length=true) (mA:l.all AV.one=true) (n:Nat)
  (h:Goal c K (run ty nt K n (.dops all (i0+1) n0 K0::k) ⟨S.sl,S.hp,pre++G b (pL cells off l)::post⟩ [])):Goal c K ⟨.dops all i0 n0 K0::k,S,[]⟩:=by
 rw[hG]at how h;have hs:=dX hc n h;have hic:cF o=true:=by unfold cF;rw[hop]
 refine .mk0 (show DPath c all n0 K0 k i0 S K from ?_);refine DPath.op (Kn:=[]) ho hg (by rw[hd];rfl) (by
  rw[hic];simp only[if_true,fl,hic];exact aJd hop hd (by rw[hc.hty];exact hi) hx hy hl how hsz (lbl hle) mA (λt ht=>by simp only[xL,eG,List.mem_append];exact .inl (fV (by simpa using ht)))) (λ_=>rfl) ?_ hs
 rw[hic,hd];exact Wk.refl _
def aXk (o:Oper):Bool:=match o.op with | .store ..=>true | _=>false
def bEg:List KI->Bool
 | .code (.region _ ops true)::_=>ops.toList.any aXk
 | _=>false
def aX8 (ty:Nat->Option TyI)(nt:Nat)(K:List KF):Nat->List KI->St->List Obl->Cfg
 | 0,ks,S,ob=>⟨ks,S,ob⟩
 | n+1,ks,S,ob=>if bEg ks then⟨ks,S,ob⟩else match aK9 ty nt K ks S with
  | some r=>aX8 ty nt K n r.ks r.S (match r.ob with | []=>ob | o=>ob++o)
  | none=>⟨ks,S,ob⟩
theorem aKw (ty:Nat->Option TyI)(nt:Nat)(K:List KF):∀(n:Nat) (ks:List KI) (S:St) (ob:List Obl),∃m,aX8 ty nt K n ks S ob=run ty nt K m ks S ob
 | 0,ks,S,ob=>⟨0,rfl⟩
 | n+1,ks,S,ob=>by
  simp only[aX8];split
  ·exact⟨0,rfl⟩
  ·split
   ·rename_i r hr;obtain⟨m,hm⟩:=aKw ty nt K n r.ks r.S (match r.ob with | []=>ob | o=>ob++o);exact⟨m+1,by simp only[run,hr];exact hm⟩
   ·exact⟨0,rfl⟩
theorem aZh (hc:Ctx c P ty nt)(n:Nat){ks:List KI}(h:Goal c K (aX8 ty nt K n ks S [])):Goal c K ⟨ks,S,[]⟩:=by
 obtain⟨m,hm⟩:=aKw ty nt K n ks S [];rw[hm]at h;exact iC hc m h
end
end Go.Ai
namespace Go.Ai
open Go Go.Proofs Go.Num
theorem aPy:aB PP 295:=zK
theorem aG1:aB PP 249:=zK
theorem wZ:aB PP 234:=zK
theorem aLv:aB PP 252:=zK
theorem aRu:aB PP 265:=zK
theorem euc {z y:Int}(hy:y≠0):(¬(z<0/\z.natAbs%y.natAbs≠0)->sgn (!(decide (z<0)==decide (y<0))) (z.natAbs/y.natAbs)=z/y/\((z.natAbs%y.natAbs:Nat):Int)=z%y)/\
  (z<0/\z.natAbs%y.natAbs≠0->sgn (!(decide (z<0)==decide (y<0))) (z.natAbs/y.natAbs+1)=z/y/\((y.natAbs - z.natAbs%y.natAbs:Nat):Int)=z%y):=by
 have hn:0<y.natAbs:=Int.natAbs_pos.2 hy
 have h1:=Nat.div_add_mod z.natAbs y.natAbs
 have h2:=Nat.mod_lt z.natAbs hn
 obtain⟨q,hq⟩:=nm (z.natAbs/y.natAbs);obtain⟨r,hr⟩:=nm (z.natAbs%y.natAbs);rw[<-hq,<-hr]at h1;rw[<-hr]at h2;rw[<-hq,<-hr];have hp:((y.natAbs*q+r:Nat):Int)=z.natAbs:=by rw[h1]
 rw[Int.natCast_add,Int.natCast_mul]at hp;have uniq:∀a b:Int,0<=b->b<y.natAbs->z=y*a+b->a=z/y/\b=z%y:=by
  intro a b hb0 hb1 he;have e1:z/y=a:=by
   rw[he,Int.add_comm,Int.add_mul_ediv_left _ _ hy];have:b/y=0:=by
    rcases Int.lt_or_gt_of_ne hy with h | h
    ·have:=Int.ediv_eq_zero_of_lt hb0 (show b< -y by omega)
     rw[Int.ediv_neg]at this;omega
    ·exact Int.ediv_eq_zero_of_lt hb0 zW
   omega
  refine⟨e1.symm,?_⟩;have:=Int.mul_ediv_add_emod z y;rw[e1]at this;omega
 constructor
 ·intro hc;refine uniq _ _ zW zW ?_;unfold sgn;by_cases hz:z<0<;>by_cases hy0:y<0
  ·rw[decide_eq_true hz,decide_eq_true hy0];simp;have hr0:r=0:=Classical.byContradiction λe=>hc ⟨hz,e⟩;have e1:(y.natAbs:Int)=-y:=zW;have e2:(z.natAbs:Int)=-z:=zW;rw[e1,e2,Int.neg_mul]at hp;omega
  ·rw[decide_eq_true hz,decide_eq_false hy0];simp;have hr0:r=0:=Classical.byContradiction λe=>hc ⟨hz,e⟩;have e1:(y.natAbs:Int)=y:=zW;have e2:(z.natAbs:Int)=-z:=zW;rw[e1,e2]at hp;rw[Int.mul_neg];omega
  ·rw[decide_eq_false hz,decide_eq_true hy0];simp;have e1:(y.natAbs:Int)=-y:=zW;have e2:(z.natAbs:Int)=z:=zW;rw[e1,e2,Int.neg_mul]at hp;rw[Int.mul_neg];omega
  ·rw[decide_eq_false hz,decide_eq_false hy0];simp;have e1:(y.natAbs:Int)=y:=zW;have e2:(z.natAbs:Int)=z:=zW;rw[e1,e2]at hp;omega
 ·rintro ⟨hz,hr0⟩;refine uniq _ _ zW zW ?_;have e2:(z.natAbs:Int)=-z:=zW;have e3:((q+1:Nat):Int)=(q:Int)+1:=zW;unfold sgn;by_cases hy0:y<0
  ·rw[decide_eq_true hz,decide_eq_true hy0];simp;have e1:(y.natAbs:Int)=-y:=zW;rw[e1,e2,Int.neg_mul]at hp;rw[Int.mul_add];omega
  ·rw[decide_eq_true hz,decide_eq_false hy0];simp;have e1:(y.natAbs:Int)=y:=zW;rw[e1,e2]at hp;rw[Int.mul_neg,Int.mul_add];omega
theorem aLh:aJ 1=⟨#[49]⟩:=by unfold aJ;rw[aW0]
theorem aS9:dl 1<=2^37:=lTr (tE (k:=1) zV zV) zV
theorem aXj {z y:Int}(hy:y≠0)(hn:dl z.natAbs<=2^36)(hm:dl y.natAbs<=2^36):Pure PP 295 [eK z,eK y] (.tuple #[eK (z/y),eK (z%y)]):=by
 have hy0:0<y.natAbs:=Int.natAbs_pos.2 hy
 obtain⟨q,hq⟩:=nm (z.natAbs/y.natAbs);obtain⟨r,hr⟩:=nm (z.natAbs%y.natAbs);have hql:dl q<=2^36:=lTr (uI (by rw[hq];exact Nat.div_le_self _ _)) hn;have hrl:dl r<=2^36:=lTr (uI (by rw[hr];exact Nat.mod_le _ _)) hn;have hry:r<=y.natAbs:=by rw[hr];exact Nat.le_of_lt (Nat.mod_lt _ hy0)
 have h1:=aO7 hy0 (lTr hn zV) (lTr hm zV)
 have h2:Pure PP 271 [.string (aJ q),.string ⟨#[49]⟩] (.tuple #[.string (aJ (q+1)),.int .i64 0]):=by
  have:=bFm (n:=q) (m:=1) (lTr hql zV) aS9
  rwa [aLh]at this
 have h3:=bCa hry (lTr hm zV) (lTr hrl zV)
 have e:=euc (z:=z) hy
 rw[<-hq,<-hr]at e h1;obtain⟨R1,hR1⟩:=nm (eK (z/y));obtain⟨R2,hR2⟩:=nm (eK (z%y));have w1:¬(z<0/\r≠0)->Pure PP 255 [.bool (!(decide (z<0)==decide (y<0))),.string (aJ q)] R1/\Pure PP 255 [.bool false,.string (aJ r)] R2:=λh=>by
  rw[hR1,hR2,<-(e.1 h).1,<-(e.1 h).2];exact⟨xZ _ _,xZ false r⟩
 have w2:z<0/\r≠0->Pure PP 255 [.bool (!(decide (z<0)==decide (y<0))),.string (aJ (q+1))] R1/\Pure PP 255 [.bool false,.string (aJ (y.natAbs - r))] R2:=λh=>by
  rw[hR1,hR2,<-(e.2 h).1,<-(e.2 h).2];exact⟨xZ _ _,xZ false _⟩
 rw[<-hR1,<-hR2];have n0:=aUo (s:=aJ r) rfl;unfold eK at hR1 hR2 |-;obtain⟨b,hb⟩:=nm (decide (z<0));rw[<-hb]at w1 w2 |-;have w1:¬(b=true/\r≠0)->_:=λh=>w1 (λh'=>h ⟨by rw[hb];exact decide_eq_true h'.1,h'.2⟩);have w2:b=true/\r≠0->_:=λh=>w2 ⟨of_decide_eq_true (by rw[<-hb];exact h.1),h.2⟩;clear hb e;generalize decide (y<0)=b' at w1 w2 |-;generalize decide (z/y<0)=b1,aJ (z/y).natAbs=s1 at hR1;generalize decide (z%y<0)=b2,aJ (z%y).natAbs=s2 at hR2;generalize aJ z.natAbs=s at h1 |-;generalize aJ y.natAbs=t at h1 h3 |-;generalize aJ (q+1)=tq1 at h2 w2;generalize aJ (y.natAbs - r)=tr1 at h3 w2;generalize aJ q=tq at h1 h2 w1;generalize aJ r=tr at h1 h3 w1 n0;subst hR1;subst hR2;refine zF [.g [.b (.v b),.s (.v s)],.g [.b (.v b'),.s (.v t)]] Tryz.func295 λc hc hR=>?_;cbv;refine zC (.t [.s (.v tq),.s (.v tr),.i .i64 (.l 0)]) h1 aFd ?_;cbv;have fin1:¬(b=true/\r≠0)->_:=w1;refine cG 20 rfl rfl 100 (λh=>?_) (λh=>?_)
 ·have hb:b=true:=h
  cbv;refine aE rfl 100 (λh=>?_) (λh=>?_)
  ·have hr0:r≠0:=of_decide_eq_true (n0.symm.trans h)
   obtain⟨k1,k2⟩:=w2 ⟨hb,hr0⟩;cbv;refine zC (.t [.s (.v tq1),.i .i64 (.l 0)]) h2 aSa ?_;cbv;refine zC (.t [.s (.v tr1),.i .i64 (.l 0)]) h3 aLy ?_;cbv;refine zC (.g [.b (.v b1),.s (.v s1)]) k1 kT ?_;cbv;refine zC (.g [.b (.v b2),.s (.v s2)]) k2 kT ?_;cbv;exact zR
  ·have hr0:¬r≠0:=of_decide_eq_false (n0.symm.trans h)
   obtain⟨k1,k2⟩:=w1 (λh=>hr0 h.2);cbv;refine zC (.g [.b (.v b1),.s (.v s1)]) k1 kT ?_;cbv;refine zC (.g [.b (.v b2),.s (.v s2)]) k2 kT ?_;cbv;exact zR
 ·have hb:b=false:=h
  obtain⟨k1,k2⟩:=w1 (λh=>by rw[hb]at h;cases h.1);cbv;refine zC (.g [.b (.v b1),.s (.v s1)]) k1 kT ?_;cbv;refine zC (.g [.b (.v b2),.s (.v s2)]) k2 kT ?_;cbv;exact zR
def xY (l:List UInt8):Bool:=Lib.hasPrefix l [45]
def sN (l:List UInt8):List UInt8:=Lib.trimPrefix l [45]
theorem bDx (s:ByteArray):Pure PP 265 [.string s,.string ⟨#[45]⟩] (.tuple #[.string ⟨(sN s.data.toList).toArray⟩,.bool (xY s.data.toList)]):=by
 intro w _;refine Calls.mono (Tryz.strings_CutPrefix s ⟨#[45]⟩ w) ?_;rintro e w' ⟨rfl,rfl⟩;exact⟨rfl,RowKit.Below.refl _ _⟩
theorem aUd (l:List UInt8):(sN l).length<=l.length:=by
 unfold sN Lib.trimPrefix;split
 ·simp
 ·exact lRf _
theorem aQy (l:List UInt8):(yJ l).isSome=(isNat (sN l)&& !(xY l&&decide (sN l=[48]))):=by
 cases l with
 | nil=>rfl
 | cons c t=>
  by_cases hc:c=45
  ·subst hc;have e1:xY (45::t)=true:=by simp[xY,Lib.hasPrefix]
   have e2:sN (45::t)=t:=by unfold sN Lib.trimPrefix;rw[show Lib.hasPrefix (45::t) [45]=true from e1];rfl
   rw[e1,e2];simp only[yJ];by_cases h1:isNat t=true<;>by_cases h2:t=[48]<;>simp[h1,h2]
  ·have e1:xY (c::t)=false:=by
    unfold xY Lib.hasPrefix;simp only[List.isPrefixOf,Bool.and_true,beq_eq_false_iff_ne];exact λh=>hc (Eq.symm h)
   have e2:sN (c::t)=c::t:=by unfold sN Lib.trimPrefix;rw[show Lib.hasPrefix (c::t) [45]=false from e1];rfl
   rw[e1,e2,aB2 (λu e=>by injection e with e _;exact hc e)];by_cases h1:isNat (c::t)=true<;>simp[h1]
theorem aNi {s t:ByteArray}:(BE.seq (.v s) (.v t)).den=decide (s.data.toList=t.data.toList):=by
 rw[aB7];simp only[SE.den];by_cases h:s.data.toList=t.data.toList
 ·rw[decide_eq_true h,h];simp
 ·rw[decide_eq_false h,beq_eq_false_iff_ne];exact h
theorem aY2 (s:ByteArray)(hs:s.size<=2^60):Pure PP 249 [.string s] (.tuple #[niV (xY s.data.toList) ⟨(sN s.data.toList).toArray⟩,.bool (yJ s.data.toList).isSome]):=by
 have h1:=bDx s
 have h2:=aM0 ⟨(sN s.data.toList).toArray⟩ (by
  show(sN s.data.toList).toArray.size<=_
  rw[List.size_toArray];exact lTr (aUd _) hs)
 have hl:=aQy s.data.toList
 obtain⟨ok,hok⟩:=nm ((yJ s.data.toList).isSome);rw[<-hok]at hl |-;obtain⟨a,ha⟩:∃a:ByteArray,a=⟨(sN s.data.toList).toArray⟩:=⟨_,rfl⟩;have hal:sN s.data.toList=a.data.toList:=by rw[ha]
 obtain⟨va,hva⟩:=nm (isNat a.data.toList);obtain⟨b,hb⟩:=nm (xY s.data.toList);rw[<-ha,<-hva]at h2;rw[hal,<-hva,<-hb]at hl;rw[<-ha,<-hb]at h1 |-;have e48:(BE.seq (.v a) (.v ⟨#[48]⟩)).den=decide (a.data.toList=[48]):=aNi;refine zF [.s (.v s)] Tryz.func249 λc hc hR=>?_;cbv;refine fT hc (.t [.s (.v a),.b (.v b)]) h1 aRu rfl rfl 14 ?_;cbv;obtain⟨G,hG⟩:∃G:Nat->List AV->OF,∀b l,G b l=OF.cells b 277 l:=⟨λb l=>OF.cells b _ l,λ_ _=>rfl⟩;refine aVa 2 0 hG (l:=[(4,.s (.v a)),(6,.p 1 0)]) (K':=[]) rfl rfl rfl ⟨⟨_,rfl,rfl,λ_=>rfl⟩,⟨_,rfl,rfl,λ_=>rfl⟩,trivial⟩ rfl rfl trivial trivial (λbk=>?_);apply zN hc;cbv;refine zD (.b (.v va)) h2 sS ?_;cbv;refine cG 18 rfl rfl 100 (λh=>?_) (λh=>?_)
 ·have h:va=true:=h
  have hok:ok=(BE.not (BE.and (BE.beq (.v b) (.l true)) (BE.seq (.v a) (.v ⟨#[48]⟩)))).den:=by
   show ok= !((b==true)&&(BE.seq (.v a) (.v ⟨#[48]⟩)).den)
   rw[e48,hl,h];cases b<;>simp
  cbv;refine uS hc _ hG [] rfl rfl rfl rfl rfl rfl rfl rfl rfl rfl rfl rfl 100 ?_;cbv;refine zE ?_;cbv;refine aB6 2 hG rfl rfl rfl ?_;cbv;exact bR hc hR rfl (by rw[hok];rfl)
 ·have h:va=false:=h
  have hok:ok=false:=by rw[hl,h];rfl
  subst hok;cbv;refine uS hc _ hG [] rfl rfl rfl rfl rfl rfl rfl rfl rfl rfl rfl rfl 100 ?_;cbv;refine zE ?_;cbv;refine aB6 2 hG rfl rfl rfl ?_;cbv;exact zR
theorem rP (z:Int):xY (Lib.itoa z)=decide (z<0)/\sN (Lib.itoa z)=Lib.decDigits z.natAbs:=by
 unfold Lib.itoa;by_cases h:z<0
 ·rw[if_pos h,decide_eq_true h];have e1:xY (45::Lib.decDigits z.natAbs)=true:=by simp[xY,Lib.hasPrefix]
  exact⟨e1,by unfold sN Lib.trimPrefix;rw[show Lib.hasPrefix (45::Lib.decDigits z.natAbs) [45]=true from e1];rfl⟩
 ·rw[if_neg h,decide_eq_false h,show z.toNat=z.natAbs by omega];have e1:xY (Lib.decDigits z.natAbs)=false:=by
   obtain⟨c,t,h1,h2⟩:=aC1 z.natAbs;rw[h1];unfold xY Lib.hasPrefix;simp only[List.isPrefixOf,Bool.and_true,beq_eq_false_iff_ne];exact λh=>(aMt h2).1 (Eq.symm h)
  exact⟨e1,by unfold sN Lib.trimPrefix;rw[show Lib.hasPrefix (Lib.decDigits z.natAbs) [45]=false from e1];rfl⟩
theorem mE (z:Int):(aW z).size<=dl z.natAbs+1:=by
 show(Lib.itoa z).toArray.size<=_
 rw[List.size_toArray];exact aA9 z
theorem aF3 {z:Int}(hz:dl z.natAbs<=2^59):Pure PP 249 [.string (aW z)] (.tuple #[eK z,.bool true]):=by
 have h:=aY2 (aW z) (lTr (mE z) zW)
 rw[dF,qU,(rP z).1,(rP z).2]at h;exact h
theorem aJ4 {z y:Int}(hz:dl z.natAbs<=2^59)(hy:dl y.natAbs<=2^59):Pure PP 234 [.string (aW z),.string (aW y)] (.tuple #[eK z,eK y,.int .i64 0]):=by
 have h1:=aF3 hz
 have h2:=aF3 hy
 unfold eK at h1 h2 |-;generalize aW z=sz at h1 |-;generalize aW y=sy at h2 |-;generalize aJ z.natAbs=s at h1 |-;generalize aJ y.natAbs=t at h2 |-;generalize decide (z<0)=b at h1 |-;generalize decide (y<0)=b' at h2 |-;refine zF [.s (.v sz),.s (.v sy)] Tryz.func234 λc hc hR=>?_;cbv;refine zC (.t [.g [.b (.v b),.s (.v s)],.b (.l true)]) h1 aG1 ?_;cbv;refine fT hc (.t [.g [.b (.v b'),.s (.v t)],.b (.l true)]) h2 aG1 rfl rfl 1 ?_;cbv;refine aZh hc 100 ?_;cbv;obtain⟨G,hG⟩:∃G:Nat->List AV->OF,∀b l,G b l=OF.cells b 277 l:=⟨λb l=>OF.cells b _ l,λ_ _=>rfl⟩;refine aVa 4 0 hG (l:=[(5,.p 1 0),(7,.p 2 0),(9,.p 3 0)]) (K':=[]) rfl rfl rfl ⟨⟨_,rfl,rfl,λ_=>rfl⟩,⟨_,rfl,rfl,λ_=>rfl⟩,⟨_,rfl,rfl,λ_=>rfl⟩,trivial⟩ rfl rfl trivial trivial (λbk=>?_);apply zN hc;cbv;refine uS hc _ hG [] rfl rfl rfl rfl rfl rfl rfl rfl rfl rfl rfl rfl 100 ?_;cbv;refine zE ?_;cbv;refine aB6 4 hG rfl rfl rfl ?_;cbv;exact zR
theorem bB3 {z:Int}(hz:dl z.natAbs<=2^59):Pure PP 252 [.string (aW z)] (.tuple #[eK z,.int .i64 0]):=by
 have h1:=aJ4 hz (y:=0) (by rw[show(0:Int).natAbs=0 from rfl,aOr,Lib.nDigits_small zV];decide)
 have e0:aW 0=⟨#[48]⟩:=by unfold aW Lib.itoa;rw[if_neg zV];exact congrArg (λl:List UInt8=>(⟨l.toArray⟩:ByteArray)) aMb
 have e1:eK 0=niV false ⟨#[48]⟩:=by unfold eK;rw[show(0:Int).natAbs=0 from rfl,bC8];rfl
 rw[e0,e1]at h1;unfold eK at h1 |-;generalize aW z=sz,aJ z.natAbs=s,decide (z<0)=b at h1 |-;refine zF [.s (.v sz)] Tryz.func252 λc hc hR=>?_;cbv;refine zC (.t [.g [.b (.v b),.s (.v s)],.g [.b (.l false),.s (.v ⟨#[48]⟩)],.i .i64 (.l 0)]) h1 wZ ?_;cbv;exact zR
theorem sQ:aB PP 224:=zK
theorem aWk:aB PP 233:=zK
theorem aZ7:aB PP 250:=zK
theorem aZ8:aB PP 264:=zK
theorem aLu:aB PP 204:=zK
theorem aLt:aB PP 262:=zK
theorem oF:aB PP 203:=zK
theorem aPx:aB PP 276:=zK
theorem bB2 (s:ByteArray)(hs:s.size<=2^60):Pure PP 224 [.string s] (.bool (yJ s.data.toList).isSome):=by
 have h:=aY2 s hs
 generalize (yJ s.data.toList).isSome=ok at h |-;generalize (⟨(sN s.data.toList).toArray⟩:ByteArray)=a,xY s.data.toList=b at h;refine zF [.s (.v s)] Tryz.func224 λc hc hR=>?_;cbv;refine zC (.t [.g [.b (.v b),.s (.v a)],.b (.v ok)]) h aG1 ?_;cbv;exact zR
theorem bFf {z:Int}(hz:dl z.natAbs<=2^59):Pure PP 233 [.string (aW z)] (.tuple #[.int .i64 (bD z 0),.int .i64 0]):=by
 have h:=bB3 hz
 have h2:=aY3 z
 unfold eK at h h2;generalize bD z 0=r at h2 |-;generalize aW z=sz at h |-;generalize aJ z.natAbs=s,decide (z<0)=b at h h2;refine zF [.s (.v sz)] Tryz.func233 λc hc hR=>?_;cbv;refine zC (.t [.g [.b (.v b),.s (.v s)],.i .i64 (.l 0)]) h aLv ?_;cbv;refine zC (.i .i64 (.v r)) h2 aN7 ?_;cbv;exact zR
theorem bH6 {z:Int}(hz:dl z.natAbs<=2^59):Pure PP 250 [.string (aW z)] (.tuple #[.string (aJ z.natAbs),.int .i64 0]):=by
 have h:=bB3 hz
 unfold eK at h;generalize aW z=sz,aJ z.natAbs=s at h |-;generalize decide (z<0)=b at h;refine zF [.s (.v sz)] Tryz.func250 λc hc hR=>?_;cbv;refine zC (.t [.g [.b (.v b),.s (.v s)],.i .i64 (.l 0)]) h aLv ?_;cbv;exact zR
theorem bH8 {z:Int}(hz:dl z.natAbs<=2^59):Pure PP 264 [.string (aW z)] (.tuple #[.string (aW (-z)),.int .i64 0]):=by
 have h:=bB3 hz
 have h2:=bFi z
 have h3:=aJ8 (z:=-z) (by rw[Int.natAbs_neg];exact lTr hz zV)
 unfold eK at h h2 h3;generalize aW z=sz at h |-;generalize aW (-z)=sr at h3 |-;generalize aJ z.natAbs=s,decide (z<0)=b at h h2;generalize aJ (-z).natAbs=s',decide (-z<0)=b' at h2 h3;refine zF [.s (.v sz)] Tryz.func264 λc hc hR=>?_;cbv;refine zC (.t [.g [.b (.v b),.s (.v s)],.i .i64 (.l 0)]) h aLv ?_;cbv;refine zC (.g [.b (.v b'),.s (.v s')]) h2 aR4 ?_;cbv;refine zC (.s (.v sr)) h3 xA ?_;cbv;exact zR
theorem aFp (z y:Int){k:Nat}(h1:dl z.natAbs<=k)(h2:dl y.natAbs<=k):dl (z+y).natAbs<=k+1:=by
 have h3:(z+y).natAbs<=z.natAbs+y.natAbs:=Int.natAbs_add_le z y
 exact lTr (uI h3) (lTr (aS8 _ _) zW)
theorem aWw (z y:Int):bD (z+-y) 0=bD z y:=by unfold bD;split<;>split<;>(try split)<;>(try split)<;>omega
theorem aUb {z y:Int}(hz:dl z.natAbs<=2^36)(hy:dl y.natAbs<=2^36):Pure PP 204 [.string (aW z),.string (aW y)] (.tuple #[.int .i64 (bD z y),.int .i64 0]):=by
 have h:=aJ4 (z:=z) (y:=y) (lTr hz zV) (lTr hy zV)
 have h2:=bFi y
 have h3:=aY1 (z:=z) (y:=-y) (lTr hz zV) (by rw[Int.natAbs_neg];exact lTr hy zV)
 have h4:=aY3 (z+-y)
 rw[aWw]at h4;unfold eK at h h2 h3 h4;generalize bD z y=r at h4 |-;generalize aW z=sz,aW y=sy at h |-;generalize aJ z.natAbs=s,decide (z<0)=b at h h3;generalize aJ y.natAbs=t,decide (y<0)=b' at h h2;generalize aJ (-y).natAbs=t2,decide (-y<0)=b2 at h2 h3;generalize aJ (z+-y).natAbs=t3,decide (z+-y<0)=b3 at h3 h4;refine zF [.s (.v sz),.s (.v sy)] Tryz.func204 λc hc hR=>?_;cbv;refine zC (.t [.g [.b (.v b),.s (.v s)],.g [.b (.v b'),.s (.v t)],.i .i64 (.l 0)]) h wZ ?_;cbv;refine zD (.g [.b (.v b2),.s (.v t2)]) h2 aR4 ?_;cbv;refine zD (.g [.b (.v b3),.s (.v t3)]) h3 aN6 ?_;cbv;refine zD (.i .i64 (.v r)) h4 aN7 ?_;cbv;refine dH hc _ 0 ?_;refine zE ?_;cbv;exact zR
theorem bH7 {z y:Int}(hz:dl z.natAbs<=2^36)(hy:dl y.natAbs<=2^36):Pure PP 262 [.string (aW z),.string (aW y)] (.tuple #[.string (aW (z+y)),.int .i64 0]):=by
 have h:=aJ4 (z:=z) (y:=y) (lTr hz zV) (lTr hy zV)
 have h3:=aY1 (z:=z) (y:=y) (lTr hz zV) (lTr hy zV)
 have h4:=aJ8 (z:=z+y) (lTr (aFp z y hz hy) zV)
 unfold eK at h h3 h4;generalize aW (z+y)=r at h4 |-;generalize aW z=sz,aW y=sy at h |-;generalize aJ z.natAbs=s,decide (z<0)=b,aJ y.natAbs=t,decide (y<0)=b' at h h3;generalize aJ (z+y).natAbs=t3,decide (z+y<0)=b3 at h3 h4;refine zF [.s (.v sz),.s (.v sy)] Tryz.func262 λc hc hR=>?_;cbv;refine zC (.t [.g [.b (.v b),.s (.v s)],.g [.b (.v b'),.s (.v t)],.i .i64 (.l 0)]) h wZ ?_;cbv;refine zC (.g [.b (.v b3),.s (.v t3)]) h3 aN6 ?_;cbv;refine zC (.s (.v r)) h4 xA ?_;cbv;exact zR
theorem aUc {z y:Int}(hz:dl z.natAbs<=2^36)(hy:dl y.natAbs<=2^36):Pure PP 203 [.string (aW z),.string (aW y)] (.tuple #[.string (aW (z*y)),.int .i64 0]):=by
 have h:=aJ4 (z:=z) (y:=y) (lTr hz zV) (lTr hy zV)
 have h3:=bB5 (z:=z) (y:=y) (lTr hz zV) (lTr hy zV)
 have h4:=aJ8 (z:=z*y) (by rw[Int.natAbs_mul];exact lTr (rL _ _) (lTr (Nat.add_le_add hz hy) zV))
 unfold eK at h h3 h4;generalize aW (z*y)=r at h4 |-;generalize aW z=sz,aW y=sy at h |-;generalize aJ z.natAbs=s,decide (z<0)=b,aJ y.natAbs=t,decide (y<0)=b' at h h3;generalize aJ (z*y).natAbs=t3,decide (z*y<0)=b3 at h3 h4;refine zF [.s (.v sz),.s (.v sy)] Tryz.func203 λc hc hR=>?_;cbv;refine zC (.t [.g [.b (.v b),.s (.v s)],.g [.b (.v b'),.s (.v t)],.i .i64 (.l 0)]) h wZ ?_;cbv;refine zC (.g [.b (.v b3),.s (.v t3)]) h3 aR6 ?_;cbv;refine zC (.s (.v r)) h4 xA ?_;cbv;exact zR
theorem aXi {z y:Int}(hy0:y≠0)(hz:dl z.natAbs<=2^36)(hy:dl y.natAbs<=2^36):Pure PP 276 [.string (aW z),.string (aW y)] (.tuple #[.string (aW (z/y)),.string (aW (z%y)),.int .i64 0]):=by
 have h:=aJ4 (z:=z) (y:=y) (lTr hz zV) (lTr hy zV)
 have h3:=aXj (z:=z) (y:=y) hy0 hz hy
 have b1:dl (z/y).natAbs<=2^60:=by
  have:(z/y).natAbs<=z.natAbs:=Int.natAbs_ediv_le_natAbs z y
  exact lTr (uI this) (lTr hz zV)
 have b2:dl (z%y).natAbs<=2^60:=by
  have h1:=Int.emod_nonneg z hy0
  have h2:=Int.emod_lt z hy0
  have:(z%y).natAbs<=y.natAbs:=zW
  exact lTr (uI this) (lTr hy zV)
 have h4:=aJ8 b1
 have h5:=aJ8 b2
 unfold eK at h h3 h4 h5;generalize aW (z/y)=r1 at h4 |-;generalize aW (z%y)=r2 at h5 |-;generalize aW z=sz,aW y=sy at h |-;generalize aJ z.natAbs=s,decide (z<0)=b at h h3;have n0:=bC1 (s:=aJ y.natAbs) rfl;have hyn:y.natAbs≠0:=λe=>hy0 (Int.natAbs_eq_zero.1 e);rw[decide_eq_false hyn]at n0;generalize aJ y.natAbs=t at h h3 n0;generalize decide (y<0)=b' at h h3;generalize aJ (z/y).natAbs=t1,decide (z/y<0)=b1 at h3 h4;generalize aJ (z%y).natAbs=t2,decide (z%y<0)=b2 at h3 h5;refine zF [.s (.v sz),.s (.v sy)] Tryz.func276 λc hc hR=>?_;cbv;refine zC (.t [.g [.b (.v b),.s (.v s)],.g [.b (.v b'),.s (.v t)],.i .i64 (.l 0)]) h wZ ?_;cbv;refine zD (.g [.b (.l false),.s (.v ⟨#[48]⟩)]) aY4 aN8 ?_;cbv;refine zE ?_;cbv;have ef:(BE.and (BE.beq (.v b') (.l false)) (BE.seq (.v t) (.v ⟨#[48]⟩))).den=false:=by
  show((b'==false)&&(BE.seq (.v t) (.v ⟨#[48]⟩)).den)=false
  rw[n0,Bool.and_false]
 refine aE rfl 100 (λh=>by rw[ef]at h;cases h) (λ_=>?_);cbv;refine zC (.t [.g [.b (.v b1),.s (.v t1)],.g [.b (.v b2),.s (.v t2)]]) h3 aPy ?_;cbv;refine zD (.s (.v r1)) h4 xA ?_;cbv;refine zD (.s (.v r2)) h5 xA ?_;cbv;refine zE ?_;cbv;exact zR
def frV (s t:ByteArray):Value:=.agg #[.string s,.string t]
def cK (q:Rat):Value:=frV (aW q.num) (aJ q.den)
theorem aBo:aB PP 181:=zK
theorem aSg:aB PP 226:=zK
theorem aOe:aB PP 202:=zK
theorem bAj:aB PP 244:=zK
theorem bAi:aB PP 246:=zK
theorem zZ:aB PP 263:=zK
theorem qD (q:Rat):dl q.num.natAbs<=sz q:=Nat.le_max_left _ _
theorem sC (q:Rat):dl q.den<=sz q:=Nat.le_max_right _ _
theorem aPh {q:Rat}(hq:sz q<=2^50):Pure PP 181 [cK q] (.string (aA q)):=by
 have h1:(aW q.num).size<=2^51:=lTr (mE _) (by have:=qD q;omega)
 have h2:(aJ q.den).size<=2^51:=by rw[fS];have:=sC q;omega
 have e1:=aVj (s:=aJ q.den) rfl aLh.symm
 have hd:q.den=1->aA q=aW q.num:=λh=>by unfold aA;rw[if_pos h]
 have hn:q.den≠1->aA q=(aW q.num++⟨#[47]⟩)++aJ q.den:=λh=>by unfold aA;rw[if_neg h]
 unfold cK;generalize aA q=r at hd hn |-;generalize aW q.num=s at h1 hd hn |-;generalize aJ q.den=t at h2 hn e1 |-;have hsz:(s++(⟨#[47]⟩:ByteArray)).size=s.size+1:=by rw[ByteArray.size_append];rfl
 have o1:(Obl.cat (.v s) (.v ⟨#[47]⟩)).ok:=by show((s.size+1:Nat):Int)<=_;omega
 have o2:(Obl.cat (.cat (.v s) (.v ⟨#[47]⟩)) (.v t)).ok:=by show(((s++(⟨#[47]⟩:ByteArray)).size+t.size:Nat):Int)<=_;rw[hsz];omega
 refine zF [.g [.s (.v s),.s (.v t)]] Tryz.func181 λc hc hR=>?_;cbv;refine aE rfl 100 (λh=>?_) (λh=>?_)
 ·have hr:=hd (of_decide_eq_true (e1.symm.trans h))
  subst hr;cbv;exact zR
 ·have hr:=hn (of_decide_eq_false (e1.symm.trans h))
  cbv;refine aP hc ⟨o1,o2,trivial⟩ ?_;exact bR hc hR rfl (by rw[hr];rfl)
theorem aKp {p:Int}{d:Nat}(hp:dl p.natAbs<=2^37)(hd:dl d<=2^37):Pure PP 226 [.string (aW p),.string (aJ d)] (.string (aJ (p.natAbs.gcd d))):=by
 have h1:=bH6 (z:=p) (lTr hp zV)
 have h2:=bIg hp hd
 generalize aW p=s at h1 |-;generalize aJ d=t at h2 |-;generalize aJ p.natAbs=a at h1 h2;generalize aJ (p.natAbs.gcd d)=g at h2 |-;refine zF [.s (.v s),.s (.v t)] Tryz.func226 λc hc hR=>?_;cbv;refine zC (.t [.s (.v a),.i .i64 (.l 0)]) h1 aZ7 ?_;cbv;refine zC (.t [.s (.v g),.i .i64 (.l 0)]) h2 bAc ?_;cbv;exact zR
theorem aZf {q:Rat}(hq:sz q<=2^50):Pure PP 202 [cK q] (.int .i64 (bD q.num 0)):=by
 have h1:=bFf (z:=q.num) (lTr (qD q) (lTr hq zV))
 unfold cK;generalize bD q.num 0=r,aW q.num=s at h1 |-;generalize aJ q.den=t;refine zF [.g [.s (.v s),.s (.v t)]] Tryz.func202 λc hc hR=>?_;cbv;refine zC (.t [.i .i64 (.v r),.i .i64 (.l 0)]) h1 aWk ?_;cbv;exact zR
theorem bIs {q:Rat}(hq:sz q<=2^50):Pure PP 244 [cK q] (cK (-q)):=by
 have h1:=bH8 (z:=q.num) (lTr (qD q) (lTr hq zV))
 have e:cK (-q)=frV (aW (-q.num)) (aJ q.den):=by unfold cK;rw[Rat.neg_num,Rat.neg_den]
 rw[e];unfold cK;generalize aW (-q.num)=r,aW q.num=s at h1 |-;generalize aJ q.den=t;refine zF [.g [.s (.v s),.s (.v t)]] Tryz.func244 λc hc hR=>?_;cbv;refine zC (.t [.s (.v r),.i .i64 (.l 0)]) h1 aZ8 ?_;cbv;exact zR
theorem aLj {n:Nat}(h:0<n):aW (-(n:Int))=⟨#[45]⟩++aJ n:=by
 apply kQ;rw[dF,gF,cZ];unfold Lib.itoa;rw[if_pos zW,Int.natAbs_neg,Int.natAbs_natCast];rfl
theorem lM (n:Nat):aW (n:Int)=aJ n:=by
 apply kQ;rw[dF,cZ];unfold Lib.itoa;rw[if_neg zW,Int.toNat_natCast]
theorem aF2 {q:Rat}(h0:q≠0):(q.num<0->q⁻¹.num=-(q.den:Int)/\q⁻¹.den=q.num.natAbs)/\(0<q.num->q⁻¹.num=(q.den:Int)/\q⁻¹.den=q.num.natAbs):=by
 constructor
 ·intro h;rw[Rat.num_inv,Rat.den_inv,if_neg zW,Int.sign_eq_neg_one_of_neg h];exact⟨zW,rfl⟩
 ·intro h;rw[Rat.num_inv,Rat.den_inv,if_neg zW,Int.sign_eq_one_of_pos h];exact⟨zW,rfl⟩
theorem bIr {q:Rat}(h0:q≠0)(hq:sz q<=2^50):Pure PP 246 [cK q] (cK q⁻¹):=by
 have hd:0<q.den:=q.den_pos
 have h1:=bDx (aW q.num)
 rw[dF,(rP q.num).1,(rP q.num).2]at h1;have ea:(⟨(Lib.decDigits q.num.natAbs).toArray⟩:ByteArray)=aJ q.num.natAbs:=rfl;rw[ea]at h1;have hn0:q.num≠0:=λe=>h0 (Rat.num_eq_zero.1 e);obtain⟨i1,i2⟩:=aF2 h0;have e1:q.num<0->cK q⁻¹=frV (⟨#[45]⟩++aJ q.den) (aJ q.num.natAbs):=λh=>by
  unfold cK;rw[<-aLj hd,(i1 h).1,(i1 h).2]
 have e2:¬q.num<0->cK q⁻¹=frV (aJ q.den) (aW q.num):=λh=>by
  have h':0<q.num:=zW
  unfold cK;rw[(i2 h').1,(i2 h').2,lM];congr 1;rw[<-lM,show((q.num.natAbs:Nat):Int)=q.num by omega]
 have hsz:(aJ q.den).size<=2^51:=by rw[fS];have:=sC q;omega
 have et:(λh:q.num<0=>e1 h)=e1:=rfl
 show Pure PP _ [frV (aW q.num) (aJ q.den)] _
 generalize cK q⁻¹=r at e1 e2 |-;have hb:decide (q.num<0)=true->q.num<0:=of_decide_eq_true;have hb':decide (q.num<0)=false->¬q.num<0:=of_decide_eq_false;have e1:=λh=>e1 (hb h);have e2:=λh=>e2 (hb' h);clear hb hb' i1 i2 et;generalize decide (q.num<0)=b at h1 e1 e2;generalize aW q.num=s at h1 e2 |-;generalize aJ q.den=t at e1 e2 hsz |-;generalize aJ q.num.natAbs=u at h1 e1;have o1:(Obl.cat (.v ⟨#[45]⟩) (.v t)).ok:=by show((1+t.size:Nat):Int)<=_;omega
 refine zF [.g [.s (.v s),.s (.v t)]] Tryz.func246 λc hc hR=>?_;cbv;refine zC (.t [.s (.v u),.b (.v b)]) h1 aRu ?_;cbv;refine aE rfl 100 (λh=>?_) (λh=>?_)
 ·have hr:=e1 h
  cbv;refine aP hc ⟨o1,trivial⟩ ?_;exact bR hc hR rfl (by rw[hr];rfl)
 ·have hr:=e2 h
  cbv;exact bR hc hR rfl (by rw[hr];rfl)
theorem tO (p:Int){d:Nat}(hd:0<d):(mkRat p d).num=p/(p.natAbs.gcd d:Nat)/\(mkRat p d).den=d/p.natAbs.gcd d:=by
 rw[Rat.num_mkRat,Rat.den_mkRat,if_neg zW,if_neg zW,Nat.gcd_comm];exact⟨rfl,rfl⟩
theorem aPf {p:Int}{d:Nat}(hd0:0<d)(hp:dl p.natAbs<=2^36)(hd:dl d<=2^36):Pure PP 263 [.string (aW p),.string (aJ d)] (cK (mkRat p d)):=by
 have hg0:0<p.natAbs.gcd d:=Nat.gcd_pos_of_pos_right _ hd0
 have hgl:dl (p.natAbs.gcd d)<=2^36:=lTr (uI (Nat.le_of_dvd hd0 (Nat.gcd_dvd_right _ _))) hd
 obtain⟨m1,m2⟩:=tO p hd0;have h1:=aKp (p:=p) (d:=d) (lTr hp zV) (lTr hd zV);obtain⟨g,hg⟩:=nm (p.natAbs.gcd d);rw[<-hg]at h1 hg0 hgl m1 m2;have h2:=aXi (z:=p) (y:=(g:Int)) zW hp (by rw[Int.natAbs_natCast];exact hgl);rw[lM]at h2;have h3:=aO7 (n:=d) hg0 (lTr hd zV) (lTr hgl zV);have e1:=aVj (s:=aJ g) rfl aLh.symm;have f1:g=1->cK (mkRat p d)=frV (aW p) (aJ d):=λh=>by unfold cK;rw[m1,m2,h];simp
 have f2:cK (mkRat p d)=frV (aW (p/(g:Int))) (aJ (d/g)):=by unfold cK;rw[m1,m2]
 generalize cK (mkRat p d)=r at f1 f2 |-;generalize aW (p/(g:Int))=p1 at h2 f2;generalize aW (p%(g:Int))=p2 at h2;generalize aJ (d/g)=d1 at h3 f2;generalize aJ (d%g)=d2 at h3;generalize aW p=s at h1 h2 f1 |-;generalize aJ d=t at h1 h3 f1 |-;generalize aJ g=tg at h1 h2 h3 e1;refine zF [.s (.v s),.s (.v t)] Tryz.func263 λc hc hR=>?_;cbv;refine zC (.s (.v tg)) h1 aSg ?_;cbv;refine aE rfl 100 (λh=>?_) (λh=>?_)
 ·cbv;refine zC (.t [.s (.v p1),.s (.v p2),.i .i64 (.l 0)]) h2 aPx ?_;cbv;refine zC (.t [.s (.v d1),.s (.v d2),.i .i64 (.l 0)]) h3 aFd ?_;cbv;exact bR hc hR rfl (by rw[f2];rfl)
 ·have h:=BE.not_f h
  have hr:=f1 (of_decide_eq_true (e1.symm.trans h))
  cbv;exact bR hc hR rfl (by rw[hr];rfl)
end Go.Ai
