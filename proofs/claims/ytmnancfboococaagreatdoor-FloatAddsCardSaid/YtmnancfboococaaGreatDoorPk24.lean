/- Part 25 of the proof: garboardlaw17.FloatAdds returns true, whatever the input. -/
import Derived.Test.YtmnancfboococaaGreatDoorPk12
import Derived.Test.YtmnancfboococaaGreatDoorPk13
import Derived.Test.YtmnancfboococaaGreatDoorPk14
import Derived.Test.YtmnancfboococaaGreatDoorPk15
import Derived.Test.YtmnancfboococaaGreatDoorPk23
set_option linter.all false
namespace Go.Ai
open Go Go.Proofs Go.Num
theorem aSo:aB PP 126:=zK
theorem aKg:aB PP 125:=zK
theorem bAr {X:Nat→Prop}{w:World}{x:Int}(hX:∀b,X b→b<w.heap.size)(h0:0≤x)(h1:x<18446744073709551616):Fn PP 126 [.int .u64 x] X w (aL x.toNat):=by
 obtain⟨R,hRR⟩:=nm (aL x.toNat);rw[←hRR];obtain⟨y,hy⟩:=nm (x/1000000000);have e1:x.tmod 1000000000=x%1000000000:=Int.tmod_eq_emod_of_nonneg h0
 have e2:x.tdiv 1000000000=y:=by rw[hy];exact Int.tdiv_eq_ediv_of_nonneg h0
 have hy0:0≤y∧y<18446744074:=by omega
 have e3:y.tmod 1000000000=y%1000000000:=Int.tmod_eq_emod_of_nonneg hy0.1
 have e4:y.tdiv 1000000000=y/1000000000:=Int.tdiv_eq_ediv_of_nonneg hy0.1
 have cQ:∀(kd:IntKind) (e:IE) (z:Int),e.den=z→lo kd≤z∧z≤hi kd→(Obl.inR kd e).ok:=fun kd e z he hz=>by show _∧_;rw[he];exact hz
 have nz:(Obl.nz (IE.l 1000000000)).ok:=by show _≠_;simp[IE.den]
 have d1:(IE.rem (.v x) (.l 1000000000)).den=x%1000000000:=e1
 have d2:(IE.quo (.v x) (.l 1000000000)).den=y:=e2
 have d3:(IE.rem (.quo (.v x) (.l 1000000000)) (.l 1000000000)).den=y%1000000000:=by show(IE.quo (.v x) (.l 1000000000)).den.tmod 1000000000=_;rw[d2,e3]
 have d4:(IE.quo (.quo (.v x) (.l 1000000000)) (.l 1000000000)).den=y/1000000000:=by show(IE.quo (.v x) (.l 1000000000)).den.tdiv 1000000000=_;rw[d2,e4]
 have p1:=cQ .u32 _ _ d1 (by simp only[lo,hi];omega)
 have p2:=cQ .u64 _ _ d2 (by simp only[lo,hi];omega)
 have p3:=cQ .u32 _ _ d3 (by simp only[lo,hi];omega)
 have p4:=cQ .u64 _ _ d4 (by simp only[lo,hi];omega)
 have p5:=cQ .u32 _ _ d4 (by simp only[lo,hi];omega)
 have hl:Wd [x%1000000000,y%1000000000,y/1000000000]:=Wd.mk (by omega) (Wd.mk (by omega) (Wd.mk (by omega) Wd.nil))
 have hv:val [x%1000000000,y%1000000000,y/1000000000]=x:=by simp only[val];omega
 refine bE mixed tok [.i .u64 (.v x)] (K:=[]) Tryz.func126 rfl rfl (lbl rfl) rfl hX (fun f hf=>by cases hf) fun c hc hR=>?_
 refine zN hc ?_;cbv;refine zO hc ?_;refine wY 0 .u32 rfl rfl rfl fun f hf=>?_
 have f0:=(hf 0 _ rfl).trans d1
 have f1:=(hf 1 _ rfl).trans d3
 have f2:=(hf 2 _ rfl).trans d4
 cbv;refine dZ (R:=R) hc kL (fun n0 D X μ a w aK H aJ=>?_) 100 ?_
 ·obtain⟨v,rfl,hv'⟩:=aV aJ;have h3:=H.row (l:=[x%1000000000,y%1000000000,y/1000000000]) rfl hv' rfl (fun i y hy=>by
   match i,hy with
   | 0,hy=>simp at hy;subst hy;exact f0
   | 1,hy=>simp at hy;subst hy;exact f1
   | 2,hy=>simp at hy;subst hy;exact f2) (lRf _) (lRf _)
  have:=fQ hl (by simp) H.xlt h3
  rw[hv]at this;rw[hRR];exact this
 cbv;exact aS hc hR rfl (fun X μ a w v H hv=>H.toP.val (k:=1) (.head _) hv)
theorem aU4 {v:Value}{X:Nat→Prop}{w:World}{n:Nat}(hbn:(aC n).length≤2)(hX:∀b,X b→b<w.heap.size)(hv:(aL n).p v X w):
  Fn PP 125 [v] X w (dI (.int .u64 n)):=by
 obtain⟨R,hRR⟩:=nm (dI (.int .u64 n));obtain⟨K,hK⟩:=nm ([KF.cst v (aL n)]);rw[←hRR];have bD2:n<1000000000^2:=aT hbn
 refine bE mixed tok [.q v] (K:=K) Tryz.func125 rfl rfl (lbl rfl) rfl hX (by subst hK;simp;exact hv) fun c hc hR=>?_
 refine cW 0 .u32 (aC n) rfl rfl (fun X μ a w v' H hv'=>cA H (by simp[hK]) hv') fun f N cap hN hf dH=>?_
 have hN2:N≤2:=by omega
 have cQ:∀(kd:IntKind) (e:IE) (z:Int),e.den=z→lo kd≤z∧z≤hi kd→(Obl.inR kd e).ok:=fun kd e z he hz=>by show _∧_;rw[he];exact hz
 have q0:(Obl.inR .i64 ((IE.n N).sub (IE.l 1))).ok:=cQ _ _ ((N:Int) - 1) rfl (by simp only[lo,hi];omega)
 have kf:jY 1 K K:=by subst hK;exact⟨⟨.head _,KFr.cst _ _ _⟩,trivial⟩
 have hdb:∀k,val ((aC n).drop k)<1000000000^((aC n).length - k)∧0≤val ((aC n).drop k):=fun k=>by
  have:=iX ((bF n).drop k)
  rw[List.length_drop]at this;exact⟨this,cI ((bF n).drop k)⟩
 have hv0:val ((aC n).drop 0)=n:=by rw[List.drop_zero,cP]
 refine zN hc ?_;cbv;refine aQ hc ⟨q0,trivial⟩ ?_;let ι:={x:Nat × Int//x.2=val ((aC n).drop x.1)∧x.1≤N}
 let I:ι→St:=fun x=>⟨[(0,.sl 0 0 (.n N) cap),(3,.i .u64 (.v x.1.2)),(4,.i .i64 (.sub (.n x.1.1) (.l 1)))],[.xi .u32 N f],[]⟩
 let x0:ι:=⟨(N,0),by rw[List.drop_of_length_le (by omega)];rfl,lRf _⟩
 refine zU 1 (S':=I x0) (K':=K) ⟨zS rfl rfl,zS rfl rfl,zS rfl rfl,trivial⟩ kf trivial ?_;refine bQ hc I (fun x=>x.1.1) x0 100 ?_;rintro p ⟨⟨k,z⟩,hz,hk⟩ hy;simp only at hz hk;cbv;refine aE hc rfl 100 (fun h=>?_) (fun h=>?_)
 ·have h:(0:Int)≤(k:Int) - 1:=BE.le_t h
  obtain⟨q,hq⟩:∃q,q+1=k:=⟨k - 1,by omega⟩;have hqN:q<N:=by omega
  have hqk:q<k:=by omega
  have hqg:(aC n)[q]?=some (aC n)[q]:=by simp
  have hst:=mX hqg
  rw[hq,←hz]at hst;have hwn:=bF n (aC n)[q] (List.getElem_mem _)
  obtain⟨ga,hga⟩:=nm ((aC n)[q]);rw[←hga]at hst hwn;have hix:aX 0 ((IE.n k).sub (IE.l 1)).den 1 0=q:=by simp only[aX,IE.den];omega
  have g1:(IE.fn f 0 ((IE.n k).sub (IE.l 1)) 1 0).den=ga:=by show f (aX 0 ((IE.n k).sub (IE.l 1)).den 1 0)=ga;rw[hix,hf q _ hqg,hga]
  obtain⟨z',hz'⟩:=nm (val ((aC n).drop q));rw[←hz']at hst;have hdq:=hdb q
  rw[←hz']at hdq;have hdk:=hdb k
  rw[←hz]at hdk;have hpw:(1000000000:Int)^((aC n).length - q)≤1000000000^2:=aTt (by omega)
  have hz1:0≤z'∧z'<1000000000000000000:=by omega
  have hz0:0≤z∧z<1000000000000000000:=by omega
  have m1:((IE.v z).mul (IE.l 1000000000)).den=z*1000000000:=rfl
  have a1:(((IE.v z).mul (IE.l 1000000000)).add (IE.fn f 0 ((IE.n k).sub (IE.l 1)) 1 0)).den=z':=by show z*1000000000+(IE.fn f 0 ((IE.n k).sub (IE.l 1)) 1 0).den=z';rw[g1,hst];omega
  have p1:=cQ .u64 _ _ m1 (by simp only[lo,hi];omega)
  have p2:(Obl.ltE ((IE.n k).sub (IE.l 1)) (IE.n N)).ok:=by show _∧_;simp only[IE.den];omega
  have p3:(Obl.ix 0 ((IE.n k).sub (IE.l 1)) 1 0 1 N).ok:=by show _≤_;rw[hix];omega
  have p4:=cQ .u64 _ _ g1 (by simp only[lo,hi];omega)
  have p5:=cQ .u64 _ _ a1 (by simp only[lo,hi];omega)
  have p8:(Obl.inR .i64 (((IE.n k).sub (IE.l 1)).sub (IE.l 1))).ok:=cQ _ _ ((k:Int) - 1 - 1) rfl (by simp only[lo,hi];omega)
  have s1:(((IE.n k).sub (IE.l 1)).sub (IE.l 1)).den=((IE.n q).sub (IE.l 1)).den:=by simp only[IE.den];omega
  have bCr:q≤N:=by omega
  cbv;refine zO hc ?_;exact zU 1 (S':=I ⟨(q,z'),hz',bCr⟩) (K':=K) ⟨zS rfl rfl,zI rfl rfl a1,zI rfl rfl s1,trivial⟩ kf trivial (hy _ hqk)
 ·have h:¬(0:Int)≤(k:Int) - 1:=BE.le_f h
  have hk0:k=0:=by omega
  have hzn:z=n:=by rw[hz,hk0,hv0]
  cbv;refine aS hc hR rfl (fun X μ a w v H hv=>?_);simp only[aD,IE.den]at hv;injection hv with hv
  rw[hRR,←hv,hzn];exact rfl
theorem uE:aB PP 72:=zK
theorem aJb (s:ByteArray)(hs:s.size≤2^60):Pure PP 72 [.string s] (.bool (isNat s.data.toList)):=by
 obtain⟨res,kV⟩:=nm (isNat s.data.toList);obtain⟨l,hl⟩:=nm (s.data.toList);rw[←kV];rw[←hl]at kV;have hlen:l.length=s.size:=by rw[hl];rfl
 obtain⟨n,hn⟩:=nm (l.length);have hsz:(IE.len (.v s)).den=(IE.n n).den:=by show((s.size:Nat):Int)=_;rw[hn,hlen];rfl
 refine aH mixed tok [.s (.v s)] Tryz.func72 rfl rfl (lbl rfl) rfl fun c hc hR=>?_
 refine zN hc ?_;cbv;let ι:={k:Nat//k≤n∧(l.take k).all lJ=true}
 let I:ι→St:=fun x=>⟨[(0,.s (.v s)),(3,.i .i64 (.n x.1))],[],[]⟩
 let x0:ι:=⟨0,Nat.zero_le _,rfl⟩
 refine zU 0 (S':=I x0) (K':=[]) ⟨zS rfl rfl,zS rfl rfl,trivial⟩ trivial trivial ?_;refine bQ hc I (fun x=>n - x.1) x0 100 ?_;rintro p ⟨k,hk,cK⟩ hy;have tJ:(BE.lt (.n k) (.len (.v s))).den=decide (k<n):=by
  show decide ((k:Int)<(IE.len (.v s)).den)=_
  rw[hsz];exact decide_eq_decide.2 (by simp only[IE.den];omega)
 cbv;refine aE hc rfl 100 (fun h=>?_) (fun h=>?_)
 ·have hkn:k<n:=of_decide_eq_true (tJ.symm.trans h)
  obtain⟨k',hk'⟩:=nm (k+1);have o2:(Obl.ltE (.n k) (.len (.v s))).ok:=by show _∧_;rw[hsz];simp only[IE.den];omega
  have o3:(Obl.inR .i64 (.add (.n k) (.l 1))).ok:=by show lo _≤_∧_≤hi _;simp only[lo,hi,IE.den];omega
  have hi1:((IE.n k).add (IE.l 1)).den=(IE.n k').den:=by simp only[IE.den,hk'];omega
  have aP0:k'≤n:=by omega
  have hms:n - k'<n - k:=by omega
  have hkl:k<l.length:=by omega
  have hno:¬lJ (l.getD k 0)=true→res=false:=fun h=>by rw[kV];exact aJ3 hkl h
  have aXf:lJ (l.getD k 0)=true→(l.take k').all lJ=true:=fun h=>by rw[hk'];exact aFc hkl cK h
  have hlt:=aJ9 hl (i:=.n k) (k:=k) (by simp[IE.den]) 48
  have hgt:=aK9 hl (i:=.n k) (k:=k) (by simp[IE.den]) 57
  cbv;refine zO hc ?_;refine bU hc 14 rfl rfl 100 (fun h=>?_) (fun h=>?_)
  ·have h:=of_decide_eq_true (hlt.symm.trans h)
   have hf:=hno (fun hd=>by have:=tK.1 hd;omega)
   subst hf;cbv;exact aF hc hR (av:=.b (.l false)) rfl rfl
  ·have h:=of_decide_eq_false (hlt.symm.trans h)
   cbv;refine zO hc ?_;refine aE hc rfl 100 (fun h2=>?_) (fun h2=>?_)
   ·have h2:=of_decide_eq_true (hgt.symm.trans h2)
    have hf:=hno (fun hd=>by have:=tK.1 hd;omega)
    subst hf;cbv;exact aF hc hR (av:=.b (.l false)) rfl rfl
   ·have h2:=of_decide_eq_false (hgt.symm.trans h2)
    have hd:=aXf (tK.2 ⟨by omega,by omega⟩)
    cbv;refine zO hc ?_;exact zU 0 (S':=I ⟨k',aP0,hd⟩) (K':=[]) ⟨zS rfl rfl,zI rfl rfl hi1,trivial⟩ trivial trivial (hy _ hms)
 ·have hkn:¬k<n:=of_decide_eq_false (tJ.symm.trans h)
  have hkl:k=l.length:=by omega
  have hd:(l.take l.length).all lJ=true:=by rw[←hkl];exact cK
  have hd':l.all lJ=true:=by rwa [List.take_of_length_le (lRf _)]at hd
  have h1:(BE.eq (.len (.v s)) (.l 1)).den=decide (l.length=1):=by
   show decide ((IE.len (.v s)).den=1)=_
   rw[hsz];exact decide_eq_decide.2 (by simp only[IE.den];omega)
  have l1:=aI6 hl 1
  have e48:(BE.eq (.byte (.v s) (.l 0)) (.l 48)).den=decide (l.getD 0 0=48):=by
   simp only[BE.den];exact decide_eq_decide.2 (by rw[jC (k:=0) rfl,←hl];exact aVj)
  have n48:(BE.not (.eq (.byte (.v s) (.l 0)) (.l 48))).den=decide (l.getD 0 0≠48):=by
   show(!(BE.eq (.byte (.v s) (.l 0)) (.l 48)).den)=_
   rw[e48];by_cases h:l.getD 0 0=48<;>simp[h]
  clear hy;cbv;refine bU hc 23 rfl rfl 100 (fun h2=>?_) (fun h2=>?_)
  ·have h2:=of_decide_eq_true (h1.symm.trans h2)
   have hf:res=true:=by rw[kV];simp[isNat,hd',h2]
   subst hf;cbv;exact aF hc hR (av:=.b (.l true)) rfl rfl
  ·have h2:=of_decide_eq_false (h1.symm.trans h2)
   cbv;refine bU hc 27 rfl rfl 100 (fun h3=>?_) (fun h3=>?_)
   ·have h3:=of_decide_eq_true (l1.symm.trans h3)
    have o1:(Obl.ltE (.l 0) (.len (.v s))).ok:=by show _∧_;rw[hsz];simp only[IE.den];omega
    have hf:res=decide (l.getD 0 0≠48):=by rw[kV];simp[isNat,hd',h2,h3]
    cbv;refine zO hc ?_;exact aF hc hR rfl (by rw[hf,←n48];rfl)
   ·have h3:=of_decide_eq_false (l1.symm.trans h3)
    have hf:res=false:=by rw[kV];simp[isNat,h2,h3]
    subst hf;cbv;exact aF hc hR (av:=.b (.l false)) rfl rfl
def zR (b:Bool)(n:Nat):RV1:=.agg [.b (.l b),.x (aL n)]
theorem aVl {b:Bool}{n:Nat}{u:Value}{X:Nat→Prop}{w:World}(h:(aL n).p u X w):(zR b n).p (.agg #[.bool b,u]) X w:=
 ⟨[.bool b,u],rfl,rfl,⟨gR h,h⟩,trivial⟩
theorem aL8:aB PP 65:=zK
theorem aUl {b:Bool}{n:Nat}{r:Int}(hr:r=if b then -1 else if n=0 then 0 else 1):vZ PP 65 [zR b n] (.sg (.one (.i .i64 (.v r)))):=by
 obtain⟨R1,hR1⟩:∃R,R=aL n:=⟨_,rfl⟩;have hz:zR b n=.agg [.b (.l b),.x R1]:=by rw[hR1];rfl
 obtain⟨F,hF⟩:=nm (oP (.sg (zR b n)));rw[hz]at hF ⊢;refine kC mixed tok Tryz.func65 rfl (by rfl) rfl [F] ⟨hF,trivial⟩ fun c G hG hc hR=>?_
 cases b with
 | true=>
  refine zN hc ?_;cbv;exact iV hc hG hR rfl (.i hr.symm)
 | false=>
  refine zN hc ?_;cbv;refine cW 6 .u32 (aC n) rfl rfl (fun X μ a w v' H hv'=>by
   have h:=aJ5 (R:=.sg (.agg [.b (.l false),.x R1])) H (.head _) hF rfl hv'
   rw[hR1]at h;exact h) fun f N cap hN hf dH=>?_
  refine zN hc ?_;cbv;refine aE hc rfl 100 (fun h=>?_) (fun h=>?_)
  ·have h:=BE.lt_t h
   cbv;refine iV hc hG hR rfl (.i ?_);rw[hr];have:n≠0:=fun e=>by rw[e,bS]at hN;rw[hN]at h;exact absurd h (by decide)
   simp[this];rfl
  ·have h:=BE.lt_f h
   cbv;refine iV hc hG hR rfl (.i ?_);rw[hr];have:n=0:=rU (by simp only[IE.den]at h;omega)
   simp[this];rfl
theorem oX:aB PP 115:=zK
theorem aLv {b b':Bool}{n:Nat}(hb:b'=(b&&decide (n≠0))):vZ PP 115 [.one (.b (.l b)),.one (.x (aL n))] (.sg (zR b' n)):=by
 obtain⟨R1,hR1⟩:∃R,R=aL n:=⟨_,rfl⟩;obtain⟨F,hF⟩:=nm (oP (.sg (.one (.x R1))));obtain⟨F0,hF0⟩:∃F,F=oP (.sg (.one (.b (.l b)))):=⟨_,rfl⟩;obtain⟨rs,hrs⟩:=nm (RV.sg (zR b' n));rw[←hrs,←hR1];refine kC mixed tok Tryz.func115 rfl (by rfl) rfl [F0,F] ⟨hF0,hF,trivial⟩ fun c G hG hc hR=>?_
 obtain⟨K,hK⟩:=nm (sK 0 [F0,F]);rw[←hK];refine cW 1 .u32 (aC n) rfl rfl (fun X μ a w v' H hv'=>by
   have h:=aJ5 (R:=.sg (.one (.x R1))) H (by rw[hK];exact .tail _ (.head _)) hF rfl hv'
   rw[hR1]at h;exact h) fun f N cap hN hf dH=>?_
 have jT:∀{x:Bool} {X:Nat→Prop} {w:World} {u:Value},x=b'→(aL n).p u X w→G.p (.agg #[.bool x,u]) X w:=fun hx hu=>by
  rw[hG,hrs,hx];exact aVl hu
 have aGn:∀{x:BE} {S:St} {X:Nat→Prop} {μ:Mu} {a:Act} {w:World} {v:Value},Sim c K S X μ a w→S.hp[2]?=some (.xi .u32 N f)→x.den=b'→aD μ (.g [.b x,.sl 2 0 (.n N) cap])=some v→G.p v X w:=by
  intro x S X μ a w v H hk hx hv;obtain⟨vs,h1,rfl⟩:=tD hv;obtain⟨v1,v2,rfl,e1,e2⟩:=bL h1;rw[fN e1];exact jT hx (H.toP.row hk e2 (by simp[IE.den,hN]) (fun i x hx=>by rw[Nat.zero_add];exact hf i x hx) (by omega) (by omega))
 have hlt:(BE.lt (.l 0) (.n N)).den=(true&&decide (n≠0)):=by
  show decide ((0:Int)<(N:Int))=_
  rw[Bool.true_and];refine decide_eq_decide.2 ⟨fun h e=>?_,fun h=>?_⟩
  ·rw[e,bS]at hN;rw[hN]at h;exact absurd h (by decide)
  ·rw[hN,bY h];simp only[List.length_cons];omega
 cases b with
 | true=>
  have hx:=hlt.trans hb.symm
  refine zN hc ?_;cbv;exact aS hc hR rfl (fun X μ a w v H hv=>aGn H rfl hx hv)
 | false=>
  have hx:(BE.l false).den=b':=hb.symm
  refine zN hc ?_;cbv;exact aS hc hR rfl (fun X μ a w v H hv=>aGn H rfl hx hv)
theorem aVi {b:UInt8}:(b.toNat:Int)=45↔b=45:=by
 constructor
 ·intro h;apply UInt8.toNat_inj.1;show b.toNat=45
  omega
 ·intro h;subst h;rfl
theorem aT1 {l:List UInt8}(h:l.getD 0 0=45)(hl:1<l.length):(wA l).isSome=(decide (l≠[45,48])&&isNat (l.drop 1)):=by
 cases l with
 | nil=>simp at hl
 | cons c t=>
  have hc:c=45:=h
  subst hc;simp only[wA,List.drop_succ_cons,List.drop_zero]
  by_cases h1:isNat t=true<;>by_cases h2:t=[48]<;>simp[h1,h2]
theorem aT2 {l:List UInt8}(h:¬(1<l.length∧l.getD 0 0=45)):(wA l).isSome=isNat l:=by
 by_cases h1:∃t,l=45::t
 ·obtain⟨t,rfl⟩:=h1;have:t=[]:=by
   cases t with
   | nil=>rfl
   | cons d t=>exact absurd ⟨by simp,rfl⟩ h
  subst this
  rfl
 ·rw[yQ (fun t e=>h1 ⟨t,e⟩)]
  by_cases h2:isNat l=true<;>simp[h2]
theorem aCp {s:ByteArray}{l:List UInt8}(hl:l=s.data.toList):((SE.v s).sub (.l 1) (.len (.v s))).den.data.toList=l.drop 1:=by
 have hsz:s.size=l.length:=by rw[hl];rfl
 show(s.extract 1 (IE.len (.v s)).den.toNat).data.toList=_
 have hlq:(IE.len (.v s)).den.toNat=l.length:=by show((s.size:Nat):Int).toNat=_;rw[hsz,Int.toNat_natCast]
 rw[hlq,ByteArray.data_extract,Array.toList_extract,List.extract_eq_take_drop,←hl,List.take_of_length_le (by rw[List.length_drop];omega)]
theorem aMd (s:ByteArray):((SE.v s).sub (.l 1) (.len (.v s))).den.size≤s.size:=by
 show(s.extract 1 (IE.len (.v s)).den.toNat).size≤_
 have hlq:(IE.len (.v s)).den.toNat=s.size:=by show((s.size:Nat):Int).toNat=_;rw[Int.toNat_natCast]
 rw[ByteArray.size_extract,hlq];omega
theorem aKu {s:ByteArray}(h:1≤s.size):(Obl.slc (.l 1) (.len (.v s)) (.v s)).ok:=by
 have hlq:(IE.len (.v s)).den=(s.size:Int):=rfl
 refine⟨by decide,?_,?_⟩
 ·rw[hlq];simp only[IE.den];omega
 ·rw[hlq];exact Int.le_refl _
theorem aOw:aB PP 71:=zK
theorem aYm (s:ByteArray)(hs:s.size≤2^60):Pure PP 71 [.string s] (.bool (wA s.data.toList).isSome):=by
 obtain⟨res,kV⟩:=nm ((wA s.data.toList).isSome);rw[←kV];obtain⟨l,hl⟩:=nm (s.data.toList);rw[←hl]at kV;have hlen:l.length=s.size:=by rw[hl];rfl
 have l1:=aI6 hl 1
 have hv:=aJb s hs
 obtain⟨rv,hrv⟩:∃r,r=isNat s.data.toList:=⟨_,rfl⟩;rw[←hrv]at hv;have wS:¬(1<l.length∧l.getD 0 0=45)→rv=res:=fun h=>by rw[kV,hrv,←hl,aT2 h]
 have e45:(BE.eq (.byte (.v s) (.l 0)) (.l 45)).den=decide (l.getD 0 0=45):=by
  simp only[BE.den];exact decide_eq_decide.2 (by rw[jC (k:=0) rfl,←hl];exact aVi)
 have aEm:1<l.length→l.getD 0 0=45→res=(decide (l≠[45,48])&&isNat (l.drop 1)):=fun h1 h2=>by rw[kV,aT1 h2 h1]
 refine aH mixed tok [.s (.v s)] Tryz.func71 rfl rfl (lbl rfl) rfl fun c hc hR=>?_
 refine zN hc ?_;cbv;refine bU hc 6 rfl rfl 100 (fun h=>?_) (fun h=>?_)
 ·have h:=of_decide_eq_true (l1.symm.trans h)
  have o1:(Obl.ltE (.l 0) (.len (.v s))).ok:=by show _∧_;simp only[IE.den,SE.den];omega
  cbv;refine aQ hc ⟨o1,trivial⟩ ?_;refine aE hc rfl 100 (fun h2=>?_) (fun h2=>?_)
  ·have h2:=of_decide_eq_true (e45.symm.trans h2)
   have hr:=aEm h h2
   have e48:(BE.not (.seq (.v s) (.v ⟨#[45,48]⟩))).den=decide (l≠[45,48]):=by
    show(!(BE.seq (.v s) (.v ⟨#[45,48]⟩)).den)=_
    rw[aJp,←hl];simp
   cbv;refine bU hc 13 rfl rfl 100 (fun h3=>?_) (fun h3=>?_)
   ·have h3:=e48.symm.trans h3
    rw[h3,Bool.true_and]at hr;have hv2:Pure PP 72 [.string ((SE.v s).sub (.l 1) (.len (.v s))).den] (.bool res):=by
     have:=aJb ((SE.v s).sub (.l 1) (.len (.v s))).den (lTr (aMd s) hs)
     rwa [aCp hl,←hr]at this
    have o2:=aKu (s:=s) (by omega)
    cbv;refine aQ hc ⟨o2,trivial⟩ ?_;refine zC hc (.b (.l res)) hv2 uE ?_;cbv;exact aF hc hR (av:=.b (.l res)) rfl rfl
   ·have h3:=e48.symm.trans h3
    rw[h3,Bool.false_and]at hr;subst hr;cbv;exact aF hc hR (av:=.b (.l false)) rfl rfl
  ·have h2:=of_decide_eq_false (e45.symm.trans h2)
   have hr:=wS (fun e=>h2 e.2)
   cbv;refine zC hc (.b (.l rv)) hv uE ?_;cbv;exact aF hc hR (av:=.b (.l rv)) rfl (by rw[←hr];rfl)
 ·have h:=of_decide_eq_false (l1.symm.trans h)
  have hr:=wS (fun e=>h e.1)
  cbv;refine zC hc (.b (.l rv)) hv uE ?_;cbv;exact aF hc hR (av:=.b (.l rv)) rfl (by rw[←hr];rfl)
theorem aD2:aB PP 74:=zK
theorem aM4 {l:List UInt8}{p j:Nat}(hp:p≤j)(hj:j<l.length):dW 0 ((l.take (j+1)).drop p)=10*dW 0 ((l.take j).drop p)+((l.getD j 0).toNat - 48):=by
 have e:(l.take (j+1)).drop p=(l.take j).drop p++[l.getD j 0]:=by
  rw[List.take_succ_eq_append_getElem hj,List.drop_append_of_le_length (by rw[List.length_take];omega)]
  congr 2
  simp[hj]
 rw[e,nH,fD,iM]
theorem aTr {l:List UInt8}(h:l.all lJ=true){p j:Nat}(hpj:j≤p+9):dW 0 ((l.take j).drop p)<1000000000:=by
 have h1:=aKv ((l.take j).drop p) (wB (wC h j) _)
 have h2:((l.take j).drop p).length≤9:=by simp;omega
 exact Nat.lt_of_lt_of_le h1 (Nat.pow_le_pow_right (by decide) h2:_≤10^9)
theorem aTs {l:List UInt8}(h:l.all lJ=true){qm j:Nat}(h1:qm≤j)(hj:j<l.length)(h9:j<qm+9){V V' b:Int}(hV:V=(dW 0 ((l.take j).drop qm):Int))(hV':V'=(dW 0 ((l.take (j+1)).drop qm):Int))(hb:b=((l.getD j 0).toNat:Int)):
  0≤10*V∧10*V≤4294967295∧0≤b - 48∧b - 48≤9∧10*V+(b - 48)=V'∧0≤V'∧V'≤999999999:=by
 have hps:=aM4 (l:=l) (p:=qm) (j:=j) h1 hj
 have bCp:=aTr h (p:=qm) (j:=j+1) (by omega)
 have hd:lJ (l.getD j 0)=true:=by
  have hg:l.getD j 0=l[j]:=by simp[hj]
  rw[hg];exact List.all_eq_true.1 h _ (List.getElem_mem hj)
 have hd2:=tK.1 hd
 rw[hps]at hV' bCp;omega
structure FrX where
 a:Option Addr
 cap:Nat
 k:Nat
 z:Int
 out:List Int
set_option maxHeartbeats 0 in
theorem aU3 {X:Nat→Prop}{w:World}{n:Nat}(hbn:dl n≤2^38)(hX:∀b,X b→b<w.heap.size):Fn PP 74 [.string (aM n)] X w (aL n):=by
 obtain⟨R,hRR⟩:=nm (aL n);obtain⟨l,hl⟩:=nm (Lib.decDigits n);have cK:l.all lJ=true:=by rw[hl];exact gE n
 have sJ:dW 0 l=n:=by rw[hl];exact cU n
 have hlen:l.length≤2^38:=by rw[hl];exact hbn
 rw[←hRR];obtain⟨s,hs0⟩:=nm (aM n);have hsl:l=s.data.toList:=by rw[hs0,cT,←hl]
 have hsz:s.size=l.length:=by rw[hsl];rfl
 rw[←hs0];have cQ:∀(kd:IntKind) (e:IE) (z:Int),e.den=z→lo kd≤z∧z≤hi kd→(Obl.inR kd e).ok:=fun kd e z he hz=>by show _∧_;rw[he];exact hz
 refine bE mixed tok [.s (.v s)] (K:=[]) Tryz.func74 rfl rfl (lbl rfl) rfl hX (fun f hf=>by cases hf) fun c hc hR=>?_
 obtain⟨G,hG⟩:∃G:Option Addr→Nat→Nat→List Int→OF,∀a n cap l,G a n cap l=OF.row (.slice a n cap) c.B.heap.size 138 .u32 l:=⟨fun a n cap l=>OF.row (.slice a n cap) c.B.heap.size 138 .u32 l,fun _ _ _ _=>rfl⟩;refine rI hG rfl ?_;refine zN hc ?_;cbv;let ι:={x:FrX//RdS l x.z.toNat x.out∧x.k=x.out.length∧-9≤x.z}
 let I:ι→St:=fun x=>⟨[(0,.s (.v s)),(3,.xs x.1.a x.1.k x.1.cap),(4,.i .i64 (.v x.1.z))],[],[G x.1.a x.1.k x.1.cap x.1.out]⟩
 let x0:ι:=⟨⟨none,0,0,l.length,[]⟩,by rw[Int.toNat_natCast];exact RdS.init l,rfl,by show(-9:Int)≤(l.length:Int);omega⟩
 have kof:∀a i cp out,yY 0 [G a i cp out]:=fun a i cp out=>⟨by rw[hG];exact OFr.row _ _ _ _ _ _,trivial⟩
 have e0:(IE.len (.v s)).den=(l.length:Int):=by show((s.size:Nat):Int)=_;rw[hsz]
 refine zU 0 (S':=I x0) (K':=[]) ⟨zS rfl rfl,zS rfl rfl,zI rfl rfl e0,trivial⟩ trivial (kof _ _ _ _) ?_;refine bQ hc I (fun x=>x.1.z.toNat) x0 100 ?_;rintro p ⟨⟨a,cap,k,z,out⟩,hr,hk,hz9⟩ hy;simp only at hr hk hz9;obtain⟨q,hq⟩:=nm (z.toNat);rw[←hq]at hr;have aZ9:q≤2^38:=lTr hr.le hlen
 have cL:=fun h=>hr.step cK h
 have hle:=hr.le
 have hrn:=hr.n
 obtain⟨qm,hqm⟩:=nm (q - 9);rw[←hqm]at cL;cbv;refine aE hc rfl 100 (fun h=>?_) (fun h=>?_)
 ·have hz0:(0:Int)<z:=BE.lt_t h
  have hzq:z=(q:Int):=by omega
  have hq0:0<q:=by omega
  have cL:=cL hq0
  have emx:(IE.max (.l 0) (.sub (.v z) (.l 9))).den=(IE.n qm).den:=by
   show(if(0:Int)<z - 9 then z - 9 else 0)=(qm:Int)
   split<;>omega
  have o1:(Obl.inR .i64 (.sub (.v z) (.l 9))).ok:=cQ _ _ (z - 9) rfl (by simp only[lo,hi];omega)
  let κ:={x:Nat//qm≤x∧x≤q}
  obtain⟨W,hW⟩:∃W:Nat→Int,∀j,W j=(dW 0 ((l.take j).drop qm):Int):=⟨_,fun _=>rfl⟩;let J:κ→St:=fun x=>⟨[(0,.s (.v s)),(3,.xs a k cap),(4,.i .i64 (.v z)),(5,.i .u32 (.v (W x.1))),(6,.i .i64 (.n x.1))],[],[G a k cap out]⟩
  let y0:κ:=⟨qm,lRf _,by omega⟩
  have W0:(0:Int)=W qm:=by rw[hW,List.drop_of_length_le (by rw[List.length_take];omega)];rfl
  cbv;refine zO hc ?_;refine zU 0 (S':=J y0) (K':=[]) ⟨zS rfl rfl,zS rfl rfl,zS rfl rfl,zI rfl rfl W0,zI rfl rfl emx,trivial⟩ trivial (kof _ _ _ _) ?_;refine bQ hc J (fun x=>q - x.1) y0 100 ?_;rintro p2 ⟨j,hj1,hj2⟩ hh;have hWj:=hW j
  cbv;refine aE hc rfl 100 (fun h=>?_) (fun h=>?_)
  ·have hjz:(j:Int)<z:=BE.lt_t h
   have hjq:j<q:=by omega
   have hjl:j<l.length:=by omega
   obtain⟨j',hj'⟩:=nm (j+1);have aWo:=hW j'
   rw[hj']at aWo;rw[←hj']at aWo;obtain⟨b,hb⟩:∃b:Int,b=((l.getD j 0).toNat:Int):=⟨_,rfl⟩;obtain⟨t1,t2,t3,t4,t5,t6,t7⟩:=aTs (V':=W j') cK hj1 hjl (by omega) hWj (by rw[aWo,hj']) hb;obtain⟨V,hV⟩:=nm (W j);have eb:(IE.byte (.v s) (.n j)).den=b:=by rw[hb,hsl];exact jC (by simp[IE.den])
   have g1:(IE.sub (.byte (.v s) (.n j)) (.l 48)).den=b - 48:=by show(IE.byte (.v s) (.n j)).den - 48=_;rw[eb]
   have m1:(IE.mul (.l 10) (.v (W j))).den=10*W j:=rfl
   have a1:(IE.add (.mul (.l 10) (.v (W j))) (.sub (.byte (.v s) (.n j)) (.l 48))).den=W j':=by
    show(IE.mul (.l 10) (.v (W j))).den+(IE.sub (.byte (.v s) (.n j)) (.l 48)).den=_
    rw[m1,g1,t5]
   have p1:=cQ .u32 _ _ m1 (by simp only[lo,hi];exact⟨t1,t2⟩)
   have p2:(Obl.ltE (.n j) (.len (.v s))).ok:=by show _∧_;rw[e0];exact⟨Int.natCast_nonneg j,Int.ofNat_lt.2 hjl⟩
   have p3:=cQ .u8 _ _ g1 (by simp only[lo,hi];exact⟨t3,Int.le_trans t4 (by decide)⟩)
   have p4:=cQ .u32 _ _ g1 (by simp only[lo,hi];exact⟨t3,Int.le_trans t4 (by decide)⟩)
   have p5:=cQ .u32 _ _ a1 (by simp only[lo,hi];exact⟨t6,Int.le_trans t7 (by decide)⟩)
   have p6:(Obl.inR .i64 (.add (.n j) (.l 1))).ok:=cQ _ _ ((j:Int)+1) rfl (by simp only[lo,hi];omega)
   have s1:((IE.n j).add (IE.l 1)).den=(IE.n j').den:=by simp only[IE.den,hj'];omega
   have hyx:=hh ⟨j',by omega,by omega⟩ (by show q - j'<q - j;omega)
   cbv;refine zO hc ?_;exact zU 0 (S':=J ⟨j',by omega,by omega⟩) (K':=[]) ⟨zS rfl rfl,zS rfl rfl,zS rfl rfl,zI rfl rfl a1,zI rfl rfl s1,trivial⟩ trivial (kof _ _ _ _) hyx
  ·have hjz:¬(j:Int)<z:=BE.lt_f h
   have hjq:j=q:=by omega
   have hWq:W j=(dW 0 ((l.take q).drop qm):Int):=by rw[hWj,hjq]
   have hlb:(out.length+1)*4≤140737488355328:=by omega
   have oC:out.length+1≤9223372036854775807:=by omega
   have ez:(z - 9).toNat=qm:=by omega
   have hq9:(z - 9).toNat<q:=by omega
   have hz':-9≤z - 9:=by omega
   have p7:(Obl.inR .i64 (.sub (.v z) (.l 9))).ok:=o1
   clear hh;cbv;refine eH hc _ rfl rfl rfl hG rfl rfl rfl rfl rfl rfl rfl rfl rfl cG hlb oC (fun a' n' aU l' hn' hl'=>?_);have hl':l'=out++[(dW 0 ((l.take q).drop qm):Int)]:=hl'.trans (congrArg (fun z=>out++[z]) hWq)
   refine zN hc ?_;cbv;refine zO hc ?_;exact zU 0 (S':=I ⟨⟨a',aU,n',z - 9,l'⟩,by show RdS l (z - 9).toNat l';rw[ez,hl'];exact cL,by rw[hl',hn'];simp,hz'⟩) (K':=[]) ⟨zS rfl rfl,zS rfl rfl,zS rfl rfl,trivial⟩ trivial (kof _ _ _ _) (hy _ (by rw[←hq];exact hq9))
 ·have hz0:¬(0:Int)<z:=BE.lt_f h
  have hq0:q=0:=by omega
  have hr0:RdS l 0 out:=by rw[←hq0];exact hr
  have hv:=hr0.done
  rw[sJ]at hv;cbv;refine lZ (hG _ _ _ _) rfl rfl ?_;refine dZ hc (R:=R) kL (fun n0 D X μ a w aK H aJ=>?_) 100 ?_
  ·obtain⟨v1,rfl,h1⟩:=aV aJ;have h1:=lG h1
   rw[h1,hRR,←hv];exact fQ hr0.wd (by have:=hr.n;omega) H.xlt (H.cst (.head _))
  cbv;refine aS hc hR rfl (fun X μ a w v' H hv'=>?_);exact H.toP.val (.head _) hv'
end Go.Ai
namespace Go.Ai
open Go Go.Proofs Go.Num
open Go.Lib
abbrev zIt (z:Int):RV1:=zR (decide (z<0)) z.natAbs
theorem itoa_neg {z:Int}(h:z<0):itoa z=45::decDigits z.natAbs:=by unfold itoa;rw[if_pos h]
theorem aAs {z:Int}(h:¬z<0):itoa z=decDigits z.natAbs:=by unfold itoa;rw[if_neg h];congr 1;omega
theorem ba_eq {a b:ByteArray}(h:a.data.toList=b.data.toList):a=b:=by
 cases a;cases b;congr 1;exact Array.toList_inj.1 h
theorem aSe {c:Cx}{K:List KF}{S:St}{X:Nat→Prop}{μ:Mu}{a:Act}{w:World}(H:Sim c K S X μ a w){k N cap n:Nat}{f:Nat→Int}{x:BE}{b:Bool}{v:Value}(hk:S.hp[k]?=some (.xi .u32 N f))(hN:N=(aC n).length)(hf:∀i y,(aC n)[i]?=some y→f i=y)(dH:N≤cap)(hx:x.den=b)
  (hv:aD μ (.g [.b x,.sl k 0 (.n N) cap])=some v):(zR b n).p v X w:=by
 obtain⟨vs,h1,rfl⟩:=tD hv;obtain⟨v1,v2,rfl,e1,e2⟩:=bL h1;rw[fN e1,hx];exact aVl (H.toP.row hk e2 (by simp[IE.den,hN]) (fun i y hy=>by rw[Nat.zero_add];exact hf i y hy) (by omega) (by omega))
theorem aSs:aB PP 73:=zK
theorem bA7 {z:Int}(hz:dl z.natAbs≤2^38):vZ PP 73 [.one (.s (.v (aY z)))] (.sg (zIt z)):=by
 intro args X w hX hp
 match args,hp with
 | [_],⟨rfl,_⟩=>
 obtain⟨b,hb⟩:=nm (decide (z<0));obtain⟨n,hn⟩:=nm (z.natAbs);obtain⟨R1,hR1⟩:∃R,R=aL n:=⟨_,rfl⟩;obtain⟨R,hRR⟩:=nm (oP (.sg (zIt z)));rw[←hRR];have jT:∀{X:Nat→Prop} {w:World} {v:Value},(zR b n).p v X w→R.p v X w:=fun h=>by
  rw[hRR];rw[hb,hn]at h;exact h
 have hF:∀{X:Nat→Prop} {w:World},(∀b,X b→b<w.heap.size)→Fn PP 74 [.string (aM n)] X w R1:=fun h=>by rw[hR1];exact aU3 (by rw[hn];exact hz) h
 obtain⟨s,hs⟩:=nm (aY z);have hl:itoa z=s.data.toList:=by rw[hs,dG]
 show Fn PP _ [.string (aY z)] X w R
 rw[←hs];have e45:(BE.eq (.byte (.v s) (.l 0)) (.l 45)).den=decide ((itoa z).getD 0 0=45):=by
  simp only[BE.den];exact decide_eq_decide.2 (by rw[jC (k:=0) rfl,←hl];exact aVi)
 have hsz:(itoa z).length=s.size:=by rw[hl];rfl
 have hpl:0<(itoa z).length:=by
  by_cases h:z<0
  ·rw[itoa_neg h];simp
  ·rw[aAs h];exact List.length_pos_iff.2 (fO _)
 have o1:(Obl.ltE (.l 0) (.len (.v s))).ok:=by
  have:(IE.len (.v s)).den=(s.size:Int):=rfl
  show _∧_;rw[this];simp only[IE.den];omega
 have o2:=aKu (s:=s) (by omega)
 refine bE mixed tok [.s (.v s)] (K:=[]) Tryz.func73 rfl rfl (lbl rfl) rfl hX (fun f hf=>by cases hf) fun c hc hR=>?_
 refine zN hc ?_;cbv;refine aQ hc ⟨o1,trivial⟩ ?_;refine aE hc rfl 100 (fun h2=>?_) (fun h2=>?_)
 ·have h2:=of_decide_eq_true (e45.symm.trans h2)
  have aEm:z<0:=Classical.byContradiction fun e=>by
   rw[aAs e]at h2;cases hd:decDigits z.natAbs with
   | nil=>exact fO _ hd
   | cons x t=>rw[hd]at h2;exact aF5 _ t (by rw[hd,show x=45 from h2])
  have hbt:(BE.l true).den=b:=by rw[hb];simp[aEm,BE.den]
  have hcut:((SE.v s).sub (.l 1) (.len (.v s))).den=aM n:=ba_eq (by rw[aCp hl,itoa_neg aEm,cT,hn];rfl)
  cbv;refine aQ hc ⟨o2,trivial⟩ ?_;refine dZ (R:=R1) hc aD2 (fun n0 D X μ a w aK H aJ=>?_) 100 ?_
  ·obtain⟨v,rfl,hv'⟩:=aV aJ;rw[dN hv',hcut];exact hF H.xlt
  cbv;refine cW 8 .u32 (aC n) rfl rfl (fun X μ a w v' H hv'=>by
   have h:=H.toP.val (R:=R1) (.head _) hv'
   rw[hR1]at h;exact h) fun f N cap hN hf dH=>?_
  refine zN hc ?_;cbv;exact aS hc hR rfl (fun X μ a w v H hv=>jT (aSe H rfl hN hf dH hbt hv))
 ·have h2:=of_decide_eq_false (e45.symm.trans h2)
  have wS:¬z<0:=fun e=>h2 (by rw[itoa_neg e];rfl)
  have hbt:(BE.l false).den=b:=by rw[hb];simp[wS,BE.den]
  have hst:s=aM n:=ba_eq (by rw[←hl,aAs wS,cT,hn])
  cbv;refine dZ (R:=R1) hc aD2 (fun n0 D X μ a w aK H aJ=>?_) 100 ?_
  ·obtain⟨v,rfl,hv'⟩:=aV aJ;rw[dN hv'];show Fn PP _ [.string s] X w R1
   rw[hst];exact hF H.xlt
  cbv;refine cW 11 .u32 (aC n) rfl rfl (fun X μ a w v' H hv'=>by
   have h:=H.toP.val (R:=R1) (.head _) hv'
   rw[hR1]at h;exact h) fun f N cap hN hf dH=>?_
  refine zN hc ?_;cbv;exact aS hc hR rfl (fun X μ a w v H hv=>jT (aSe H rfl hN hf dH hbt hv))
theorem bT.e {K:List KF}{k:Nat}{R:VF}(hm:KF.at k R∈K)(h1:∀{v:Value} {X:Nat→Prop} {w:World},R.p v X w→v.oneCell'=true):bT K (.e k) (.x R):=
 .any fun X μ w v hK hv=>by
  obtain⟨u,h2,h3⟩:=hK _ hm;have:aD μ (.e k)=some u:=by simp[aD,h2]
  rw[this]at hv;injection hv with hv;subst hv
  exact⟨h1 h3,h3⟩
theorem aKm:aB PP 118:=zK
theorem aJ1 {b b':Bool}{n m:Nat}(hbn:(aC n).length<2^39)(hbm:(aC m).length<2^39)(hb:b'=(b&&decide (n+m≠0))):vZ PP 118 [zR b n,zR b m] (.sg (zR b' (n+m))):=by
 obtain⟨R1,hR1⟩:∃R,R=aL n:=⟨_,rfl⟩;obtain⟨R2,hR2⟩:∃R,R=aL m:=⟨_,rfl⟩;obtain⟨R3,hR3⟩:∃R,R=aL (n+m):=⟨_,rfl⟩;obtain⟨F1,hF1⟩:∃F,F=oP (.sg (zR b n)):=⟨_,rfl⟩;obtain⟨F2,hF2⟩:∃F,F=oP (.sg (zR b m)):=⟨_,rfl⟩;have hmk:vZ PP 115 [.one (.b (.l b)),.one (.x R3)] (.sg (.agg [.b (.l b'),.x R3])):=by rw[hR3];exact aLv hb
 have hz1:zR b n=.agg [.b (.l b),.x R1]:=by rw[hR1];rfl
 have hz2:zR b m=.agg [.b (.l b),.x R2]:=by rw[hR2];rfl
 have hz3:zR b' (n+m)=.agg [.b (.l b'),.x R3]:=by rw[hR3];rfl
 have hp:∀{v u:Value} {X:Nat→Prop} {w:World},(∀b,X b→b<w.heap.size)→R1.p v X w→R2.p u X w→Fn PP 160 [v,u] X w R3:=fun hX h1 h2=>by
  rw[hR3];rw[hR1]at h1;rw[hR2]at h2;exact bAq hbn hbm hX h1 h2
 have h1c:∀{v:Value} {X:Nat→Prop} {w:World},R3.p v X w→v.oneCell'=true:=fun h=>by rw[hR3]at h;exact gR h
 rw[hz1]at hF1 ⊢;rw[hz2]at hF2 ⊢;rw[hz3];clear hz1 hz2 hz3 hR1 hR2 hR3 hb;refine kC mixed tok Tryz.func118 rfl (by rfl) rfl [F1,F2] ⟨hF1,hF2,trivial⟩ fun c G hG hc hR=>?_
 obtain⟨K,hK⟩:=nm (sK 0 [F1,F2]);rw[←hK];have hbb:(BE.beq (.l b) (.l b)).den=true:=by cases b<;>rfl
 refine zN hc ?_;cbv;refine aE hc rfl 100 (fun _=>?_) (fun h=>absurd (hbb.symm.trans h) (by decide));cbv;refine zN hc ?_;cbv;refine fZ (R:=R3) hc aSn (fun D X μ a w aK H aJ=>?_) 100 ?_
 ·obtain⟨v,u,rfl,e1,e2⟩:=bL aJ;exact hp H.xlt (((bT.ec (c:=.x R1) (F:=F1) (by rw[hK];exact .head _) hF1 rfl).ok H.kf e1).2) (((bT.ec (c:=.x R2) (F:=F2) (by rw[hK];exact .tail _ (.head _)) hF2 rfl).ok H.kf e2).2)
 cbv;refine pN hc oX hmk ⟨.b rfl,.e (.head _) h1c,trivial⟩ (.g [.b (.l b'),.ec 6 1]) rfl 100 (fun FB hFB=>?_);cbv;refine zE hc ?_;cbv;exact iV hc hG hR rfl ⟨.b rfl,.ec (.head _) hFB rfl,trivial⟩
theorem aJ0 {b b':Bool}{n m r:Nat}(hbn:(aC n).length<2^39)(hbm:(aC m).length<2^39)(hr:r=if m≤n then n - m else m - n)(hb:b'=((if m≤n then b else !b)&&decide (r≠0))):vZ PP 118 [zR b n,zR (!b) m] (.sg (zR b' r)):=by
 obtain⟨R1,hR1⟩:∃R,R=aL n:=⟨_,rfl⟩;obtain⟨R2,hR2⟩:∃R,R=aL m:=⟨_,rfl⟩;obtain⟨R3,hR3⟩:∃R,R=aL r:=⟨_,rfl⟩;obtain⟨nb,hnb⟩:∃x,x= !b:=⟨_,rfl⟩;rw[←hnb]at hb ⊢;obtain⟨F1,hF1⟩:∃F,F=oP (.sg (zR b n)):=⟨_,rfl⟩;obtain⟨F2,hF2⟩:∃F,F=oP (.sg (zR nb m)):=⟨_,rfl⟩;have hmk:∀x:Bool,b'=(x&&decide (r≠0))→vZ PP 115 [.one (.b (.l x)),.one (.x R3)] (.sg (.agg [.b (.l b'),.x R3])):=fun x hx=>by rw[hR3];exact aLv hx
 have hz1:zR b n=.agg [.b (.l b),.x R1]:=by rw[hR1];rfl
 have hz2:zR nb m=.agg [.b (.l nb),.x R2]:=by rw[hR2];rfl
 have hz3:zR b' r=.agg [.b (.l b'),.x R3]:=by rw[hR3];rfl
 obtain⟨z,hz⟩:=nm (bZ n m);have hge:(BE.le (.l 0) (.v z)).den=decide (m≤n):=by
  show decide ((0:Int)≤z)=_
  rw[hz];unfold bZ
  by_cases h:n<m
  ·rw[if_pos (Int.ofNat_lt.2 h)];simp;omega
  ·rw[if_neg (fun e=>h (Int.ofNat_lt.1 e))];have:m≤n:=by omega
   split<;>simp[this]
 have hcp:∀{v u:Value} {X:Nat→Prop} {w:World},(∀b,X b→b<w.heap.size)→R1.p v X w→R2.p u X w→Fn PP 76 [v,u] X w (dI (.int .i64 z)):=fun hX h1 h2=>by
  rw[hz];rw[hR1]at h1;rw[hR2]at h2;exact aMy (by omega) (by omega) hX h1 h2
 have hm1:m≤n→∀{v u:Value} {X:Nat→Prop} {w:World},(∀b,X b→b<w.heap.size)→R1.p v X w→R2.p u X w→Fn PP 161 [v,u] X w R3:=fun hle v u X w hX h1 h2=>by
  rw[hR3,hr,if_pos hle];rw[hR1]at h1;rw[hR2]at h2;exact aQr hle hbn hX h1 h2
 have hm2:¬m≤n→∀{v u:Value} {X:Nat→Prop} {w:World},(∀b,X b→b<w.heap.size)→R2.p v X w→R1.p u X w→Fn PP 161 [v,u] X w R3:=fun hle v u X w hX h1 h2=>by
  rw[hR3,hr,if_neg hle];rw[hR1]at h2;rw[hR2]at h1;exact aQr (by omega) hbm hX h1 h2
 have h1c:∀{v:Value} {X:Nat→Prop} {w:World},R3.p v X w→v.oneCell'=true:=fun h=>by rw[hR3]at h;exact gR h
 have hb1:m≤n→b'=(b&&decide (r≠0)):=fun h=>by rw[hb,if_pos h]
 have hb2:¬m≤n→b'=(nb&&decide (r≠0)):=fun h=>by rw[hb,if_neg h]
 have hbb:(BE.beq (.l b) (.l nb)).den=false:=by rw[hnb];cases b<;>rfl
 rw[hz1]at hF1 ⊢;rw[hz2]at hF2 ⊢;rw[hz3];clear hz1 hz2 hz3 hR1 hR2 hR3 hb hnb hr;refine kC mixed tok Tryz.func118 rfl (by rfl) rfl [F1,F2] ⟨hF1,hF2,trivial⟩ fun c G hG hc hR=>?_
 obtain⟨K,hK⟩:=nm (sK 0 [F1,F2]);rw[←hK];have m1:KF.at 0 F1∈K:=by rw[hK];exact .head _
 have m2:KF.at 1 F2∈K:=by rw[hK];exact .tail _ (.head _)
 refine zN hc ?_;cbv;refine aE hc rfl 100 (fun h=>absurd (hbb.symm.trans h) (by decide)) (fun _=>?_);cbv;refine zN hc ?_;cbv;refine bJ hc (.i .i64 (.v z)) (r:=.int .i64 z) wG (fun n0 D X μ a w aK H aJ=>?_) rfl 100 ?_
 ·obtain⟨v,u,rfl,e1,e2⟩:=bL aJ;exact hcp H.xlt (((bT.ec (c:=.x R1) (F:=F1) m1 hF1 rfl).ok H.kf e1).2) (((bT.ec (c:=.x R2) (F:=F2) m2 hF2 rfl).ok H.kf e2).2)
 cbv;refine aE hc rfl 100 (fun h=>?_) (fun h=>?_)
 ·have hle:=of_decide_eq_true (hge.symm.trans h)
  have hk:=hmk b (hb1 hle)
  cbv;refine zN hc ?_;cbv;refine fZ (R:=R3) hc aFo (fun D X μ a w aK H aJ=>?_) 100 ?_
  ·obtain⟨v,u,rfl,e1,e2⟩:=bL aJ;exact hm1 hle H.xlt (((bT.ec (c:=.x R1) (F:=F1) (by first | exact m1 | exact .tail _ m1) hF1 rfl).ok H.kf e1).2) (((bT.ec (c:=.x R2) (F:=F2) (by first | exact m2 | exact .tail _ m2) hF2 rfl).ok H.kf e2).2)
  cbv;refine pN hc oX hk ⟨.b rfl,.e (.head _) h1c,trivial⟩ (.g [.b (.l b'),.ec 6 1]) rfl 100 (fun FB hFB=>?_);cbv;refine zE hc ?_;cbv;exact iV hc hG hR rfl ⟨.b rfl,.ec (.head _) hFB rfl,trivial⟩
 ·have hle:=of_decide_eq_false (hge.symm.trans h)
  have hk:=hmk nb (hb2 hle)
  cbv;refine zN hc ?_;cbv;refine fZ (R:=R3) hc aFo (fun D X μ a w aK H aJ=>?_) 100 ?_
  ·obtain⟨v,u,rfl,e1,e2⟩:=bL aJ;exact hm2 hle H.xlt (((bT.ec (c:=.x R2) (F:=F2) (by first | exact m2 | exact .tail _ m2) hF2 rfl).ok H.kf e1).2) (((bT.ec (c:=.x R1) (F:=F1) (by first | exact m1 | exact .tail _ m1) hF1 rfl).ok H.kf e2).2)
  cbv;refine pN hc oX hk ⟨.b rfl,.e (.head _) h1c,trivial⟩ (.g [.b (.l b'),.ec 6 1]) rfl 100 (fun FB hFB=>?_);cbv;refine zE hc ?_;cbv;exact iV hc hG hR rfl ⟨.b rfl,.ec (.head _) hFB rfl,trivial⟩
end Go.Ai
namespace Go.Ai
open Go Go.Proofs Go.Num
theorem aVk {x y:Int}(hx:(aC x.natAbs).length<2^39)(hy:(aC y.natAbs).length<2^39):vZ PP 118 [zIt x,zIt y] (.sg (zIt (x+y))):=by
 by_cases h:decide (x<0)=decide (y<0)
 ·have h1:x.natAbs+y.natAbs=(x+y).natAbs:=by
   have:=decide_eq_decide.1 h
   omega
  have h2:decide (x+y<0)=(decide (x<0)&&decide (x.natAbs+y.natAbs≠0)):=by
   have:=decide_eq_decide.1 h
   rw[Bool.eq_iff_iff,Bool.and_eq_true,decide_eq_true_eq,decide_eq_true_eq,decide_eq_true_eq];omega
  have:=aJ1 (b:=decide (x<0)) hx hy h2
  unfold zIt;rw[←h1];rw[h]at this ⊢;exact this
 ·have hn:decide (y<0)= !decide (x<0):=by
   revert h
   cases decide (x<0)<;>cases decide (y<0)<;>simp
  have h1:(x+y).natAbs=if y.natAbs≤x.natAbs then x.natAbs - y.natAbs else y.natAbs - x.natAbs:=by
   have:¬(x<0↔y<0):=fun e=>h (decide_eq_decide.2 e)
   split<;>omega
  have h2:decide (x+y<0)=((if y.natAbs≤x.natAbs then decide (x<0)else !decide (x<0))&&decide ((x+y).natAbs≠0)):=by
   have:¬(x<0↔y<0):=fun e=>h (decide_eq_decide.2 e)
   by_cases hle:y.natAbs≤x.natAbs
   ·rw[if_pos hle,Bool.eq_iff_iff,Bool.and_eq_true,decide_eq_true_eq,decide_eq_true_eq,decide_eq_true_eq];omega
   ·rw[if_neg hle,Bool.eq_iff_iff,Bool.and_eq_true,Bool.not_eq_true',decide_eq_true_eq,decide_eq_false_iff_not,decide_eq_true_eq];omega
  have:=aJ0 (b:=decide (x<0)) hx hy h1 h2
  unfold zIt;rw[hn];exact this
theorem bA6 {b:UInt8}:(b.toNat:Int)=47↔b=47:=by
 constructor
 ·intro h;apply UInt8.toNat_inj.1;show b.toNat=47
  omega
 ·intro h;subst h;rfl
def jB (l:List UInt8)(k:Nat):Prop:=dR l=(l.take k++(dR (l.drop k)).1,(dR (l.drop k)).2)
theorem jB.zero (l:List UInt8):jB l 0:=by simp[jB]
theorem jB.step {l:List UInt8}{k:Nat}(h:jB l k)(hk:k<l.length)(hb:l.getD k 0≠47):jB l (k+1):=by
 have hg:l.getD k 0=l[k]:=by simp[hk]
 rw[hg]at hb;unfold jB at h ⊢;rw[h,List.drop_eq_getElem_cons hk,List.take_succ_eq_append_getElem hk]
 conv=>lhs;unfold dR
 rw[if_neg hb,List.append_assoc]
 rfl
theorem jB.found {l:List UInt8}{k:Nat}(h:jB l k)(hk:k<l.length)(hb:l.getD k 0=47):dR l=(l.take k,some (l.drop (k+1))):=by
 have hg:l.getD k 0=l[k]:=by simp[hk]
 rw[hg]at hb;unfold jB at h;rw[h,List.drop_eq_getElem_cons hk]
 conv=>lhs;unfold dR
 rw[if_pos hb];simp
theorem jB.none {l:List UInt8}(h:jB l l.length):dR l=(l,Option.none):=by
 unfold jB at h;rw[h];simp[dR]
theorem aHt {s:ByteArray}{l:List UInt8}(hl:l=s.data.toList){i j:IE}{a b:Nat}(hi':i.den=(a:Int))(hj:j.den=(b:Int)):((SE.v s).sub i j).den.data.toList=(l.take b).drop a:=by
 show(s.extract i.den.toNat j.den.toNat).data.toList=_
 rw[hi',hj,Int.toNat_natCast,Int.toNat_natCast,ByteArray.data_extract,Array.toList_extract,List.extract_eq_take_drop,←hl,List.drop_take]
theorem bA2 {s:ByteArray}{n k k':Nat}(hss:s.size=n)(hn:n≤2^60)(h:k<n)(hk':k'=k+1):
  (Obl.ltE (.n k) (.len (.v s))).ok∧(Obl.inR .i64 (.add (.n k) (.l 1))).ok∧(Obl.slc (.l 0) (.n k) (.v s)).ok∧(Obl.slc (.add (.n k) (.l 1)) (.len (.v s)) (.v s)).ok∧((IE.n k).add (IE.l 1)).den=(IE.n k').den∧k'≤n∧n - k'<n - k:=by
 have hsz:(IE.len (.v s)).den=(n:Int):=by show((s.size:Nat):Int)=_;rw[hss]
 refine⟨?_,?_,⟨by decide,?_,?_⟩,⟨?_,?_,?_⟩,?_,by omega,by omega⟩
 ·show _∧_;rw[hsz];simp only[IE.den];omega
 ·show lo _≤_∧_≤hi _;simp only[lo,hi,IE.den];omega
 ·simp only[IE.den];omega
 ·show(k:Int)≤((s.size:Nat):Int);omega
 ·simp only[IE.den];omega
 ·rw[hsz];simp only[IE.den];omega
 ·exact Int.le_refl _
 ·simp only[IE.den,hk'];omega
theorem aOp:aB PP 70:=zK
theorem aXs (s:ByteArray)(hs:s.size≤2^60):Pure PP 70 [.string s] (.tuple #[.string ⟨(dR s.data.toList).1.toArray⟩,.string ⟨((dR s.data.toList).2.getD [49]).toArray⟩,.bool (dR s.data.toList).2.isSome]):=by
 obtain⟨l,hl⟩:=nm (s.data.toList);rw[←hl];obtain⟨A,hA⟩:∃A:ByteArray,A=⟨(dR l).1.toArray⟩:=⟨_,rfl⟩;obtain⟨B,hB⟩:∃A:ByteArray,A=⟨((dR l).2.getD [49]).toArray⟩:=⟨_,rfl⟩;obtain⟨C,hC⟩:∃b,b=(dR l).2.isSome:=⟨_,rfl⟩;rw[←hA,←hB,←hC];have hlen:l.length=s.size:=by rw[hl];rfl
 obtain⟨n,hn⟩:=nm (l.length);have hsz:(IE.len (.v s)).den=(n:Int):=by show((s.size:Nat):Int)=_;rw[hn,hlen]
 have aWw:∀{k k':Nat},jB l k→k<l.length→l.getD k 0=47→k'=k+1→((SE.v s).sub (.l 0) (.n k)).den=A∧((SE.v s).sub (.add (.n k) (.l 1)) (.len (.v s))).den=B∧true=C:=fun {k k'} h hk hb hk'=>by
  have h1:=h.found hk hb
  refine⟨ba_eq ?_,ba_eq ?_,?_⟩
  ·rw[aHt hl (a:=0) (b:=k) rfl rfl,hA,h1];simp
  ·rw[aHt hl (a:=k+1) (b:=n) (by simp[IE.den]) hsz,hB,h1,hn];simp
  ·rw[hC,h1];rfl
 have aZ4:jB l l.length→s=A∧(⟨#[49]⟩:ByteArray)=B∧false=C:=fun h=>by
  have h1:=h.none
  refine⟨ba_eq ?_,?_,?_⟩
  ·rw[hA,h1,←hl]
  ·rw[hB,h1];rfl
  ·rw[hC,h1];rfl
 clear hA hB hC;have hss:s.size=n:=by omega
 have hnb:n≤2^60:=by omega
 refine aH mixed tok [.s (.v s)] Tryz.func70 rfl rfl (lbl rfl) rfl fun c hc hR=>?_
 refine zN hc ?_;cbv;let ι:={k:Nat//k≤n∧jB l k}
 let I:ι→St:=fun x=>⟨[(0,.s (.v s)),(5,.i .i64 (.n x.1))],[],[]⟩
 let x0:ι:=⟨0,Nat.zero_le _,jB.zero l⟩
 refine zU 0 (S':=I x0) (K':=[]) ⟨zS rfl rfl,zS rfl rfl,trivial⟩ trivial trivial ?_;refine bQ hc I (fun x=>n - x.1) x0 100 ?_;rintro p ⟨k,hk,cK⟩ hy;have tJ:(BE.lt (.n k) (.len (.v s))).den=decide (k<n):=by
  show decide ((k:Int)<(IE.len (.v s)).den)=_
  rw[hsz];exact decide_eq_decide.2 ⟨fun h=>Int.ofNat_lt.1 h,fun h=>Int.ofNat_lt.2 h⟩
 cbv;refine aE hc rfl 100 (fun h=>?_) (fun h=>?_)
 ·have hkn:k<n:=of_decide_eq_true (tJ.symm.trans h)
  obtain⟨k',hk'⟩:=nm (k+1);have hkl:k<l.length:=Nat.lt_of_lt_of_eq hkn hn
  obtain⟨o2,o3,o4,o5,hi1,aP0,hms⟩:=bA2 (s:=s) hss hnb hkn hk';have e47:(BE.eq (.byte (.v s) (.n k)) (.l 47)).den=decide (l.getD k 0=47):=by
   simp only[BE.den];exact decide_eq_decide.2 (by rw[jC (k:=k) (by simp[IE.den]),←hl];exact bA6)
  have hst:l.getD k 0≠47→jB l k':=fun h=>by rw[hk'];exact cK.step hkl h
  cbv;refine zO hc ?_;refine aE hc rfl 100 (fun h2=>?_) (fun h2=>?_)
  ·have h2:=of_decide_eq_true (e47.symm.trans h2)
   obtain⟨a1,a2,a3⟩:=aWw cK hkl h2 hk';clear hy;subst a3;cbv;refine zO hc ?_;refine bX hc _ rfl rfl rfl rfl rfl 0 ?_;cbv;refine bX hc _ rfl rfl rfl rfl rfl 0 ?_;cbv;refine bX hc _ rfl rfl rfl rfl rfl 0 ?_;cbv;refine zE hc ?_;cbv;exact aF hc hR (av:=.t [.s (.sub (.v s) (.l 0) (.n k)),.s (.sub (.v s) (.add (.n k) (.l 1)) (.len (.v s))),.b (.l true)]) rfl (by rw[←a1,←a2];rfl)
  ·have h2:=of_decide_eq_false (e47.symm.trans h2)
   have hd:=hst h2
   cbv;refine zO hc ?_;exact zU 0 (S':=I ⟨k',aP0,hd⟩) (K':=[]) ⟨zS rfl rfl,zI rfl rfl hi1,trivial⟩ trivial trivial (hy _ hms)
 ·have hkn:¬k<n:=of_decide_eq_false (tJ.symm.trans h)
  have hkl:k=l.length:=(Nat.le_antisymm hk (Nat.le_of_not_lt hkn)).trans hn
  have hd:jB l l.length:=by rw[←hkl];exact cK
  obtain⟨a1,a2,a3⟩:=aZ4 hd;clear hy;subst a1;subst a2;subst a3;cbv;exact aF hc hR (av:=.t [.s (.v s),.s (.v ⟨#[49]⟩),.b (.l false)]) rfl rfl
theorem wH:aB PP 77:=zK
theorem rQ:aB PP 119:=zK
def aDt:Prop:=∀{v u:Value} {X:Nat→Prop} {w:World} {n m:Nat},0<m→(aC n).length≤2^38→(aC m).length≤2^38→(∀b,X b→b<w.heap.size)→(aL n).p v X w→(aL m).p u X w→Fn PP 119 [v,u] X w (iE (aL (n/m)) (aL (n%m)))
theorem aRw {n:Nat}(h:(aC n).length≤2):n<18446744073709551616:=Nat.lt_of_lt_of_le (aT h) (by decide)
theorem aLj {l:List Int}{N:Nat}(hN:N=l.length)(h:(BE.le (.n N) (.l 2)).den=true):l.length≤2:=by
 have h:=BE.le_t h;simp only[IE.den]at h;omega
theorem aEu (xP:aDt){v u:Value}{X:Nat→Prop}{w:World}{n m:Nat}(hbn:(aC n).length≤2^38)(hbm:(aC m).length≤2^38)(hX:∀b,X b→b<w.heap.size)(hv:(aL n).p v X w)(hu:(aL m).p u X w):
  Fn PP 77 [v,u] X w (aL (Nat.gcd n m)):=by
 obtain⟨g,hg⟩:=nm (Nat.gcd n m);rw[←hg];obtain⟨R,hRR⟩:=nm (aL g);obtain⟨F,hF⟩:∃F:Value→Nat→KF,∀v n,F v n=KF.cst v (aL n):=⟨fun v n=>KF.cst v (aL n),fun _ _=>rfl⟩;rw[←hRR];refine bE mixed tok [.q v,.q u] (K:=[F v n,F u m]) Tryz.func77 rfl rfl (lbl rfl) rfl hX (by simp[hF];exact⟨hv,hu⟩) fun c hc hR=>?_
 refine zN hc ?_;cbv;let ι:={x:GcdX//Nat.gcd x.n x.m=g∧(aC x.n).length≤2^38∧(aC x.m).length≤2^38}
 let I:ι→St:=fun x=>⟨[(0,.q x.1.v),(1,.q x.1.u)],[],[]⟩
 let KK:ι→List KF:=fun x=>[F x.1.v x.1.n,F x.1.u x.1.m]
 let x0:ι:=⟨⟨v,u,n,m⟩,hg.symm,hbn,hbm⟩
 refine zU 0 (S':=I x0) (K':=KK x0) ⟨zS rfl rfl,zS rfl rfl,trivial⟩ ⟨⟨.head _,by rw[hF];exact KFr.cst _ _ _⟩,⟨.tail _ (.head _),by rw[hF];exact KFr.cst _ _ _⟩,trivial⟩ trivial ?_;refine aLp hc I KK (fun x=>x.1.m) x0 ?_;rintro p ⟨⟨v,u,n,m⟩,hg,hbn,hbm⟩ hy;simp only at hg hbn hbm;obtain⟨K,hK⟩:=nm ([F v n,F u m]);have k1:KF.cst v (aL n)∈K:=by rw[hK,←hF];exact .head _
 have k2:KF.cst u (aL m)∈K:=by rw[hK,←hF];exact .tail _ (.head _)
 have kf:∀q,jY q K K:=fun q=>by rw[hK];exact⟨⟨.head _,by rw[hF];exact KFr.cst _ _ _⟩,⟨.tail _ (.head _),by rw[hF];exact KFr.cst _ _ _⟩,trivial⟩
 refine Goal.k hK ?_;refine cW 0 .u32 (aC n) rfl rfl (fun X μ a w v' H hv'=>cA H k1 hv') fun f N cap hN hf dH=>?_
 refine cW 1 .u32 (aC m) rfl rfl (fun X μ a w v' H hv'=>cA H k2 hv') fun f' M aU hM hf' fW=>?_
 refine zN hc ?_;cbv;refine aE hc rfl 100 (fun h=>?_) (fun h=>?_)
 ·have hM0:0<M:=BE.ltn_t (i:=0) h
  have hm0:0<m:=Nat.pos_of_ne_zero fun e=>by rw[e,bS]at hM;simp at hM;omega
  cbv;refine bU hc 15 rfl rfl 100 (fun h1=>?_) (fun h1=>?_)
  ·have hn2:=aLj hN h1
   cbv;refine aE hc rfl 100 (fun h2=>?_) (fun h2=>?_)
   ·have hm2:=aLj hM h2
    have aP8:=aRw hn2
    have aMq:=aRw hm2
    have bB9:g<18446744073709551616:=Nat.lt_of_le_of_lt (by rw[←hg];exact Nat.gcd_le_right n hm0) aMq
    cbv;refine bJ hc (.i .u64 (.n n)) (r:=.int .u64 n) aKg (fun n0 D X μ a w aK H aJ=>?_) rfl 100 ?_
    ·obtain⟨v1,rfl,h1⟩:=aV aJ;exact aU4 hn2 H.xlt (H.numRow rfl h1 hN hf dH)
    cbv;refine bJ hc (.i .u64 (.n m)) (r:=.int .u64 m) aKg (fun n0 D X μ a w aK H aJ=>?_) rfl 100 ?_
    ·obtain⟨v1,rfl,h1⟩:=aV aJ;exact aU4 hm2 H.xlt (H.numRow rfl h1 hM hf' fW)
    cbv;let ιs:={x:Nat × Nat//Nat.gcd x.1 x.2=g∧x.1<18446744073709551616∧x.2<18446744073709551616}
    let Is:ιs→St:=fun x=>⟨[(5,.i .u64 (.n x.1.1)),(6,.i .u64 (.n x.1.2))],[],[]⟩
    let xz:ιs:=⟨(n,m),hg,aP8,aMq⟩
    refine zU 0 (S':=Is xz) (K':=[]) ⟨zS rfl rfl,zS rfl rfl,trivial⟩ trivial trivial ?_;refine aA8 (fun z:Nat=>z=g) (fun z=>⟨[(5,.i .u64 (.n z))],[],[]⟩) rfl (fun r hr=>?_) (fun z hz=>?_)
    ·refine bQ hc Is (fun x=>x.1.2) xz 100 ?_;rintro p' ⟨⟨x,y⟩,hgx,aXe,aI0⟩ hyg;simp only at hgx aXe aI0;cbv;refine aE hc rfl 100 (fun h=>?_) (fun h=>?_)
     ·have hy0:0<y:=Nat.pos_of_ne_zero (BE.eqnl_f (k:=0) (BE.not_t h))
      have o1:(Obl.nz (IE.n y)).ok:=bAp hy0
      have e1:=aU7 x y
      cbv;refine aQ hc ⟨o1,trivial⟩ ?_;refine bX hc _ rfl rfl rfl rfl rfl 0 ?_;refine bX hc _ rfl rfl rfl rfl rfl 0 ?_;refine zE hc ?_;cbv;exact zU 0 (S':=Is ⟨(y,x%y),(jL hy0).trans hgx,aI0,Nat.lt_trans (Nat.mod_lt _ hy0) aI0⟩) (K':=[]) ⟨zS rfl rfl,zI rfl rfl e1,trivial⟩ trivial trivial (hyg _ (Nat.mod_lt _ hy0))
     ·have hy0:y=0:=BE.eqnl_t (k:=0) (BE.not_f h)
      have hxg:x=g:=by rw[←hgx,hy0,Nat.gcd_zero_right]
      cbv;exact zU 0 (S':=⟨[(5,.i .u64 (.n x))],[],[]⟩) (K':=[]) ⟨zS rfl rfl,trivial⟩ trivial trivial (hr x hxg)
    ·subst hz;refine zN hc ?_;cbv;refine dZ hc (R:=R) aSo (fun n0 D X μ a w aK H aJ=>?_) 100 ?_
     ·obtain⟨v1,rfl,h1⟩:=aV aJ;rw[cC h1,hRR];exact bAr H.xlt (Int.natCast_nonneg _) (Int.ofNat_lt.2 bB9)
     cbv;refine aS hc hR rfl (fun X μ a w v' H hv'=>?_);exact H.toP.val (.head _) hv'
   ·cbv;obtain⟨R1,hR1⟩:∃R,R=aL (n/m):=⟨_,rfl⟩;obtain⟨R2,hR2⟩:∃R,R=aL (n%m):=⟨_,rfl⟩;obtain⟨RP,hRP⟩:∃R,R=iE R1 R2:=⟨_,rfl⟩;refine dZ hc (R:=RP) rQ (fun n0 D X μ a w aK H aJ=>?_) 2 ?_
    ·obtain⟨v1,v2,rfl,h1,h2⟩:=bL aJ;rw[hRP,hR1,hR2];exact xP hm0 hbn hbm H.xlt (H.numRow rfl h1 hN hf dH) (H.numRow rfl h2 hM hf' fW)
    cbv;refine lB 32 2 (R1:=R1) (R2:=R2) rfl rfl (hRP▸.head _) ?_;refine zN hc ?_;cbv;refine wZ 0 (aL m) rfl rfl (fun X μ a w v' H hv'=>H.toP.numRow rfl hv' hM hf' fW) fun v1=>?_
    refine wZ 1 (aL (n%m)) rfl rfl (fun X μ a w v' H hv'=>by have h:=H.toP.val (R:=R2) (.tail _ (.tail _ (.head _))) hv';rw[hR2]at h;exact h) fun u1=>?_
    exact zU 0 (S':=I ⟨⟨v1,u1,m,n%m⟩,(jL hm0).trans hg,hbm,lTr (bV (Nat.le_of_lt (Nat.mod_lt n hm0))) hbm⟩) (K':=KK ⟨⟨v1,u1,m,n%m⟩,(jL hm0).trans hg,hbm,lTr (bV (Nat.le_of_lt (Nat.mod_lt n hm0))) hbm⟩) ⟨zS rfl rfl,zS rfl rfl,trivial⟩ ⟨⟨by rw[hF];exact .tail _ (.head _),by rw[hF];exact KFr.cst _ _ _⟩,⟨by rw[hF];exact .head _,by rw[hF];exact KFr.cst _ _ _⟩,trivial⟩ trivial (hy _ (Nat.mod_lt n hm0))
  ·cbv;obtain⟨R1,hR1⟩:∃R,R=aL (n/m):=⟨_,rfl⟩;obtain⟨R2,hR2⟩:∃R,R=aL (n%m):=⟨_,rfl⟩;obtain⟨RP,hRP⟩:∃R,R=iE R1 R2:=⟨_,rfl⟩;refine dZ hc (R:=RP) rQ (fun n0 D X μ a w aK H aJ=>?_) 2 ?_
   ·obtain⟨v1,v2,rfl,h1,h2⟩:=bL aJ;rw[hRP,hR1,hR2];exact xP hm0 hbn hbm H.xlt (H.numRow rfl h1 hN hf dH) (H.numRow rfl h2 hM hf' fW)
   cbv;refine lB 32 2 (R1:=R1) (R2:=R2) rfl rfl (hRP▸.head _) ?_;refine zN hc ?_;cbv;refine wZ 0 (aL m) rfl rfl (fun X μ a w v' H hv'=>H.toP.numRow rfl hv' hM hf' fW) fun v1=>?_
   refine wZ 1 (aL (n%m)) rfl rfl (fun X μ a w v' H hv'=>by have h:=H.toP.val (R:=R2) (.tail _ (.tail _ (.head _))) hv';rw[hR2]at h;exact h) fun u1=>?_
   exact zU 0 (S':=I ⟨⟨v1,u1,m,n%m⟩,(jL hm0).trans hg,hbm,lTr (bV (Nat.le_of_lt (Nat.mod_lt n hm0))) hbm⟩) (K':=KK ⟨⟨v1,u1,m,n%m⟩,(jL hm0).trans hg,hbm,lTr (bV (Nat.le_of_lt (Nat.mod_lt n hm0))) hbm⟩) ⟨zS rfl rfl,zS rfl rfl,trivial⟩ ⟨⟨by rw[hF];exact .tail _ (.head _),by rw[hF];exact KFr.cst _ _ _⟩,⟨by rw[hF];exact .head _,by rw[hF];exact KFr.cst _ _ _⟩,trivial⟩ trivial (hy _ (Nat.mod_lt n hm0))
 ·have hM0:M=0:=Nat.le_zero.1 (BE.ltn_f (i:=0) h)
  cbv;refine aS hc hR rfl (fun X μ a w v' H hv'=>?_);have hm0:m=0:=rU (by rw[←hM,hM0])
  rw[hRR,←hg,hm0,Nat.gcd_zero_right];exact H.toP.numRow rfl hv' hN hf dH
def qR (b:Bool)(n d:Nat):RV1:=.agg [.b (.l b),.x (aL n),.x (aL d)]
theorem aCh:aB PP 62:=zK
theorem aG5 (xP:aDt){b:Bool}{n d:Nat}(hbn:(aC n).length≤2^38)(hbd:(aC d).length≤2^38)(hg:Nat.gcd n d=1):vZ PP 62 [zR b n,.one (.x (aL d))] (.sg (qR b n d)):=by
 obtain⟨R1,hR1⟩:∃R,R=aL n:=⟨_,rfl⟩;obtain⟨R2,hR2⟩:∃R,R=aL d:=⟨_,rfl⟩;obtain⟨RG,hRG⟩:∃R,R=aL 1:=⟨_,rfl⟩;obtain⟨F1,hF1⟩:∃F,F=oP (.sg (zR b n)):=⟨_,rfl⟩;obtain⟨F2,hF2⟩:∃F,F=oP (.sg (.one (.x (aL d)))):=⟨_,rfl⟩;have hz1:zR b n=.agg [.b (.l b),.x R1]:=by rw[hR1];rfl
 have hz3:qR b n d=.agg [.b (.l b),.x R1,.x R2]:=by rw[hR1,hR2];rfl
 have hcm:∀{v u:Value} {X:Nat→Prop} {w:World},(∀b,X b→b<w.heap.size)→R1.p v X w→R2.p u X w→Fn PP 77 [v,u] X w RG:=fun hX h1 h2=>by
  rw[hRG,←hg];rw[hR1]at h1;rw[hR2]at h2;exact aEu xP hbn hbd hX h1 h2
 rw[hz1]at hF1 ⊢;rw[←hR2]at hF2 ⊢;rw[hz3];clear hz1 hz3 hR1 hR2;refine kC mixed tok Tryz.func62 rfl (by rfl) rfl [F1,F2] ⟨hF1,hF2,trivial⟩ fun c G hG hc hR=>?_
 obtain⟨K,hK⟩:=nm (sK 0 [F1,F2]);rw[←hK];have m1:KF.at 0 F1∈K:=by rw[hK];exact .head _
 have m2:KF.at 1 F2∈K:=by rw[hK];exact .tail _ (.head _)
 refine zN hc ?_;cbv;refine dZ (R:=RG) hc wH (fun n0 D X μ a w aK H aJ=>?_) 1 ?_
 ·obtain⟨v,u,rfl,e1,e2⟩:=bL aJ;exact hcm H.xlt (((bT.ec (c:=.x R1) (F:=F1) m1 hF1 rfl).ok H.kf e1).2) (((bT.ec (c:=.x R2) (F:=F2) m2 hF2 rfl).ok H.kf e2).2)
 cbv;refine cW 5 .u32 (aC 1) rfl rfl (fun X μ a w v' H hv'=>by have h:=H.toP.val (R:=RG) (.head _) hv';rw[hRG]at h;exact h) fun f N cap hN hf dH=>?_
 have hd1:aC 1=[1]:=by rw[bY (by decide)];simp[bS]
 have hN1:N=1:=by rw[hN,hd1];rfl
 have hf0:f 0=1:=hf 0 1 (by rw[hd1];rfl)
 have e1:(BE.eq (.n N) (.l 1)).den=true:=by rw[hN1];rfl
 have o1:(Obl.ltE (.l 0) (.n N)).ok:=by rw[hN1];show _∧_;simp only[IE.den];omega
 have o2:(Obl.ix 0 (.l 0) 0 0 1 N).ok:=by show aX 0 (IE.l 0).den 0 0+1≤N;rw[hN1];decide
 refine zN hc ?_;cbv;refine bU hc 17 rfl rfl 100 (fun _=>?_) (fun h=>absurd (e1.symm.trans h) (by decide));cbv;have e0:(BE.eq (.fn f 0 (.l 0) 0 0) (.l 1)).den=true:=by
  show decide (f 0=1)=true
  rw[hf0];rfl
 refine aQ hc ⟨o1,o2,trivial⟩ ?_;refine aE hc rfl 100 (fun _=>?_) (fun h=>absurd (e0.symm.trans h) (by decide))
 ·cbv;refine iV hc hG hR rfl ⟨.b rfl,.ec (by repeat (first | exact m1 | apply List.Mem.tail)) hF1 rfl,.ec (by repeat (first | exact m2 | apply List.Mem.tail)) hF2 rfl,trivial⟩
theorem aEy (xP:aDt){b b':Bool}{n d g:Nat}(hbn:(aC n).length≤2^38)(hbd:(aC d).length≤2^38)(hg:Nat.gcd n d=g)(h1:1<g)(hlg:(aC g).length≤2^38)(hb:b'=(b&&decide (n/g≠0))):vZ PP 62 [zR b n,.one (.x (aL d))] (.sg (qR b' (n/g) (d/g))):=by
 obtain⟨R1,hR1⟩:∃R,R=aL n:=⟨_,rfl⟩;obtain⟨R2,hR2⟩:∃R,R=aL d:=⟨_,rfl⟩;obtain⟨RG,hRG⟩:∃R,R=aL g:=⟨_,rfl⟩;obtain⟨F1,hF1⟩:∃F,F=oP (.sg (zR b n)):=⟨_,rfl⟩;obtain⟨F2,hF2⟩:∃F,F=oP (.sg (.one (.x (aL d)))):=⟨_,rfl⟩;obtain⟨R3,hR3⟩:∃R,R=aL (n/g):=⟨_,rfl⟩;obtain⟨R4,hR4⟩:∃R,R=aL (d/g):=⟨_,rfl⟩;obtain⟨R5,hR5⟩:∃R,R=aL (n%g):=⟨_,rfl⟩;obtain⟨R6,hR6⟩:∃R,R=aL (d%g):=⟨_,rfl⟩;have hz1:zR b n=.agg [.b (.l b),.x R1]:=by rw[hR1];rfl
 have hz3:qR b' (n/g) (d/g)=.agg [.b (.l b'),.x R3,.x R4]:=by rw[hR3,hR4];rfl
 have hcm:∀{v u:Value} {X:Nat→Prop} {w:World},(∀b,X b→b<w.heap.size)→R1.p v X w→R2.p u X w→Fn PP 77 [v,u] X w RG:=fun hX h1 h2=>by
  rw[hRG,←hg];rw[hR1]at h1;rw[hR2]at h2;exact aEu xP hbn hbd hX h1 h2
 have aZ6:∀{v u:Value} {X:Nat→Prop} {w:World},(∀b,X b→b<w.heap.size)→R1.p v X w→(aL g).p u X w→Fn PP 119 [v,u] X w (iE R3 R5):=fun hX h1' h2=>by
  rw[hR3,hR5];rw[hR1]at h1';exact xP (by omega) hbn hlg hX h1' h2
 have aZ7:∀{v u:Value} {X:Nat→Prop} {w:World},(∀b,X b→b<w.heap.size)→R2.p v X w→(aL g).p u X w→Fn PP 119 [v,u] X w (iE R4 R6):=fun hX h1' h2=>by
  rw[hR4,hR6];rw[hR2]at h1';exact xP (by omega) hbd hlg hX h1' h2
 have h3c:∀{v:Value} {X:Nat→Prop} {w:World},R3.p v X w→v.oneCell'=true:=fun h=>by rw[hR3]at h;exact gR h
 have h4c:∀{v:Value} {X:Nat→Prop} {w:World},R4.p v X w→v.oneCell'=true:=fun h=>by rw[hR4]at h;exact gR h
 have hmk:vZ PP 115 [.one (.b (.l b)),.one (.x R3)] (.sg (.agg [.b (.l b'),.x R3])):=by rw[hR3];exact aLv hb
 rw[hz1]at hF1 ⊢;rw[←hR2]at hF2 ⊢;rw[hz3];clear hz1 hz3 hR1 hR2 hR3 hR5 hR6;refine kC mixed tok Tryz.func62 rfl (by rfl) rfl [F1,F2] ⟨hF1,hF2,trivial⟩ fun c G hG hc hR=>?_
 obtain⟨K,hK⟩:=nm (sK 0 [F1,F2]);rw[←hK];have m1:KF.at 0 F1∈K:=by rw[hK];exact .head _
 have m2:KF.at 1 F2∈K:=by rw[hK];exact .tail _ (.head _)
 refine zN hc ?_;cbv;refine dZ (R:=RG) hc wH (fun n0 D X μ a w aK H aJ=>?_) 1 ?_
 ·obtain⟨v,u,rfl,e1,e2⟩:=bL aJ;exact hcm H.xlt (((bT.ec (c:=.x R1) (F:=F1) m1 hF1 rfl).ok H.kf e1).2) (((bT.ec (c:=.x R2) (F:=F2) m2 hF2 rfl).ok H.kf e2).2)
 cbv;refine cW 5 .u32 (aC g) rfl rfl (fun X μ a w v' H hv'=>by have h:=H.toP.val (R:=RG) (.head _) hv';rw[hRG]at h;exact h) fun f N cap hN hf dH=>?_
 obtain⟨RP1,aTf⟩:∃R,R=iE R3 R5:=⟨_,rfl⟩;obtain⟨RP2,aTg⟩:∃R,R=iE R4 R6:=⟨_,rfl⟩;have hN0:0<N:=by rw[hN,bY (by omega)];simp
 have o1:(Obl.ltE (.l 0) (.n N)).ok:=by
  refine⟨by decide,?_⟩;show(0:Int)<(N:Int)
  exact Int.ofNat_lt.2 hN0
 have o2:(Obl.ix 0 (.l 0) 0 0 1 N).ok:=by
  show aX 0 (IE.l 0).den 0 0+1≤N
  rw[show aX 0 (IE.l 0).den 0 0=0 from by decide];exact hN0
 have hne:(BE.eq (.n N) (.l 1)).den=true→(BE.eq (.fn f 0 (.l 0) 0 0) (.l 1)).den=true→False:=fun h1' h2'=>by
  have hN1:N=1:=BE.eqnl_t h1'
  have h2':f 0=1:=of_decide_eq_true (show decide (f 0=1)=true from h2')
  have h3:=aCr (n:=g) (by rw[←hN,hN1];decide)
  have h4:=hf 0 _ h3
  have h5:g<1000000000^1:=aT (by rw[←hN,hN1];exact lRf _)
  rw[h4]at h2';have h6:g%1000000000=1:=by omega
  rw[Nat.mod_eq_of_lt (by omega)]at h6;omega
 refine zN hc ?_;cbv;refine bU hc 17 rfl rfl 100 (fun ha=>?_) (fun ha=>?_)
 ·cbv;refine aQ hc ⟨o1,o2,trivial⟩ ?_;refine aE hc rfl 100 (fun h=>(hne ha h).elim) (fun _=>?_);cbv;refine dZ (R:=RP1) hc rQ (fun n0 D X μ a w aK H aJ=>?_) 2 ?_
  ·obtain⟨v,u,rfl,e1,e2⟩:=bL aJ;rw[aTf];exact aZ6 H.xlt (((bT.ec (c:=.x R1) (F:=F1) (by repeat (first | exact m1 | apply List.Mem.tail)) hF1 rfl).ok H.kf e1).2) (H.numRow rfl e2 hN hf dH)
  cbv;refine lB 26 6 (R1:=R3) (R2:=R5) rfl rfl (aTf▸.head _) ?_;refine zN hc ?_;cbv;refine dZ (R:=RP2) hc rQ (fun n0 D X μ a w aK H aJ=>?_) 2 ?_
  ·obtain⟨v,u,rfl,e1,e2⟩:=bL aJ;rw[aTg];exact aZ7 H.xlt (((bT.ec (c:=.x R2) (F:=F2) (by repeat (first | exact m2 | apply List.Mem.tail)) hF2 rfl).ok H.kf e1).2) (H.numRow rfl e2 hN hf dH)
  cbv;refine lB 33 9 (R1:=R4) (R2:=R6) rfl rfl (aTg▸.head _) ?_;refine zN hc ?_;cbv;refine jW hc oX hmk ⟨.b rfl,.e (by repeat (first | exact .head _ | apply List.Mem.tail)) h3c,trivial⟩ (.g [.b (.l b'),.ec 12 1]) rfl 100 (fun FB hFB=>?_);cbv;refine cW 43 .u32 (aC (d/g)) rfl rfl (fun X μ a w v' H hv'=>by have h:=H.toP.val (R:=R4) (by repeat (first | exact .head _ | apply List.Mem.tail)) hv';rw[hR4]at h;exact h) fun f2 N2 pZ hN2 hf2 aPs=>?_
  refine zN hc ?_;cbv;exact aS hc hR rfl (fun X μ a w v H hv=>by
   obtain⟨vs,q1,rfl⟩:=tD hv;obtain⟨v1,v2,v3,rfl,e1,e2,e3⟩:=dV q1;have h3:=H.toP.numRow rfl e3 hN2 hf2 aPs
   rw[hG];exact⟨[v1,v2,v3],rfl,fN e1,(bT.ec (c:=.x R3) (.head _) hFB rfl).ok H.toP.kf e2,⟨gR h3,by rw[hR4];exact h3⟩,trivial⟩)
 ·cbv;refine dZ (R:=RP1) hc rQ (fun n0 D X μ a w aK H aJ=>?_) 2 ?_
  ·obtain⟨v,u,rfl,e1,e2⟩:=bL aJ;rw[aTf];exact aZ6 H.xlt (((bT.ec (c:=.x R1) (F:=F1) (by repeat (first | exact m1 | apply List.Mem.tail)) hF1 rfl).ok H.kf e1).2) (H.numRow rfl e2 hN hf dH)
  cbv;refine lB 26 6 (R1:=R3) (R2:=R5) rfl rfl (aTf▸.head _) ?_;refine zN hc ?_;cbv;refine dZ (R:=RP2) hc rQ (fun n0 D X μ a w aK H aJ=>?_) 2 ?_
  ·obtain⟨v,u,rfl,e1,e2⟩:=bL aJ;rw[aTg];exact aZ7 H.xlt (((bT.ec (c:=.x R2) (F:=F2) (by repeat (first | exact m2 | apply List.Mem.tail)) hF2 rfl).ok H.kf e1).2) (H.numRow rfl e2 hN hf dH)
  cbv;refine lB 33 9 (R1:=R4) (R2:=R6) rfl rfl (aTg▸.head _) ?_;refine zN hc ?_;cbv;refine jW hc oX hmk ⟨.b rfl,.e (by repeat (first | exact .head _ | apply List.Mem.tail)) h3c,trivial⟩ (.g [.b (.l b'),.ec 12 1]) rfl 100 (fun FB hFB=>?_);cbv;refine cW 43 .u32 (aC (d/g)) rfl rfl (fun X μ a w v' H hv'=>by have h:=H.toP.val (R:=R4) (by repeat (first | exact .head _ | apply List.Mem.tail)) hv';rw[hR4]at h;exact h) fun f2 N2 pZ hN2 hf2 aPs=>?_
  refine zN hc ?_;cbv;exact aS hc hR rfl (fun X μ a w v H hv=>by
   obtain⟨vs,q1,rfl⟩:=tD hv;obtain⟨v1,v2,v3,rfl,e1,e2,e3⟩:=dV q1;have h3:=H.toP.numRow rfl e3 hN2 hf2 aPs
   rw[hG];exact⟨[v1,v2,v3],rfl,fN e1,(bT.ec (c:=.x R3) (.head _) hFB rfl).ok H.toP.kf e2,⟨gR h3,by rw[hR4];exact h3⟩,trivial⟩)
end Go.Ai
