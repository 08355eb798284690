/- Part 30: lemmas for the particulars laws -/
import Derived.Test.YtafimpgfbgigeaaGreatDoorProg
import Derived.ProofKit
import Derived.LaidMore
import Derived.OpenShut
import Derived.Handed
import Derived.Deep.Strs
import Derived.Stop.Joined
import Derived.Shelf.Vars
import Derived.Lib.LaidTab
import Derived.SizedLaws
import Derived.Test.YtafimpgfbgigeaaGreatDoorPh28
set_option linter.all false
namespace Go.Proofs.YtafimpgfbgigeaaGreatDoor
open Go Go.ChangeShapes Go.WideShapes Go.ChangeAt Go.WideElems Go.RowKit
section
variable {H:Type}{enc:TypeId × Value->H}
theorem vP {a:Assume}{C:Checked}{os:Os}{f:FuncId}{fn:Func}{s:ChangeSpec}{conds:List PathCond}{apart fresh aOv again:Bool}{X:World->Array Value->Prop}
  (hX:∀(w w':World) (args:Array Value),w.heap=w'.heap->X w args->X w' args)
  (own:ownKnob C.prog.godebug=none) (started:os.Started) (noInit:C.prog.inits.idxOf? f=none) (hfn:C.prog.funcs[f]?=some fn)
  (witness:∃(w:World) (tape:Tape) (i:Input),w.os=os/\(w.forCall tape i).Shaped C.prog/\i.vars=[]/\Input.okWide C.prog (w.forCall tape i) .any w.heap.size f i/\
   ((s.pre enc C.prog fn conds apart (w.forCall tape i).memory i.args/\X (w.forCall tape i).memory i.args)/\sizedMet enc C.prog fn (OpenSpec.ofChange s) apart (w.forCall tape i).memory i.args)/\a.holds C.prog (lone (Frame.enter C.prog f i.args .normal) [] (w.forCall tape i)))
  (contract:∀(W:World) (base:Nat) (args:Array Value) (ds gs:List (DataW H)) (before:List MemPlace),
   (∀(j:Nat) t v,fn.params[j]?=some t->args[j]?=some v->Value.okWide C.prog W .any base t v)->
   DataW.Whole enc C.prog fn.params.toList s.vars apart W args.toList ds gs before->
   (DataW.weightsEach C.prog (fn.params.toList++s.plain.varTypes C.prog) (ds++gs)).all (·<=reachBytes)=true->X W args->W.ShapedOpen C.prog->
   Calls C.prog f args W λe W'=>∃v,e=.returned v/\s.post enc C.prog fn apart fresh aOv again W args v W'):
  ReturnsInHanded a C os f .any (λw args=>(s.pre enc C.prog fn conds apart w args/\X w args)/\sizedMet enc C.prog fn (OpenSpec.ofChange s) apart w args) (s.post enc C.prog fn apart fresh aOv again):=by
 refine returnsInHanded_of_calls own started noInit witness ?_;intro w tape i _ hsh _ hok aT6 bHg;obtain⟨_,_,_,fn',bHc,_,_,_,_,pB⟩:=hok;have e:fn'=fn:=Option.some.inj (bHc.symm.trans hfn);subst e;obtain⟨⟨⟨ds,gs,before,hw,hc⟩,hx⟩,hz⟩:=aT6;have hw':=DataW.Whole.of_heap (w':=w.forCall tape i) (by rfl) hw;refine(contract (w.forCall tape i) w.heap.size i.args ds gs before pB hw' (hz.weights hw) (hX _ _ _ (by rfl) hx) hsh).mono λe W' ⟨v,he,hp⟩=>?_;subst he;exact ChangeSpec.post_blind hp
end
section
variable {W:World}{r:Reach}{base:Nat}
theorem sP {P:Program}{t:TypeId}{v:Value}{d:TypeDesc}(hd:P.underlying t=some d)(h:Value.okWide P W r base t v)(hk:(match d with | .struct _=>true | .array _ _=>true | _=>false)=true:=by rfl):∃cs,v=.agg cs/\cs.size=P.cellsOf t/\Row.okWide P W r base t cs:=by
 unfold Value.okWide at h;rw[hd]at h;cases d<;>first | exact h | cases hk
theorem pO {P:Program}{t s:TypeId}{v:Value}(n:Nat)(hc:P.cellsOf t=n)(ht:P.cellTypes P.depth t=some (List.replicate n s))(hs:P.underlying s=some .string)(h:∃cs,v=.agg cs/\cs.size=P.cellsOf t/\Row.okWide P W r base t cs):
  ∃l:List ByteArray,l.length=n/\v=.agg (l.map Value.string).toArray:=by
 obtain⟨cs,rfl,h1,ts,h2,_,h3⟩:=h;rw[ht]at h2;injection h2 with h2
 subst h2;have hx:∀i,i<n->∃x:ByteArray,cs[i]?=some (.string x):=λi hi=>by
  have hi':i<cs.size:=zW
  obtain⟨u,e1,e2⟩:=h3 i cs[i] (by simp[hi']);rw[List.length_replicate,Nat.mod_eq_of_lt hi,List.getElem?_replicate,if_pos hi]at e1;injection e1 with e1
  subst e1;obtain⟨x,hx⟩:=okWide_string (v:=cs[i]) hs (by unfold Value.okWide;rw[hs];exact e2);exact⟨x,by simp[hi',hx]⟩
 have:Inhabited ByteArray:=⟨⟨#[]⟩⟩
 obtain⟨f,hf⟩:=Deep.choose_lt hx;refine⟨(List.range n).map f,zA,?_⟩;congr 1;obtain⟨l⟩:=cs;congr 1;apply List.ext_getElem?;intro i;rw[List.getElem?_map,List.getElem?_map];have h1:l.length=n:=by simpa[hc]using h1
 rcases Nat.lt_or_ge i n with hi | hi
 ·have:=hf i hi
  simp at this;rw[List.getElem?_range hi,this];rfl
 ·rw[List.getElem?_eq_none zW,List.getElem?_eq_none (by simpa using hi)];rfl
end
section
variable {H:Type}{enc:TypeId × Value->H}{W w:World}{base:Nat}{sp:Nat->Bool}{held:Bool}{n:Nat}{cs:List Value}{x:DataW H × List MemPlace}
theorem nth {cs:List Value}{a n k:Nat}{x:Value}(hk:k<n)(e:(((cs.drop a).take n).drop k).take 1=[x]):cs[a+k]?=some x:=by
 have:=congrArg (·[0]?) e
 simpa[List.getElem?_take,List.getElem?_drop,hk]using this
end
end Go.Proofs.YtafimpgfbgigeaaGreatDoor
namespace Go.Ai
open Go Go.Proofs Go.Num V3
theorem xB:aB PP 40:=zK
theorem aBl:aB PP 41:=zK
theorem aZu {x y:Rat}(hx:sz x<=2^29)(hy:sz y<=2^29):fD PP 51 [.one (.s (.v (aA x))),.one (.s (.v (aA y)))] (.tp [qX x,qX y,.one (.i .i64 (.l 0))]):=
 fD.hide (R:=.tp [.agg (qC x),.agg (qC y),.one (.i .i64 (.l 0))]) (bFx (lTr hx zV) (lTr hy zV))
theorem aUi {x y:Rat}(hx:sz x<=2^28)(hy:sz y<=2^27):fD PP 40 [.one (.s (.v (aA x))),.one (.s (.v (aA y))),.one (.s (.v (aA (x+y))))] (.sg (.one (.b (.l true)))):=by
 have hx':sz x<=2^29:=lTr hx zV
 have hy':sz y<=2^29:=lTr hy zV
 have k1:=aZu hx' hy'
 have k2:=aEy hx' hy'
 have k3:=xTo (lTr (sz_aa hx hy) zV)
 generalize aA (x+y)=s,aA x=a,aA y=b at *;refine dP mixed tok [.s (.v a),.s (.v b),.s (.v s)] Tryz.func40 λc G K hG hK hc hR=>?_;apply zN hc;cbv;refine bQ hc hK (λm=>.t [cP m 0 3,cP m 3 3,.i .i64 (.l 0)]) k1 aOc rfl rfl 100 λK hK _=>?_;cbv
 (first | (refine bQ hc hK (λm=>cP m 0 3) k2 kW rfl rfl 100 λK hK _=>?_;cbv) | (refine aS hc hK (λm=>cP m 0 3) k2 kW rfl rfl 100 λK hK _=>?_;cbv))
 (first | (refine bQ hc hK (λ_=>.s (.v s)) k3 kX rfl rfl 100 λK hK _=>?_;cbv) | (refine aS hc hK (λ_=>.s (.v s)) k3 kX rfl rfl 100 λK hK _=>?_;cbv))
 exact dL hc hG hR rfl (.b (lK _))
theorem aY5 {x y:Rat}(hx:sz x<=2^27+2^22)(hy:sz y<=2^27+2^22){d:ByteArray}(hd:d=aA (x - y)):fD PP 41 [.one (.s (.v (aA x))),.one (.s (.v (aA y)))] (.sg (.one (.s (.v d)))):=by
 have hx':sz x<=2^29:=lTr hx zV
 have hy':sz y<=2^29:=lTr hy zV
 have k1:=aZu hx' hy'
 have k2:=aYo hx' hy'
 have k3:=xTo (lTr (sz_ss hx hy) zV)
 rw[<-hd]at k3;clear hd;generalize aA x=a,aA y=b at *;refine dP mixed tok [.s (.v a),.s (.v b)] Tryz.func41 λc G K hG hK hc hR=>?_;apply zN hc;cbv;refine bQ hc hK (λm=>.t [cP m 0 3,cP m 3 3,.i .i64 (.l 0)]) k1 aOc rfl rfl 100 λK hK _=>?_;cbv
 (first | (refine bQ hc hK (λm=>cP m 0 3) k2 aCo rfl rfl 100 λK hK _=>?_;cbv) | (refine aS hc hK (λm=>cP m 0 3) k2 aCo rfl rfl 100 λK hK _=>?_;cbv))
 (first | (refine bQ hc hK (λ_=>.s (.v d)) k3 kX rfl rfl 100 λK hK _=>?_;cbv) | (refine aS hc hK (λ_=>.s (.v d)) k3 kX rfl rfl 100 λK hK _=>?_;cbv))
 exact cT hc hK hG hR
theorem aXm {H:Hy}{h t g1 g2 g3:ByteArray}(h0:(yB H h t g1 g2 g3).2.2=0):H.ok=true/\(cA g1&&cA g2&&cA g3)=true/\iK h t=0/\aQ H.v≠0:=by
 unfold yB at h0;cases hb:H.ok&&(cA g1&&cA g2&&cA g3)with
 | false=>rw[hb]at h0;cases h0
 | true=>
  rw[hb]at h0;simp only[Bool.and_eq_true]at hb;by_cases he:iK h t=0
  ·by_cases hv:aQ H.v=0
   ·rw[decide_eq_true hv]at h0;simp only[he,if_true]at h0;cases h0
   ·exact⟨hb.1,by simp[hb.2],he,hv⟩
  ·simp only[he,if_false]at h0
theorem aKf {H:Hy}{h t g1 g2 g3:ByteArray}(h1:H.ok=true)(h2:(cA g1&&cA g2&&cA g3)=true)(h3:iK h t=0)(h4:aQ H.v≠0):yB H h t g1 g2 g3=(aA (aQ H.ac/aQ H.v+gUp H h t g1 g2 g3),aA (aQ H.al/aQ H.v+gUp H h t g1 g2 g3),0):=by
 unfold yB;rw[h1,h2,decide_eq_false h4];simp only[h3,if_true,Bool.and_self]
theorem lRaised (H:Hy)(h t g1 g2 g3 d:ByteArray){X:Nat->Prop}{w:World}(hX:∀b,X b->b<w.heap.size):Fn PP 7 [hyV H,.agg #[.string h,.string t,.string g1,.string g2,.string g3],.string d] X w (eE (.bool true)):=by
 have k1:=aHp H
 have k2:=aHo h t
 have k3:=aHq g1 g2 g3
 have k4:=rN d
 obtain⟨b1,e1⟩:=nm H.short;obtain⟨b2,e2⟩:=nm (sh h&&sh t);obtain⟨b3,e3⟩:=nm (sh g1&&sh g2&&sh g3);obtain⟨b4,e4⟩:=nm (sh d);rw[<-e1]at k1;rw[<-e2]at k2;rw[<-e3]at k3;rw[<-e4]at k4;unfold gT at *;refine bJ mixed tok [hyA H,.g [.s (.v h),.s (.v t),.s (.v g1),.s (.v g2),.s (.v g3)],.s (.v d)] (K:=[]) Tryz.func7 rfl rfl (lbl rfl) rfl hX (λf hf=>nomatch hf) λc hc hR=>?_;apply zN hc;cbv;refine cE hc (.b (.l true)) aCk (λn0 D X μ a w aK Hs hv=>by rw[<-Option.some.inj hv];exact aM1 Hs.xlt) rfl 100 ?_;cbv;cases b1
 ·refine aR hc k1 nR rfl 100 ?_;cbv;exact fJ hc hR
 refine aR hc k1 nR rfl 100 ?_;cbv;cases b2
 ·refine aR hc k2 nQ rfl 100 ?_;cbv;exact fJ hc hR
 refine aR hc k2 nQ rfl 100 ?_;cbv;cases b3
 ·refine aR hc k3 nS rfl 100 ?_;cbv;exact fJ hc hR
 refine aR hc k3 nS rfl 100 ?_;cbv;cases b4
 ·refine aR hc k4 dY rfl 100 ?_;cbv;exact fJ hc hR
 refine aR hc k4 dY rfl 100 ?_;cbv;have hs:=Hy.short_le e1.symm;have e2:=e2.symm;have e3:=e3.symm;simp only[Bool.and_eq_true]at e2 e3;have hh:=eR e2.1;have ht:=eR e2.2;have hd:=eR e4.symm;have kr:=aH3 hs;have km:=aUs hs hh ht (eR e3.1.1) (eR e3.1.2) (eR e3.2);have kf:=sJ (lTr hd (show 2^20<=2^34 by decide));have ke:iK h t≠0->_:=aO9 hh ht;have ha:(⟨aQ h,aQ t⟩:At).le 40:=⟨aX (sA e2.1) zV,aX (sA e2.2) zV⟩;have ko:iK h t=0->Pure PP 34 [attV h t] (.tuple #[aHn ⟨aQ h,aQ t⟩,.int .i64 0]):=λe=>by
  obtain⟨e1,e2,e3⟩:=aGu e;have k:=tOf (a:=⟨aQ h,aQ t⟩) ⟨lTr ha.1 zV,lTr ha.2 zV⟩ e3;unfold atV at k;rw[eL e1,eL e2]at k;exact k
 by_cases h0:(yB H h t g1 g2 g3).2.2=0
 rotate_left
 ·have hc0:=oD h t
  generalize yB H h t g1 g2 g3=y at km h0;generalize aD0 H=x at kr;obtain⟨r1,r2,e⟩:=x;obtain⟨m1,m2,f⟩:=y;have hf:(BE.not (.eq (.v f) (.l 0))).den=true:=by have h0:f≠0:=h0;simp[BE.den,IE.den,h0]
  generalize cA d=b at *;unfold attV aHn at *;generalize (⟨aQ h,aQ t⟩:At)=A at *;generalize aA A.ahead.x=a1,aA A.ahead.y=a2,aA A.ahead.z=a3,aA A.side.y=a4,aA A.side.z=a5,aA A.up.x=a6,aA A.up.y=a7,aA A.up.z=a8,iK h t=e' at *;refine zC (.t [.s (.v m1),.s (.v m2),.i .i64 (.v f)]) km vT ?_;cbv;rcases hc0 with he | he | he<;>subst he<;>(
   first | (refine aR hc (ko rfl) aCp rfl 100 ?_;cbv) | (refine aR hc (ke zV) aCp rfl 100 ?_;cbv)
   refine zC (.t [.s (.v r1),.s (.v r2),.i .i64 (.v e)]) kr qG ?_;cbv;refine bQ hc aUe (λm=>.t [cP m 0 3,.b (.l b)]) kf fO rfl rfl 100 λK hK _=>?_;cbv;refine dK hc 75 true hf rfl rfl 100 ?_;cbv;exact fJ hc hR)
 ·obtain⟨o1,o2,o3,o4⟩:=aXm h0;have ko:=ko o3;obtain⟨A,hA⟩:∃A:At,A=⟨aQ h,aQ t⟩:=⟨_,rfl⟩;obtain⟨U,hU⟩:=nm (gUp H h t g1 g2 g3);obtain⟨q1,hq1⟩:=nm (aQ H.ac/aQ H.v);obtain⟨q2,hq2⟩:=nm (aQ H.al/aQ H.v);rw[aKf o1 o2 o3 o4,<-hq1,<-hq2,<-hU]at km;have er:aD0 H=(aA q1,aA q2,0):=by unfold aD0;rw[o1,decide_eq_false o4,hq1,hq2]
  rw[er]at kr;rw[<-hA]at ko;have lU:sz U<=2^27:=by rw[hU];exact aDp hs hh ht (eR e3.1.1) (eR e3.1.2) (eR e3.2)
  have lq:∀a b:ByteArray,a.size<=2^20->b.size<=2^20->sz (aQ a/aQ b)<=2^21:=λa b h h'=>lTr (kF _ _) (lTr (Nat.add_le_add (aX h (show 1<=2^20 by decide)) (aX h' (show 1<=2^20 by decide))) zV)
  have l1:sz q1<=2^21:=by rw[hq1];exact lq _ _ hs.ac hs.v
  have l2:sz q2<=2^21:=by rw[hq2];exact lq _ _ hs.al hs.v
  have hu:A.up.le (2^9):=by rw[hA];exact(At.le_up ha).mono zV
  have hG:(⟨aQ g1,aQ g2,aQ g3⟩:V3).le 40:=⟨aX (sA e3.1.1) zV,aX (sA e3.1.2) zV,aX (sA e3.2) zV⟩
  have hk:sz (aQ d)<=40:=aX (sA e4.symm) zV
  have kv:=aXa (x:=aA A.up.x) (y:=aA A.up.y) (z:=aA A.up.z) (b:=true) (lTr (aZ _) (by have:=hu.1;omega)) (lTr (aZ _) (by have:=hu.2.1;omega)) (lTr (aZ _) (by have:=hu.2.2;omega)) (by rw[mH,mH,mH];rfl)
  rw[uP,uP,uP]at kv;change fD _ _ _ (.tp [vX A.up,.one (.b (.l true))])at kv;have kg:=aXa (x:=g1) (y:=g2) (z:=g3) (b:=true) (lTr (eR e3.1.1) zV) (lTr (eR e3.1.2) zV) (lTr (eR e3.2) zV) o2.symm;have kt:=bA7 (k:=aQ d) (a:=A.up) (lTr hk zV) (hu.mono zV);have hT:(⟨aQ d*A.up.x,aQ d*A.up.y,aQ d*A.up.z⟩:V3).le (2^10):=⟨lTr (sz_mm hk hu.1) zV,lTr (sz_mm hk hu.2.1) zV,lTr (sz_mm hk hu.2.2) zV⟩;have kp:=bEb (u:=⟨aQ g1,aQ g2,aQ g3⟩) (hG.mono zV) (hT.mono zV);have hP:=V3.le_add hG hT;obtain⟨G',hG'⟩:∃G':V3,G'=V3.add ⟨aQ g1,aQ g2,aQ g3⟩ ⟨aQ d*A.up.x,aQ d*A.up.y,aQ d*A.up.z⟩:=⟨_,rfl⟩;rw[<-hG']at kp hP;have kO:=hOut (hP.mono zV);have km2:=aUs (g1:=aA G'.x) (g2:=aA G'.y) (g3:=aA G'.z) hs hh ht (lTr (aZ _) (by have:=hP.1;omega)) (lTr (aZ _) (by have:=hP.2.1;omega)) (lTr (aZ _) (by have:=hP.2.2;omega));have eU:gUp H h t (aA G'.x) (aA G'.y) (aA G'.z)=U - aQ d:=by
   have h1:=aHh A.h
   have h2:=aHh A.t
   rw[hU];unfold gUp;rw[uP,uP,uP,<-hA,hG'];simp only[V3.dot,V3.sub,V3.add,At.up];generalize jK A.h=c,gR A.h=s,jK A.t=d',gR A.t=q at *;grind
  rw[aKf o1 (by rw[mH,mH,mH];rfl) o3 o4,eU,<-hq1,<-hq2]at km2;have ka1:=aUi (x:=q1+(U - aQ d)) (y:=aQ d) (lTr (sz_aa l1 (sz_ss lU hk)) zV) (lTr hk zV);have ka2:=aUi (x:=q2+(U - aQ d)) (y:=aQ d) (lTr (sz_aa l2 (sz_ss lU hk)) zV) (lTr hk zV);rw[show q1+(U - aQ d)+aQ d=q1+U by grind]at ka1;rw[show q2+(U - aQ d)+aQ d=q2+U by grind]at ka2;have kd1:=aY5 (x:=q1+U) (y:=q2+U) (d:=aA (q1 - q2)) (lTr (sz_aa l1 lU) zV) (lTr (sz_aa l2 lU) zV) (by congr 1;grind);have kd2:=aY5 (x:=q1) (y:=q2) (lTr l1 zV) (lTr l2 zV) rfl;cases hb:cA d with
  | false=>
   rw[hb]at kf;unfold aHn attV at *;generalize aA q1=r1,aA q2=r2,aA (q1+U)=m1,aA (q2+U)=m2,aA A.ahead.x=a1,aA A.ahead.y=a2,aA A.ahead.z=a3,aA A.side.y=a4,aA A.side.z=a5,aA A.up.x=a6,aA A.up.y=a7,aA A.up.z=a8 at *;refine aR hc km vT rfl 100 ?_;cbv;refine aR hc ko aCp rfl 100 ?_;cbv;refine aR hc kr qG rfl 100 ?_;cbv;refine bQ hc aUe (λm=>.t [cP m 0 3,.b (.l false)]) kf fO rfl rfl 100 λK hK _=>?_;cbv;exact fJ hc hR
  | true=>
   rw[hb]at kf;rw[eL hb]at ka1 ka2;unfold aHn attV gT at *;generalize aA (q1 - q2)=dd,aA (q1+(U - aQ d))=n1,aA (q2+(U - aQ d))=n2,aA (q1+U)=m1,aA (q2+U)=m2,aA q1=r1,aA q2=r2,aA A.ahead.x=a1,aA A.ahead.y=a2,aA A.ahead.z=a3,aA A.side.y=a4,aA A.side.z=a5,aA A.up.x=a6,aA A.up.y=a7,aA A.up.z=a8,aA G'.x=x1,aA G'.y=x2,aA G'.z=x3 at *;refine aR hc km vT rfl 100 ?_;cbv;refine aR hc ko aCp rfl 100 ?_;cbv;refine aR hc kr qG rfl 100 ?_;cbv;refine bQ hc aUe (λm=>.t [cP m 0 3,.b (.l true)]) kf fO rfl rfl 100 λK hK _=>?_;cbv;refine bQ hc hK (λm=>.t [cP m 0 9,.b (.l true)]) kv aG0 rfl rfl 100 λK hK _=>?_;cbv;refine bQ hc hK (λm=>.t [cP m 0 9,.b (.l true)]) kg aG0 rfl rfl 100 λK hK _=>?_;cbv;refine aS hc hK (λm=>cP m 0 9) kt aR1 rfl rfl 100 λK hK _=>?_;cbv;refine aS hc hK (λm=>cP m 0 9) kp aWi rfl rfl 100 λK hK _=>?_;cbv;refine aS hc hK (λ_=>.g [.s (.v x1),.s (.v x2),.s (.v x3)]) kO aZ6 rfl rfl 100 λK hK _=>?_;cbv;refine uQ hc km2 vT 100 ?_;cbv;refine dH hc _ 0 ?_;cbv;refine dH hc _ 0 ?_;cbv;refine dH hc _ 0 ?_;cbv;refine zE ?_;cbv
   (first | (refine bQ hc hK (λ_=>.b (.l true)) ka1 xB rfl rfl 100 λK hK _=>?_;cbv) | (refine aS hc hK (λ_=>.b (.l true)) ka1 xB rfl rfl 100 λK hK _=>?_;cbv))
   (first | (refine bQ hc hK (λ_=>.b (.l true)) ka2 xB rfl rfl 100 λK hK _=>?_;cbv) | (refine aS hc hK (λ_=>.b (.l true)) ka2 xB rfl rfl 100 λK hK _=>?_;cbv))
   (first | (refine bQ hc hK (λ_=>.s (.v dd)) kd1 aBl rfl rfl 100 λK hK _=>?_;cbv) | (refine aS hc hK (λ_=>.s (.v dd)) kd1 aBl rfl rfl 100 λK hK _=>?_;cbv))
   (first | (refine bQ hc hK (λ_=>.s (.v dd)) kd2 aBl rfl rfl 100 λK hK _=>?_;cbv) | (refine aS hc hK (λ_=>.s (.v dd)) kd2 aBl rfl rfl 100 λK hK _=>?_;cbv))
   exact fJ hc hR rfl (congrArg (λb=>some (Value.bool b)) (lK _))
end Go.Ai
