/- Part 27: lemmas for garboardlaw17.FloatDivides -/
import Derived.Test.YtmnancfboococaaGreatDoorTie
import Derived.Test.YtmnancfboococaaGreatDoorCards
import Derived.ProofKit
import Derived.LaidMore
import Derived.OpenShut
import Derived.Handed
import Derived.Deep.Strs
import Derived.Stop.Joined
import Derived.Shelf.Vars
import Derived.Lib.LaidTab
import Derived.Test.YtmnancfboococaaGreatDoorPd25
set_option linter.all false
namespace Go.Proofs.YtmnancfboococaaGreatDoor
open Go Go.ChangeShapes Go.WideShapes Go.ChangeAt Go.WideElems Go.RowKit
section
variable {H:Type}{enc:TypeId × Value->H}
theorem aJx {a:Assume}{C:Checked}{os:Os}{f:FuncId}{fn:Func}{s:ChangeSpec}{conds:List PathCond}{apart fresh aM5 again:Bool}{X:World->Array Value->Prop}
  (hX:∀(w w':World) (args:Array Value),w.heap=w'.heap->X w args->X w' args)
  (own:ownKnob C.prog.godebug=none) (started:os.Started) (noInit:C.prog.inits.idxOf? f=none) (hfn:C.prog.funcs[f]?=some fn)
  (witness:∃(w:World) (tape:Tape) (i:Input),w.os=os/\(w.forCall tape i).Shaped C.prog/\i.vars=[]/\Input.okWide C.prog (w.forCall tape i) .any w.heap.size f i/\
   ((s.pre enc C.prog fn conds apart (w.forCall tape i).memory i.args/\X (w.forCall tape i).memory i.args)/\sizedMet enc C.prog fn (OpenSpec.ofChange s) apart (w.forCall tape i).memory i.args)/\a.holds C.prog (lone (Frame.enter C.prog f i.args .normal) [] (w.forCall tape i)))
  (contract:∀(W:World) (base:Nat) (args:Array Value) (ds gs:List (DataW H)) (before:List MemPlace),
   (∀(j:Nat) t v,fn.params[j]?=some t->args[j]?=some v->Value.okWide C.prog W .any base t v)->
   DataW.Whole enc C.prog fn.params.toList s.vars apart W args.toList ds gs before->
   (DataW.weightsEach C.prog (fn.params.toList++s.plain.varTypes C.prog) (ds++gs)).all (·<=reachBytes)=true->X W args->W.ShapedOpen C.prog->
   Calls C.prog f args W λe W'=>∃v,e=.returned v/\s.post enc C.prog fn apart fresh aM5 again W args v W'):
  ReturnsInHanded a C os f .any (λw args=>(s.pre enc C.prog fn conds apart w args/\X w args)/\sizedMet enc C.prog fn (OpenSpec.ofChange s) apart w args) (s.post enc C.prog fn apart fresh aM5 again):=by
 refine returnsInHanded_of_calls own started noInit witness ?_;intro w tape i _ hsh _ hok aSp bFs;obtain⟨_,_,_,fn',bFo,_,_,_,_,tX⟩:=hok;have e:fn'=fn:=Option.some.inj (bFo.symm.trans hfn);subst e;obtain⟨⟨⟨ds,gs,before,hw,hc⟩,hx⟩,hz⟩:=aSp;have hw':=DataW.Whole.of_heap (w':=w.forCall tape i) (by rfl) hw;refine(contract (w.forCall tape i) w.heap.size i.args ds gs before tX hw' (hz.weights hw) (hX _ _ _ (by rfl) hx) hsh).mono λe W' ⟨v,he,hp⟩=>?_;subst he;exact ChangeSpec.post_blind hp
variable {W w:World}{base:Nat}{sp:Nat->Bool}{held:Bool}{n:Nat}{cs:List Value}{x:DataW H × List MemPlace}
theorem c24:Tryz.prog.cellsOf 24=1:=zG
theorem c36:Tryz.prog.cellsOf 36=3:=zG
theorem c38:Tryz.prog.cellsOf 38=9:=zG
theorem c26:Tryz.prog.cellsOf 26=2:=zG
theorem b38:1<=Tryz.prog.bytesOf 38:=of_decide_eq_true zG
theorem nth {cs:List Value}{a n k:Nat}{x:Value}(hk:k<n)(e:(((cs.drop a).take n).drop k).take 1=[x]):cs[a+k]?=some x:=by
 have:=congrArg (·[0]?) e
 simpa[List.getElem?_take,List.getElem?_drop,hk]using this
theorem aP1 (h:DataW.trod enc Tryz.prog w base sp held n 38 cs=some x):∀j,j<9->∃s:ByteArray,cs[j]?=some (.string s):=by
 obtain⟨xs,m,_,_,_,hn,hel⟩:=DataW.trod_array Tryz.underlying38 h;intro j hj;have h1:=hel (j/3) zW;rw[List.getElem?_eq_getElem (show j/3<xs.length by omega),c36]at h1;obtain⟨y0,y1,y2,k,_,_,e0,e1,e2⟩:=Deep.trod_struct3 Tryz.underlying36 h1;dsimp only at e0 e1 e2;rw[c24]at e0 e1 e2;have hm:j%3=0\/j%3=1\/j%3=2:=zW;rcases hm with hm | hm | hm
 ·obtain⟨s,e,_⟩:=DataW.trod_string Tryz.underlying24 e0;exact⟨s,by have:=nth zV e;rwa [show j/3*3+0=j by omega]at this⟩
 ·obtain⟨s,e,_⟩:=DataW.trod_string Tryz.underlying24 e1;exact⟨s,by have:=nth zV e;rwa [show j/3*3+1=j by omega]at this⟩
 ·obtain⟨s,e,_⟩:=DataW.trod_string Tryz.underlying24 e2;exact⟨s,by have:=nth zV e;rwa [show j/3*3+2=j by omega]at this⟩
theorem aHn {v:Value}{c:Array Value}{l:List Value}(e:v=.agg c)(h:v.cells.toList=l):v=.agg l.toArray:=by
 subst e;rw[<-h];rfl
set_option maxRecDepth 100000 in
theorem aO7 {v:Value}{d:DataW H}{p:List MemPlace}(tX:Value.okWide Tryz.prog W .any base 23 v)(hz:∀es sp,d=.slice es sp->(es.length+sp.length)*Tryz.prog.bytesOf 38<=reachBytes)
  (h:DataW.Trod enc Tryz.prog W 0 (λ_=>true) true 23 v d p):∃L N,L.length=9*N/\N<=2^62/\(Ai.rowS N L).p v (· <W.heap.size) W:=by
 obtain⟨a,len,cap,rfl⟩:=okWide_slice Tryz.underlying23 tX;obtain⟨m,h⟩:=h;rcases Deep.open_slice Tryz.underlying23 h with⟨e,_⟩ | ⟨a',len',aS,m',n,D,Pl,e,_,hlc,_,hm,hd,hx⟩
 ·simp only[Value.cells,List.cons.injEq,Value.slice.injEq]at e;obtain⟨⟨rfl,rfl,rfl⟩,_⟩:=e;exact⟨[],0,rfl,Nat.zero_le _,none,0,rfl,lRf 0,rfl,rfl,rfl⟩
 ·simp only[Value.cells,List.cons.injEq,Value.slice.injEq]at e;obtain⟨⟨rfl,rfl,rfl⟩,_⟩:=e;simp only[if_pos]at hm;subst hm;rw[c38]at hx;have hN:len<=2^62:=by
   have h1:=hz _ _ (Prod.mk.inj hd).1
   simp only[List.length_map,List.length_range]at h1;have h2:len*1<=(len+(m' - len))*Tryz.prog.bytesOf 38:=Nat.mul_le_mul zW b38;have h3:=reachBytes_lt;omega
  have cell:∀j,j<9*m'->∃s:ByteArray,W.cell? (a'.add j)=some (.string s):=by
   intro j hj;obtain⟨cs',h1,h2⟩:=hx (j/9) zW;obtain⟨s,hs⟩:=aP1 h2 (j%9) zW;obtain⟨_,_,h3⟩:=World.cells?_some h1;have h4:=h3 (j%9) zW;rw[Deep.add_add,show j/9*9+j%9=j by omega,hs]at h4;exact⟨s,h4⟩
  have hh:W.has Tryz.prog .any base a' 38 m':=by
   simp only[Value.okWide,Tryz.underlying23,Cell.okWide,Cell.ok]at tX;exact tX.2.2
  obtain⟨_,hsp,row,ncs,hs,_⟩:=hh;unfold World.shape? at hs;split at hs
  ·rename_i c ty fz hb;have hlt:a'.block<W.heap.size:=(Array.getElem?_eq_some_iff.1 hb).1;have:Inhabited ByteArray:=⟨⟨#[]⟩⟩;obtain⟨f,hf⟩:=Deep.choose_lt cell;refine⟨(List.range (9*len)).map f,len,zA,hN,some (a'.block,a'.off),m',?_,hlc,hlt,c,(ty,fz),hb,λi y hy=>?_⟩
   ·cases a';simp only at hsp;subst hsp;rfl
   ·simp only[List.getElem?_map,Option.map_map]at hy;rcases Nat.lt_or_ge i (9*len)with hi | hi
    ·rw[List.getElem?_range hi]at hy;obtain rfl:Value.string (f i)=y:=by simpa using hy
     have h0:=hf i zW
     have hb':(a'.add i).block=a'.block:=by unfold Addr.add;split<;>rfl
     have ho:(a'.add i).off=a'.off+i:=by unfold Addr.add;split<;>simp_all
     unfold World.cell? at h0;rw[hb',hb]at h0;simp only at h0;split at h0
     ·cases h0
     ·rw[ho]at h0;exact h0
    ·rw[List.getElem?_eq_none (by simpa using hi)]at hy;cases hy
  ·cases hs
end
end Go.Proofs.YtmnancfboococaaGreatDoor
namespace Go.Ai
open Go Go.Proofs Go.Num Go.Lib
theorem aY8:aB PP 83:=zK
theorem bG1 {b b':Bool}{n:Nat}(hb:b'=(!b&&decide (n≠0))):oC PP 83 [zRt b n] (.sg (zRt b' n)):=by
 have km:=aC8 (b:= !b) hb
 obtain⟨R1,hR1⟩:∃R,R=aJ n:=⟨_,rfl⟩;unfold zRt at *;rw[<-hR1]at km |-;clear hb;obtain⟨F,hF⟩:=nm (lU (.sg (.agg [.b (.l b),.x R1])));refine eU mixed tok Tryz.func83 rfl (by rfl) rfl [F] ⟨hF,trivial⟩ λc G hG hc hR=>?_;obtain⟨K,hK⟩:=nm (lT 0 [F]);rw[<-hK];have m1:KF.at 0 F∈K:=by rw[hK];exact .head _
 apply zN hc;cbv;refine fG hc lI km ⟨.b rfl,.ec m1 hF rfl,trivial⟩ (.g [.b (.l b'),.ec 3 1]) 100 (λFB hFB=>?_);cbv;exact dD hc hG hR rfl ⟨.b rfl,.ec (.head _) hFB rfl,trivial⟩
theorem aY1:aB PP 37:=zK
theorem bGs (q:Rat):oC PP 37 [qI q] (.sg (qI (-q))):=by
 have ko:=bG1 (b:=decide (q.num<0)) (b':=decide ((-q).num<0)) (n:=q.num.natAbs) (by
  rw[Rat.neg_num,Bool.eq_iff_iff];simp only[Bool.and_eq_true,Bool.not_eq_true',decide_eq_true_eq,decide_eq_false_iff_not,ne_eq];omega)
 have e1:(-q).num.natAbs=q.num.natAbs:=by rw[Rat.neg_num,Int.natAbs_neg]
 have e2:(-q).den=q.den:=Rat.neg_den q
 unfold qI qR;rw[e1,e2];unfold zRt at ko;generalize decide ((-q).num<0)=b',decide (q.num<0)=b at *;obtain⟨R1,hR1⟩:∃R,R=aJ q.num.natAbs:=⟨_,rfl⟩;obtain⟨R2,hR2⟩:∃R,R=aJ q.den:=⟨_,rfl⟩;rw[<-hR1]at ko |-;rw[<-hR2];clear hR1 hR2 e1 e2;obtain⟨F,hF⟩:=nm (lU (.sg (.agg [.b (.l b),.x R1,.x R2])));refine eU mixed tok Tryz.func37 rfl (by rfl) rfl [F] ⟨hF,trivial⟩ λc G hG hc hR=>?_;obtain⟨K,hK⟩:=nm (lT 0 [F]);rw[<-hK];have m1:KF.at 0 F∈K:=by rw[hK];exact .head _
 apply zN hc;cbv;refine cY hc aY8 ko ⟨⟨.b rfl,.ec m1 hF rfl,trivial⟩,trivial⟩ (.g [.b (.l b'),.ec 3 1]) 100 (λFB hFB=>?_);cbv;refine zE ?_;cbv;exact dD hc hG hR rfl ⟨.b rfl,.ec (.head _) hFB rfl,.ec (.tail _ m1) hF rfl,trivial⟩
theorem aQ3:aB PP 78:=zK
theorem bBx {x:Int}(h0:0<=x)(h1:x<4294967296):oC PP 78 [.one (.i .i64 (.v x))] (.sg (zIt x)):=by
 have kn:∀{X:Nat->Prop} {w:World},(∀b,X b->b<w.heap.size)->Fn PP 75 [.int .u32 x] X w (aJ x.natAbs):=λhX=>by
  have:=yH (x:=x) hX h0 h1
  rwa [show x.toNat=x.natAbs by omega]at this
 have km:=aC8 (b:=false) (b':=decide (x<0)) (n:=x.natAbs) (by simp;omega)
 unfold zIt;obtain⟨R1,hR1⟩:∃R,R=aJ x.natAbs:=⟨_,rfl⟩;have kB:∀{v:Value} {X:Nat->Prop} {w:World},R1.p v X w->v.oneCell'=true:=λh=>by rw[hR1]at h;exact eJ h
 unfold zRt at *;rw[<-hR1]at kn km |-;generalize decide (x<0)=b' at *;clear hR1;obtain⟨F,hF⟩:=nm (lU (.sg (.one (.i .i64 (.v x)))));refine eU mixed tok Tryz.func78 rfl (by rfl) rfl [F] ⟨hF,trivial⟩ λc G hG hc hR=>?_;obtain⟨K,hK⟩:=nm (lT 0 [F]);rw[<-hK];apply zN hc;cbv;refine aE rfl 100 (λh=>?_) (λ_=>?_)
 ·have h:=BE.lt_t h
  simp only[IE.den]at h;omega
 cbv;refine aP hc ⟨by show _/\_;simp only[lo,hi,IE.den];omega,trivial⟩ ?_;refine dO (R:=R1) hc pA (λn0 D X μ a w aK H aI=>?_) 100 ?_
 ·obtain⟨v,rfl,e1⟩:=aX aI;rw[bX e1];exact kn H.xlt
 cbv;refine fG hc lI km ⟨.b rfl,.e (.head _) kB,trivial⟩ (.g [.b (.l b'),.ec 3 1]) 100 (λFB hFB=>?_);cbv;exact dD hc hG hR rfl ⟨.b rfl,.ec (.head _) hFB rfl,trivial⟩
theorem uL:aB PP 32:=zK
theorem bEa {x:Int}(h0:0<=x)(h1:x<4294967296):oC PP 32 [.one (.i .i64 (.v x))] (.sg (qI x)):=by
 have ks:=bBx h0 h1
 have kn:∀{X:Nat->Prop} {w:World},(∀b,X b->b<w.heap.size)->Fn PP 75 [.int .u32 1] X w (aJ 1):=λhX=>yH (x:=1) hX zW zW
 unfold qI;rw[show((x:Rat)).num=x from rfl,show((x:Rat)).den=1 from rfl];unfold zIt at ks;unfold qR;obtain⟨R1,hR1⟩:∃R,R=aJ x.natAbs:=⟨_,rfl⟩;obtain⟨R2,hR2⟩:∃R,R=aJ 1:=⟨_,rfl⟩;have kB:∀{v:Value} {X:Nat->Prop} {w:World},R2.p v X w->v.oneCell'=true:=λh=>by rw[hR2]at h;exact eJ h
 unfold zRt at *;rw[<-hR1]at ks |-;rw[<-hR2]at kn |-;generalize decide (x<0)=b at *;clear hR1 h0 h1;obtain⟨RR,hRR⟩:=nm (RV.sg (.agg [.b (.l b),.x R1,.x R2]));rw[<-hRR];obtain⟨F,hF⟩:=nm (lU (.sg (.one (.i .i64 (.v x)))));refine eU mixed tok Tryz.func32 rfl (by rfl) rfl [F] ⟨hF,trivial⟩ λc G hG hc hR=>?_;obtain⟨K,hK⟩:=nm (lT 0 [F]);rw[<-hK];apply zN hc;cbv;refine fG hc aQ3 ks ⟨.i rfl,trivial⟩ (.g [.b (.l b),.ec 2 1]) 100 (λFB hFB=>?_);cbv;refine dO (R:=R2) hc pA (λn0 D X μ a w aK H aI=>?_) 100 ?_
 ·obtain⟨v,rfl,e1⟩:=aX aI;rw[bX e1];exact kn H.xlt
 cbv;refine cV 5 .u32 (aC 1) rfl rfl (λX μ a w v' H hv'=>by have h:=H.toP.val (R:=R2) (.head _) hv';rw[hR2]at h;exact h) λf N cap hN hf cR=>?_;apply zN hc;cbv;refine aR hc hR rfl (λX μ a w v H hv=>?_);obtain⟨vs,q1,rfl⟩:=sA hv;obtain⟨v1,v2,v3,rfl,e3,e4,e5⟩:=eS q1;have h3:=H.toP.numRow rfl e5 hN hf cR;rw[hG,hRR];exact⟨[v1,v2,v3],rfl,fW e3,(bJ.ec (c:=.x R1) (.tail _ (.head _)) hFB rfl).ok H.toP.kf e4,⟨eJ h3,by rw[hR2];exact h3⟩,trivial⟩
theorem aRg (l:List UInt8):(dB l).1.length<=l.length/\((dB l).2.getD [49]).length<=l.length+1:=by
 cases hc:(dB l).2 with
 | none=>rw[tE hc];exact⟨lRf _,by show 1<=_;omega⟩
 | some r=>
  have h:=congrArg List.length (tF hc)
  simp only[List.length_append,List.length_cons]at h;exact⟨zW,by show r.length<=_;omega⟩
theorem aPf {a:ByteArray}(hs:a.size<=2^34)(h:pM a.data.toList=none):oC PP 29 [.one (.s (.v a))] (.tp [qI 0,.one (.b (.l false))]):=by
 obtain⟨l,hl⟩:=nm (a.data.toList);have hlen:l.length<=2^34:=by rw[hl];exact hs
 have hq:pM l=none:=by rw[hl];exact h
 have ksp:=aTb a zW
 rw[<-hl]at ksp;clear hl h hs;have hcl:=aRg l;have kI:oC PP 32 [.one (.i .i64 (.v 0))] (.sg (qI 0)):=bEa (x:=0) zV zV;obtain⟨p,hp⟩:∃p:ByteArray,p=⟨(dB l).1.toArray⟩:=⟨_,rfl⟩;obtain⟨tx,htx⟩:∃p:ByteArray,p=⟨((dB l).2.getD [49]).toArray⟩:=⟨_,rfl⟩;obtain⟨sl,hsl⟩:∃b,b=(dB l).2.isSome:=⟨_,rfl⟩;have hpl:p.data.toList=(dB l).1:=by rw[hp]
 have htl:tx.data.toList=(dB l).2.getD [49]:=by rw[htx]
 have hps:p.size<=2^34:=by rw[show p.size=p.data.toList.length from rfl,hpl];omega
 have hts:tx.size<=2^34+1:=by rw[show tx.size=tx.data.toList.length from rfl,htl];omega
 rw[<-hp,<-htx,<-hsl]at ksp;have kv1:=aU0 p zW;have kv2:=aGi tx zW;obtain⟨RR,hRR⟩:=nm (RV.tp [qI 0,.one (.b (.l false))]);rw[<-hRR];unfold qI qR at hRR kI;generalize decide ((0:Rat).num<0)=b0 at *;obtain⟨R0,hR0⟩:∃R,R=aJ (0:Rat).num.natAbs:=⟨_,rfl⟩;obtain⟨RD,hRD⟩:∃R,R=aJ (0:Rat).den:=⟨_,rfl⟩;rw[<-hR0,<-hRD]at hRR kI;clear hR0 hRD;obtain⟨F,hF⟩:=nm (lU (.sg (.one (.s (.v a)))));refine eU mixed tok Tryz.func29 rfl (by rfl) rfl [F] ⟨hF,trivial⟩ λc G hG hc hR=>?_;obtain⟨K,hK⟩:=nm (lT 0 [F]);rw[<-hK];apply zN hc;cbv;refine zC (.t [.s (.v p),.s (.v tx),.b (.l sl)]) ksp aHh ?_;cbv;cases hz:wT p.data.toList with
 | none=>
  rw[hz]at kv1;refine zC (.b (.l false)) kv1 aBh ?_;cbv;refine fG hc uL kI ⟨.i rfl,trivial⟩ (.g [.b (.l b0),.ec 2 1,.ec 2 2]) 100 (λFB hFB=>?_);cbv;rw[hRR]at hG;exact dD hc hG hR rfl ⟨⟨.b rfl,.ec (.head _) hFB rfl,.ec (.head _) hFB rfl,trivial⟩,.b rfl,trivial⟩
 | some z=>
 rw[hz]at kv1;refine zC (.b (.l true)) kv1 aBh ?_;cbv;cases hn:isNat tx.data.toList with
 | false=>
  rw[hn]at kv2;refine zC (.b (.l false)) kv2 pB ?_;cbv;refine fG hc uL kI ⟨.i rfl,trivial⟩ (.g [.b (.l b0),.ec 2 1,.ec 2 2]) 100 (λFB hFB=>?_);cbv;rw[hRR]at hG;exact dD hc hG hR rfl ⟨⟨.b rfl,.ec (.head _) hFB rfl,.ec (.head _) hFB rfl,trivial⟩,.b rfl,trivial⟩
 | true=>
 rw[hn]at kv2;refine zC (.b (.l true)) kv2 pB ?_;cbv;obtain⟨n,hnn⟩:=nm (dZ 0 tx.data.toList);have hrn:rdN tx.data.toList=some n:=by unfold rdN;rw[if_pos hn,hnn]
 have ep:p=aY z:=jQ (by rw[cW];exact wW hz)
 have et:tx=aL n:=jQ (by rw[cT];exact aCo hrn)
 have aV5:sl=true/\¬(z≠0/\n≠0/\n≠1/\z.natAbs.gcd n=1):=by
  unfold pM at hq;cases hc2:(dB l).2 with
  | none=>
   rw[hc2]at hq;rw[hpl,tE hc2]at hz;rw[hz]at hq;cases hq
  | some r=>
   rw[hc2]at hq htl hsl;rw[hpl]at hz;have htl:tx.data.toList=r:=htl;rw[htl]at hrn;rw[hz]at hq;simp only[hrn]at hq;refine⟨hsl,λh=>?_⟩;rw[dif_pos h]at hq;cases hq
 obtain⟨aV5,hno⟩:=aV5;have hdz:dl z.natAbs<=2^34:=by
  refine lTr ?_ hps;rw[ep,show(aY z).size=(aY z).data.toList.length from rfl,cW];unfold itoa;split
  ·exact Nat.le_succ _
  ·rename_i h;rw[show z.toNat=z.natAbs by omega];exact lRf _
 have hdn:dl n<=2^34+1:=by rw[et,fK]at hts;exact hts
 have hln:=dJ n
 have hlz:=dJ z.natAbs
 have krd:=aYj (z:=z) zW
 rw[<-ep]at krd;have kfr:∀{X:Nat->Prop} {w:World},(∀b,X b->b<w.heap.size)->Fn PP 74 [.string tx] X w (aJ n):=λhX=>by rw[et];exact aS5 zW hX
 have ksm:∀{X:Nat->Prop} {w:World},(∀b,X b->b<w.heap.size)->Fn PP 75 [.int .u32 1] X w (aJ 1):=λhX=>yH (x:=1) hX zW zW
 have hl1:(aC 1).length<=2^40:=lTr (bM (k:=1) zV) zV
 have kc1:∀{v u:Value} {X:Nat->Prop} {w:World},(∀b,X b->b<w.heap.size)->(aJ n).p v X w->(aJ 1).p u X w->Fn PP 76 [v,u] X w (dN (.int .i64 (bW n (1:Nat)))):=λhX h1 h2=>aIv (n:=n) (m:=1) zW hl1 hX h1 h2
 obtain⟨sg,hsg⟩:∃sg:Int,sg=if decide (z<0)then -1 else if z.natAbs=0 then 0 else 1:=⟨_,rfl⟩
 have ksg:=aN4 (b:=decide (z<0)) (n:=z.natAbs) hsg
 obtain⟨g,hg⟩:=nm (z.natAbs.gcd n);have kcm:∀{v u:Value} {X:Nat->Prop} {w:World},(∀b,X b->b<w.heap.size)->(aJ z.natAbs).p v X w->(aJ n).p u X w->Fn PP 77 [v,u] X w (aJ g):=λhX h1 h2=>by
  rw[hg];exact aAz aNk zW zW hX h1 h2
 have kc2:n≠0->z≠0->g≠1->∀{v u:Value} {X:Nat->Prop} {w:World},(∀b,X b->b<w.heap.size)->(aJ g).p v X w->(aJ 1).p u X w->Fn PP 76 [v,u] X w (dN (.int .i64 1)):=λh0 hz0 h1 X w v u hX h2 h3=>by
  have hg0:g≠0:=λe=>by rw[hg]at e;exact h0 (Nat.eq_zero_of_gcd_eq_zero_right e)
  have hgn:g<=n:=by rw[hg];exact Nat.gcd_le_right _ zW
  have hlg:(aC g).length<=2^40:=lTr (bN hgn) zW
  have:=aIv (n:=g) (m:=1) hlg hl1 hX h2 h3
  rw[show bW (g:Int) ((1:Nat):Int)=1 by unfold bW;rw[if_neg zW,if_pos zW]]at this;exact this
 have aSr:z≠0->sg≠0:=λh=>by
  rw[hsg,if_neg (show z.natAbs≠0 by omega)];split<;>decide
 have bGe:z=0->sg=0:=λh=>by rw[hsg,h];rfl
 unfold zIt zRt at krd;unfold zRt at ksg;subst aV5;obtain⟨bz,hbz⟩:∃b,b=decide (z<0):=⟨_,rfl⟩;rw[<-hbz]at krd ksg;obtain⟨R1,hR1⟩:∃R,R=aJ z.natAbs:=⟨_,rfl⟩;obtain⟨R2,hR2⟩:∃R,R=aJ n:=⟨_,rfl⟩;obtain⟨RO,hRO⟩:∃R,R=aJ 1:=⟨_,rfl⟩;obtain⟨RG,hRG⟩:∃R,R=aJ g:=⟨_,rfl⟩;rw[<-hR1]at krd ksg kcm;rw[<-hR2]at kfr kc1 kcm;rw[<-hRO]at ksm kc1 kc2;rw[<-hRG]at kcm kc2;refine fG hc aMq krd ⟨.s rfl,trivial⟩ (.g [.b (.l bz),.ec 2 1]) 100 (λFB hFB=>?_);cbv;refine dO (R:=R2) hc aAn (λn0 D X μ a w aK H aI=>?_) 100 ?_
 ·obtain⟨v,rfl,e1⟩:=aX aI;rw[dP e1];exact kfr H.xlt
 cbv;refine cV 28 .u32 (aC n) rfl rfl (λX μ a w v' H hv'=>by have h:=H.toP.val (R:=R2) (.head _) hv';rw[hR2]at h;exact h) λf N cap hN hf cR=>?_;apply zN hc;cbv;refine dO (R:=RO) hc pA (λn0 D X μ a w aK H aI=>?_) 100 ?_
 ·obtain⟨v,rfl,e1⟩:=aX aI;rw[bX e1];exact ksm H.xlt
 cbv;rw[hRR]at hG;by_cases h0:n=0
 ·refine bK hc (.i .i64 (.l (-1))) oP (λn0 D X μ a w aK H aI=>?_) 100 ?_
  ·obtain⟨v,u,rfl,e1,e2⟩:=bD aI;have:=kc1 H.xlt (by rw[hR2];exact H.numRow rfl e1 hN hf cR) (H.val (R:=RO) (.head _) e2);rw[h0]at this;exact this
  cbv;refine fG hc uL kI ⟨.i rfl,trivial⟩ (.g [.b (.l b0),.ec 7 1,.ec 7 2]) 100 (λFC hFC=>?_);cbv;exact dD hc hG hR rfl ⟨⟨.b rfl,.ec (.head _) hFC rfl,.ec (.head _) hFC rfl,trivial⟩,.b rfl,trivial⟩
 by_cases h1:n=1
 ·refine bK hc (.i .i64 (.l 0)) oP (λn0 D X μ a w aK H aI=>?_) 100 ?_
  ·obtain⟨v,u,rfl,e1,e2⟩:=bD aI;have:=kc1 H.xlt (by rw[hR2];exact H.numRow rfl e1 hN hf cR) (H.val (R:=RO) (.head _) e2);rw[h1]at this;exact this
  cbv;refine fG hc uL kI ⟨.i rfl,trivial⟩ (.g [.b (.l b0),.ec 7 1,.ec 7 2]) 100 (λFC hFC=>?_);cbv;exact dD hc hG hR rfl ⟨⟨.b rfl,.ec (.head _) hFC rfl,.ec (.head _) hFC rfl,trivial⟩,.b rfl,trivial⟩
 have hc1:bW (n:Int) ((1:Nat):Int)=1:=by unfold bW;rw[if_neg zW,if_pos zW]
 rw[hc1]at kc1;refine bK hc (.i .i64 (.l 1)) oP (λn0 D X μ a w aK H aI=>?_) 100 ?_
 ·obtain⟨v,u,rfl,e1,e2⟩:=bD aI;exact kc1 H.xlt (by rw[hR2];exact H.numRow rfl e1 hN hf cR) (H.val (R:=RO) (.head _) e2)
 cbv;by_cases hz0:z=0
 ·have hs0:=bGe hz0
  rw[hs0]at ksg;refine fG hc xW ksg ⟨⟨.b rfl,.ec zM hFB rfl,trivial⟩,trivial⟩ (.i .i64 (.v 0)) 100 (λFS hFS=>?_);cbv;refine bV 45 rfl rfl 100 (λh=>absurd h zV) (λ_=>?_);cbv;refine fG hc uL kI ⟨.i rfl,trivial⟩ (.g [.b (.l b0),.ec 8 1,.ec 8 2]) 100 (λFC hFC=>?_);cbv;exact dD hc hG hR rfl ⟨⟨.b rfl,.ec (.head _) hFC rfl,.ec (.head _) hFC rfl,trivial⟩,.b rfl,trivial⟩
 have hg1:g≠1:=λe=>hno ⟨hz0,h0,h1,hg.symm.trans e⟩
 have hs0:=aSr hz0
 refine fG hc xW ksg ⟨⟨.b rfl,.ec zM hFB rfl,trivial⟩,trivial⟩ (.i .i64 (.v sg)) 100 (λFS hFS=>?_);cbv;have e0:(BE.not (.eq (.v sg) (.l 0))).den=true:=by show(!decide (sg=0))=true;simp[hs0]
 refine bV 45 rfl rfl 100 (λ_=>?_) (λh=>absurd (e0.symm.trans h) zV);cbv;refine dO (R:=RG) hc tA (λn0 D X μ a w aK H aI=>?_) 100 ?_
 ·obtain⟨v,u,rfl,e1,e2⟩:=bD aI;exact kcm H.xlt (((bJ.ec (c:=.x R1) (F:=FB) zM hFB rfl).ok H.kf e1).2) (by rw[hR2];exact H.numRow rfl e2 hN hf cR)
 cbv;refine bK hc (.i .i64 (.l 1)) oP (λn0 D X μ a w aK H aI=>?_) 100 ?_
 ·obtain⟨v,u,rfl,e1,e2⟩:=bD aI;exact kc2 h0 hz0 hg1 H.xlt (H.val (R:=RG) zM e1) (H.val (R:=RO) zM e2)
 cbv;refine fG hc uL kI ⟨.i rfl,trivial⟩ (.g [.b (.l b0),.ec 9 1,.ec 9 2]) 100 (λFC hFC=>?_);cbv;exact dD hc hG hR rfl ⟨⟨.b rfl,.ec (.head _) hFC rfl,.ec (.head _) hFC rfl,trivial⟩,.b rfl,trivial⟩
end Go.Ai
namespace Go.Ai
open Go Go.Num V3
def dH {α:Type}(f:α->Rat):List α->Rat
 | []=>0
 | x::l=>f x+dH f l
theorem pP {α:Type}(f:α->Rat):∀l m:List α,dH f (l++m)=dH f l+dH f m
 | [],m=>by simp only[List.nil_append,dH];grind
 | x::l,m=>by simp only[List.cons_append,dH,pP f l m];grind
theorem sW {α:Type}(f g:α->Rat):∀l:List α,dH (λx=>f x+g x) l=dH f l+dH g l
 | []=>by simp only[dH];grind
 | x::l=>by simp only[dH,sW f g l];grind
theorem aE9 {α β:Type}(f:β->Rat)(g:α->List β):∀l:List α,dH f (l.flatMap g)=dH (λx=>dH f (g x)) l
 | []=>rfl
 | x::l=>by rw[List.flatMap_cons,pP,aE9 f g l];rfl
theorem aC1 {α:Type}(f:α->Rat):∀l:List α,dH f l.reverse=dH f l
 | []=>rfl
 | x::l=>by rw[List.reverse_cons,pP,aC1 f l];simp only[dH];grind
theorem nU {α:Type}{f g:α->Rat}:∀{l:List α},(∀x,x∈l->f x=g x)->dH f l=dH g l
 | [],_=>rfl
 | x::l,h=>by simp only[dH];rw[h x (.head _),nU λy hy=>h y (.tail _ hy)]
theorem yO {α:Type}{f:α->Rat}:∀{l:List α},(∀x,x∈l->f x=0)->dH f l=0
 | [],_=>rfl
 | x::l,h=>by simp only[dH];rw[h x (.head _),yO λy hy=>h y (.tail _ hy)];grind
def hJ (ψ:V3->V3->Rat)(t:Tri):Rat:=ψ t.a t.b+ψ t.b t.c+ψ t.c t.a
def aFf (ψ:V3->V3->Rat):Prop:=∀x y,ψ y x=-ψ x y
def wtE (w:List ByteArray->Rat)(es:fN):Rat:=dH (λx=>(x.2:Rat)*w x.1) es
theorem aN3 (w:List ByteArray->Rat)(k:List ByteArray)(d:Int):∀es:fN,wtE w (fR k d es)=wtE w es+d*w k
 | []=>by simp only[fR,wtE,dH];grind
 | (q,v)::l=>by
  unfold fR;split
  ·rename_i e;subst e;simp only[wtE,dH,Rat.intCast_add];grind
  ·have:=aN3 w k d l;simp only[wtE,dH]at *;grind
theorem bEp (w:List ByteArray->Rat)(es:fN)(t:Tri):wtE w (aHv es t)=wtE w es+hJ (λa b=>w (rH a b) - w (rH b a)) t:=by
 have e1:((1:Int):Rat)=1:=rfl
 have e2:((-1:Int):Rat)=-1:=rfl
 simp only[aHv,aRb,aN3,hJ,e1,e2];grind
theorem aYg (w:List ByteArray->Rat):∀(l:List Tri) (es:fN),wtE w (l.foldl aHv es)=wtE w es+dH (hJ λa b=>w (rH a b) - w (rH b a)) l
 | [],es=>by simp only[List.foldl,dH];grind
 | t::l,es=>by rw[List.foldl_cons,aYg w l,bEp];simp only[dH];grind
theorem aYf (w:List ByteArray->Rat)(l:List Tri):wtE w (xY l)=dH (hJ λa b=>w (rH a b) - w (rH b a)) l:=by
 have:=aYg w l []
 unfold xY;rw[this];simp only[wtE,dH];grind
def aF1 (ψ:V3->V3->Rat):List ByteArray->Rat
 | [a,b,c,d,e,f]=>ψ ⟨(pM a.data.toList).getD 0,(pM b.data.toList).getD 0,(pM c.data.toList).getD 0⟩ ⟨(pM d.data.toList).getD 0,(pM e.data.toList).getD 0,(pM f.data.toList).getD 0⟩
 | _=>0
theorem aMz (ψ:V3->V3->Rat)(a b:V3):aF1 ψ (rH a b)=ψ a b:=by
 simp only[rH,aF1,dA,Option.getD_some]
theorem wN {l:List Tri}(h:fY l=true){ψ:V3->V3->Rat}(ha:aFf ψ):dH (hJ ψ) l=0:=by
 have h1:=aYf (aF1 ψ) l
 have h2:wtE (aF1 ψ) (xY l)=0:=yO λx hx=>by
  have h3:=List.all_eq_true.1 h x hx
  obtain⟨k,n⟩:=x;by_cases hn:n=0
  ·subst hn;show((0:Int):Rat)*_=0;grind
  ·have h4:k.take 3=k.drop 3:=by
    simp only[aAe,hn,ne_eq,not_false_eq_true,decide_true,Bool.true_and,Bool.not_eq_true',decide_eq_false_iff_not,Decidable.not_not]at h3;exact h3
   have:aF1 ψ k=0:=by
    unfold aF1;split
    ·simp at h4;obtain⟨rfl,rfl,rfl⟩:=h4;have:=ha ⟨(pM ‹ByteArray›.data.toList).getD 0,0,0⟩ ⟨0,0,0⟩;have h5:∀v,ψ v v=0:=λv=>by have:=ha v v;grind
     exact h5 _
    ·rfl
   show _*aF1 ψ k=0
   rw[this];grind
 rw[h2]at h1;have h6:(λa b=>aF1 ψ (rH a b) - aF1 ψ (rH b a))=λa b=>ψ a b+ψ a b:=by
  funext a b;rw[aMz,aMz,ha a b];grind
 rw[h6,show(hJ λa b=>ψ a b+ψ a b)=λt=>hJ ψ t+hJ ψ t from by funext t;simp only[hJ];grind,sW]at h1;grind
def KU (es:fN):Prop:=es.Pairwise λx y=>x.1≠y.1
theorem aG1 {k:List ByteArray}{d:Int}:∀{es:fN} {x:List ByteArray × Int},x∈fR k d es->x.1=k\/∃y,y∈es/\y.1=x.1
 | [],x,h=>by simp[fR]at h;subst h;exact .inl rfl
 | (q,v)::l,x,h=>by
  unfold fR at h;split at h
  ·rcases List.mem_cons.1 h with e | e
   ·subst e;exact .inr ⟨_,.head _,rfl⟩
   ·exact .inr ⟨x,.tail _ e,rfl⟩
  ·rcases List.mem_cons.1 h with e | e
   ·subst e;exact .inr ⟨_,.head _,rfl⟩
   ·rcases aG1 e with e | ⟨y,e1,e2⟩
    ·exact .inl e
    ·exact .inr ⟨y,.tail _ e1,e2⟩
theorem KU.add {k:List ByteArray}{d:Int}:∀{es:fN},KU es->KU (fR k d es)
 | [],h=>by simp[fR,KU]
 | (q,v)::l,h=>by
  obtain⟨h1,h2⟩:=List.pairwise_cons.1 h;unfold fR;split
  ·exact List.pairwise_cons.2 ⟨h1,h2⟩
  ·rename_i hk;refine List.pairwise_cons.2 ⟨λx hx=>?_,KU.add h2⟩;rcases aG1 hx with e | ⟨y,e1,e2⟩
   ·rw[e];exact λe=>hk e.symm
   ·rw[<-e2];exact h1 y e1
theorem KU.l:∀(l:List Tri) {es:fN},KU es->KU (l.foldl aHv es)
 | [],_,h=>h
 | t::l,es,h=>KU.l l (es:=aHv es t) h.add.add.add.add.add.add
def one (k:List ByteArray)(k':List ByteArray):Rat:=if k'=k then 1 else 0
theorem KU.at:∀{es:fN},KU es->∀{x},x∈es->wtE (one x.1) es=x.2
 | y::l,h,x,hx=>by
  obtain⟨h1,h2⟩:=List.pairwise_cons.1 h;have h3:wtE (one x.1) (y::l)=y.2*one x.1 y.1+wtE (one x.1) l:=rfl;rw[h3];rcases List.mem_cons.1 hx with e | e
  ·subst e;have:wtE (one x.1) l=0:=yO λz hz=>by
    show _*one x.1 z.1=0
    unfold one;rw[if_neg (λe=>h1 z hz e.symm)];grind
   rw[this];unfold one;rw[if_pos rfl];grind
  ·rw[KU.at h2 e];unfold one;rw[if_neg (h1 x e)];grind
theorem aNg {l:List Tri}(hs:∀ψ,aFf ψ->dH (hJ ψ) l=0):fY l=true:=by
 refine List.all_eq_true.2 λx hx=>?_;have h1:=KU.at (KU.l l (es:=[]) .nil) (x:=x) hx;have h2:=aYf (one x.1) l;rw[hs _ λa b=>by grind,show wtE (one x.1) (xY l)=(x.2:Rat) from h1]at h2;obtain⟨k,n⟩:=x;have:n=0:=Rat.intCast_inj.1 (h2.trans rfl);simp[aAe,this]
theorem aK7 {l l':List Tri}(h1:(∀ψ,aFf ψ->dH (hJ ψ) l=0)->∀ψ,aFf ψ->dH (hJ ψ) l'=0)(h2:(∀ψ,aFf ψ->dH (hJ ψ) l'=0)->∀ψ,aFf ψ->dH (hJ ψ) l=0):fY l'=fY l:=by
 cases h:fY l with
 | true=>exact aNg (h1 λψ hψ=>wN h hψ)
 | false=>
  cases h':fY l' with
  | false=>rfl
  | true=>rw[aNg (h2 λψ hψ=>wN h' hψ)]at h;cases h
def Cop (a b c d:V3):Prop:=(a.sub d).dot ((b.sub d).cross (c.sub d))=0
structure Cone (T:V3->V3->V3->Rat):Prop where
 rot:∀a b c,T b c a=T a b c
 alt:∀a b c,T a c b=-T a b c
 add:∀a b c d,Cop a b c d->T a b c=T d a b+T d b c+T d c a
def mG (a b c:V3):Rat:=a.dot (b.cross c)
def aUt (a b c:V3):Rat:=mG a b c*(1/6)
def aDl (π:V3->Rat)(a b c:V3):Rat:=mG a b c*(π a+π b+π c)*(1/24)
theorem aH1 (a b c:V3):mG b c a=mG a b c:=by simp only[mG,dot,cross];grind
theorem aHz (a b c:V3):mG a c b=-mG a b c:=by simp only[mG,dot,cross];grind
theorem aH0 {a b c d:V3}(h:Cop a b c d):mG a b c=mG d a b+mG d b c+mG d c a:=by
 simp only[Cop,mG,dot,cross,sub]at *;grind
theorem aRd:Cone aUt where
 rot a b c:=by unfold aUt;rw[aH1]
 alt a b c:=by unfold aUt;rw[aHz];grind
 add a b c d h:=by unfold aUt;rw[aH0 h];grind
theorem aBq {π:V3->Rat}(hπ:∀a b c d,mG a b c*π d=mG d b c*π a+mG d c a*π b+mG d a b*π c):Cone (aDl π) where
 rot a b c:=by unfold aDl;rw[aH1];grind
 alt a b c:=by unfold aDl;rw[aHz];grind
 add a b c d h:=by
  have h1:=hπ a b c d
  have h2:=aH0 h
  unfold aDl;generalize mG a b c=D,mG d a b=D1,mG d b c=D2,mG d c a=D3,π a=x,π b=y,π c=z,π d=u at *;grind
theorem aZc:Cone (aDl V3.x):=aBq λa b c d=>by simp only[mG,dot,cross];grind
theorem aZd:Cone (aDl V3.y):=aBq λa b c d=>by simp only[mG,dot,cross];grind
theorem aZe:Cone (aDl V3.z):=aBq λa b c d=>by simp only[mG,dot,cross];grind
theorem Cone.same {T:V3->V3->V3->Rat}(hT:Cone T)(o x:V3):T o x x=0:=by have:=hT.alt o x x;grind
def tip (T:V3->V3->V3->Rat)(o a b c:V3):Rat:=T a b c - T o a b - T o b c - T o c a
theorem Cone.tip {T:V3->V3->V3->Rat}(hT:Cone T)(o:V3):Cone (tip T o) where
 rot a b c:=by unfold Ai.tip;rw[hT.rot];grind
 alt a b c:=by unfold Ai.tip;rw[hT.alt a b c,hT.alt o a c,hT.alt o b a,hT.alt o c b];grind
 add a b c d h:=by
  unfold Ai.tip;rw[hT.add a b c d h,hT.alt o a d,hT.alt o b d,hT.alt o c d];grind
theorem Cone.tip0 {T:V3->V3->V3->Rat}(hT:Cone T){o a b c:V3}(h:Cop a b c o):Ai.tip T o a b c=0:=by
 unfold Ai.tip;rw[hT.add a b c o h];grind
theorem aNl {p:Pl}{x y:V3}(h:p.over x≠p.over y):p.height x - p.height y≠0:=by
 refine aRi ?_;unfold Pl.over at h;by_cases h1:0<p.height x<;>by_cases h2:0<p.height y<;>simp[h1,h2]at h |-
theorem iG {p:Pl}{x y:V3}(h:p.over x≠p.over y):p.height (p.cut x y)=0:=by
 have h1:=aNl h
 have h2:p.height (p.cut x y)=p.height x - (p.height x - p.height y)*(p.height x/(p.height x - p.height y)):=by
  unfold Pl.cut;generalize p.height x/(p.height x - p.height y)=s;simp only[Pl.height,V3.add,V3.sub,V3.scale,V3.dot];grind
 rw[h2];generalize p.height x - p.height y=d at *;generalize p.height x=x at *;grind
theorem nK {p:Pl}{x y:V3}(h:p.over x≠p.over y):p.cut y x=p.cut x y:=by
 have h1:=aNl h
 have h2:p.height y/(p.height y - p.height x)=1 - p.height x/(p.height x - p.height y):=by
  generalize p.height x=u,p.height y=v at *;have h3:v - u≠0:=by grind
  grind
 unfold Pl.cut;rw[h2];generalize p.height x/(p.height x - p.height y)=s;simp only[V3.add,V3.sub,V3.scale,V3.mk.injEq];refine⟨?_,?_,?_⟩<;>grind
theorem aEw {p:Pl}(hn:p.n≠V3.zero){a b c d:V3}(ha:p.height a=0)(hb:p.height b=0)(hc:p.height c=0)(hd:p.height d=0):Cop a b c d:=by
 obtain⟨⟨n1,n2,n3⟩,q⟩:=p;simp only[Cop,Pl.height,V3.dot,V3.cross,V3.sub]at *;have e1:n1*(a.x - d.x)+n2*(a.y - d.y)+n3*(a.z - d.z)=0:=by grind
 have e2:n1*(b.x - d.x)+n2*(b.y - d.y)+n3*(b.z - d.z)=0:=by grind
 have e3:n1*(c.x - d.x)+n2*(c.y - d.y)+n3*(c.z - d.z)=0:=by grind
 clear ha hb hc hd;generalize a.x - d.x=a1,a.y - d.y=a2,a.z - d.z=a3,b.x - d.x=b1,b.y - d.y=b2,b.z - d.z=b3,c.x - d.x=c1,c.y - d.y=c2,c.z - d.z=c3 at *;generalize hD:a1*(b2*c3 - b3*c2)+a2*(b3*c1 - b1*c3)+a3*(b1*c2 - b2*c1)=D;have f1:n1*D=0:=by
  have:n1*D=(n1*a1+n2*a2+n3*a3)*(b2*c3 - b3*c2)+(n1*b1+n2*b2+n3*b3)*(c2*a3 - c3*a2)+(n1*c1+n2*c2+n3*c3)*(a2*b3 - a3*b2):=by rw[<-hD];grind
  rw[this,e1,e2,e3];grind
 have f2:n2*D=0:=by
  have:n2*D=(n1*a1+n2*a2+n3*a3)*(b3*c1 - b1*c3)+(n1*b1+n2*b2+n3*b3)*(c3*a1 - c1*a3)+(n1*c1+n2*c2+n3*c3)*(a3*b1 - a1*b3):=by rw[<-hD];grind
  rw[this,e1,e2,e3];grind
 have f3:n3*D=0:=by
  have:n3*D=(n1*a1+n2*a2+n3*a3)*(b1*c2 - b2*c1)+(n1*b1+n2*b2+n3*b3)*(c1*a2 - c2*a1)+(n1*c1+n2*c2+n3*c3)*(a1*b2 - a2*b1):=by rw[<-hD];grind
  rw[this,e1,e2,e3];grind
 by_cases z:D=0
 ·exact z
 ·have g1:=(Rat.mul_eq_zero.1 f1).resolve_right z
  have g2:=(Rat.mul_eq_zero.1 f2).resolve_right z
  have g3:=(Rat.mul_eq_zero.1 f3).resolve_right z
  subst g1;subst g2;subst g3;exact absurd rfl hn
def oO (a e f x:V3):Prop:=∃u v,x=(a.add (e.scale u)).add (f.scale v)
theorem oO.cut {a e f x y:V3}(p:Pl)(hx:oO a e f x)(hy:oO a e f y):oO a e f (p.cut x y):=by
 obtain⟨u,v,rfl⟩:=hx;obtain⟨u',v',rfl⟩:=hy;unfold Pl.cut;generalize Pl.height _ _/_=s;refine⟨u+(u' - u)*s,v+(v' - v)*s,?_⟩;simp only[V3.add,V3.sub,V3.scale,V3.mk.injEq];refine⟨?_,?_,?_⟩<;>grind
theorem oO.cop {a e f x y z w:V3}(hx:oO a e f x)(hy:oO a e f y)(hz:oO a e f z)(hw:oO a e f w):Cop x y z w:=by
 obtain⟨u1,v1,rfl⟩:=hx;obtain⟨u2,v2,rfl⟩:=hy;obtain⟨u3,v3,rfl⟩:=hz;obtain⟨u4,v4,rfl⟩:=hw;have key:∀u v:Rat,(((a.add (e.scale u)).add (f.scale v)).sub ((a.add (e.scale u4)).add (f.scale v4)))=(e.scale (u - u4)).add (f.scale (v - v4)):=λu v=>by
  simp only[V3.add,V3.sub,V3.scale,V3.mk.injEq];refine⟨?_,?_,?_⟩<;>grind
 unfold Cop;rw[key,key,key];generalize u1 - u4=p1,u2 - u4=p2,u3 - u4=p3,v1 - v4=q1,v2 - v4=q2,v3 - v4=q3;simp only[V3.add,V3.scale,V3.dot,V3.cross];grind
theorem oO.a (t:Tri):oO t.a (t.b.sub t.a) (t.c.sub t.a) t.a:=⟨0,0,by cases t;rename_i a b c;cases a;simp only[V3.add,V3.sub,V3.scale,V3.mk.injEq];refine⟨?_,?_,?_⟩<;>grind⟩
theorem oO.b (t:Tri):oO t.a (t.b.sub t.a) (t.c.sub t.a) t.b:=⟨1,0,by cases t;rename_i a b c;cases b;simp only[V3.add,V3.sub,V3.scale,V3.mk.injEq];refine⟨?_,?_,?_⟩<;>grind⟩
theorem oO.c (t:Tri):oO t.a (t.b.sub t.a) (t.c.sub t.a) t.c:=⟨0,1,by cases t;rename_i a b c;cases c;simp only[V3.add,V3.sub,V3.scale,V3.mk.injEq];refine⟨?_,?_,?_⟩<;>grind⟩
def tW (T:V3->V3->V3->Rat):List V3->Rat
 | [a,b,c]=>T a b c
 | [a,b,c,d]=>T a b c+T a c d
 | _=>0
def aO3 (T:V3->V3->V3->Rat)(p:Pl)(o x y:V3):Rat:=
 if p.over x then(if p.over y then 0 else T o (p.cut x y) y)else(if p.over y then T o x (p.cut x y)else T o x y)
theorem aEr {T:V3->V3->V3->Rat}(hT:Cone T)(p:Pl)(o:V3):aFf (aO3 T p o):=λx y=>by
 unfold aO3;cases hx:p.over x<;>cases hy:p.over y
 ·simp;exact hT.alt _ _ _
 ·simp;rw[nK (x:=x) (y:=y) (by rw[hx,hy];decide)];exact hT.alt _ _ _
 ·simp;rw[nK (x:=x) (y:=y) (by rw[hx,hy];decide)];exact hT.alt _ _ _
 ·simp
theorem tL {T:V3->V3->V3->Rat}(hT:Cone T){p:Pl}{t:Tri}{a e f B:V3}(ha:oO a e f t.a)(hb:oO a e f t.b)(hc:oO a e f t.c)(hB:oO a e f B)(hz:¬(p.over t.a=p.over t.b/\p.over t.b=p.over t.c)->∀X Y,p.height X=0->p.height Y=0->T B X Y=0):
  tW T (t.low p)=hJ (aO3 T p B) t:=by
 have k1:=ha.cut p hb
 have k2:=hb.cut p hc
 have k3:=hc.cut p ha
 have A:∀{x y z},oO a e f x->oO a e f y->oO a e f z->T x y z=T B x y+T B y z+T B z x:=λh1 h2 h3=>hT.add _ _ _ _ (h1.cop h2 h3 hB)
 have z1:p.over t.a≠p.over t.b->p.height (p.cut t.a t.b)=0:=iG
 have z2:p.over t.b≠p.over t.c->p.height (p.cut t.b t.c)=0:=iG
 have z3:p.over t.c≠p.over t.a->p.height (p.cut t.c t.a)=0:=iG
 have R:=λx y=>hT.alt B x y
 cases h1:p.over t.a<;>cases h2:p.over t.b<;>cases h3:p.over t.c<;>simp only[h1,h2,h3,ne_eq,reduceCtorEq,not_true_eq_false,not_false_eq_true,forall_const,false_implies,true_and,and_true,false_and,and_false,and_self,Tri.low,Pl.low,hJ,aO3,ite_true,ite_false,Bool.false_eq_true,List.append_nil,List.nil_append,List.cons_append,List.append_assoc,tW]at *
 ·exact A ha hb hc
 ·rw[A ha hb k2,A ha k2 k3,R (p.cut t.b t.c) t.a,hz _ _ z2 z3]<;>grind
 ·rw[A ha k1 k2,A ha k2 hc,R (p.cut t.b t.c) t.a,hz _ _ z1 z2]<;>grind
 ·rw[A ha k1 k3,hz _ _ z1 z3]<;>grind
 ·rw[A k1 hb hc,A k1 hc k3,R t.c,hz _ _ z3 z1]<;>grind
 ·rw[A k1 hb k2,hz _ _ z2 z1]<;>grind
 ·rw[A k2 hc k3,hz _ _ z3 z2]<;>grind
 ·grind
def aKf (F:V3->V3->Rat)(p:Pl)(t:Tri):Rat:=
 match p.over t.a,p.over t.b,p.over t.c with
 | true,false,false=>F (p.cut t.a t.b) (p.cut t.c t.a)
 | false,true,false=>F (p.cut t.b t.c) (p.cut t.a t.b)
 | false,false,true=>F (p.cut t.c t.a) (p.cut t.b t.c)
 | false,true,true=>F (p.cut t.c t.a) (p.cut t.a t.b)
 | true,false,true=>F (p.cut t.a t.b) (p.cut t.b t.c)
 | true,true,false=>F (p.cut t.b t.c) (p.cut t.c t.a)
 | _,_,_=>0
theorem aW5 {F:V3->V3->Rat}(hF:∀x,F x x=0)(t:Tri)(p:Pl):dH (λg=>F g.a g.b) (t.seg p)=aKf F p t:=by
 have c1:=λh=>nK (p:=p) (x:=t.a) (y:=t.b) h
 have c2:=λh=>nK (p:=p) (x:=t.b) (y:=t.c) h
 have c3:=λh=>nK (p:=p) (x:=t.c) (y:=t.a) h
 have sg:∀(x y:V3),dH (λg:Seg=>F g.a g.b) (if x=y then []else [⟨x,y⟩])=F x y:=λx y=>by
  split
  ·rename_i e;subst e;exact(hF x).symm
  ·simp only[dH];grind
 cases h1:p.over t.a<;>cases h2:p.over t.b<;>cases h3:p.over t.c<;>simp only[h1,h2,h3,ne_eq,reduceCtorEq,not_true_eq_false,not_false_eq_true,forall_const,Tri.seg,Tri.cx,Tri.cy,Tri.turn,Tri.cutP,aDd,Tri.rot,aKf]at *
 ·rfl
 ·simp only[Int.toNat,Tri.rot,c2,Int.reduceLT,ite_false,ite_true,reduceIte];exact sg _ _
 ·simp only[Int.toNat,Tri.rot,c1,Int.reduceLT,ite_false,ite_true,reduceIte];exact sg _ _
 ·simp only[Int.toNat,Tri.rot,<-c3,Int.reduceLT,ite_false,ite_true,reduceIte];simp only[eq_comm (a:=p.cut t.a t.b),reduceIte,Bool.false_eq_true];exact sg _ _
 ·simp only[Int.toNat,Tri.rot,c3,Int.reduceLT,ite_false,ite_true,reduceIte];exact sg _ _
 ·simp only[Int.toNat,Tri.rot,c1,Int.reduceLT,ite_false,ite_true,reduceIte];simp only[eq_comm (a:=p.cut t.b t.c),reduceIte,Bool.false_eq_true];exact sg _ _
 ·simp only[Int.toNat,Tri.rot,c2,Int.reduceLT,ite_false,ite_true,reduceIte];simp only[eq_comm (a:=p.cut t.c t.a),reduceIte,Bool.false_eq_true];exact sg _ _
 ·rfl
theorem aLr {t:Tri}{p:Pl}{g:Seg}(h:g∈t.seg p):p.height g.a=0/\p.height g.b=0:=by
 have c1:=λh=>iG (p:=p) (x:=(t.turn p).a) (y:=(t.turn p).b) h
 have c2:=λh=>iG (p:=p) (x:=(t.turn p).a) (y:=(t.turn p).c) h
 unfold Tri.seg at h;split at h
 ·cases h
 ·rename_i hc;have h1:p.over (t.turn p).a≠p.over (t.turn p).b/\p.over (t.turn p).a≠p.over (t.turn p).c:=by
   unfold Tri.turn Tri.cutP at *;cases h1:p.over t.a<;>cases h2:p.over t.b<;>cases h3:p.over t.c<;>simp[h1,h2,h3,aDd,Tri.rot]at hc |-
  have c1:=c1 h1.1
  have c2:=c2 h1.2
  split at h
  ·cases h
  ·split at h
   ·simp at h;subst h;exact⟨c1,c2⟩
   ·simp at h;subst h;exact⟨c2,c1⟩
def chi (φ:V3->Rat)(p:Pl)(x y:V3):Rat:=
 if p.over x then(if p.over y then 0 else φ (p.cut x y))else(if p.over y then -φ (p.cut x y)else 0)
theorem aQ7 (φ:V3->Rat)(p:Pl):aFf (chi φ p):=λx y=>by
 unfold chi;cases hx:p.over x<;>cases hy:p.over y
 ·simp
 ·simp;rw[nK (x:=x) (y:=y) (by rw[hx,hy];decide)]
 ·simp;rw[nK (x:=x) (y:=y) (by rw[hx,hy];decide)]
 ·simp
theorem aVe (φ:V3->Rat)(p:Pl)(t:Tri):aKf (λx y=>φ x - φ y) p t=hJ (chi φ p) t:=by
 cases h1:p.over t.a<;>cases h2:p.over t.b<;>cases h3:p.over t.c<;>simp only[h1,h2,h3,aKf,hJ,chi,ite_true,ite_false,Bool.false_eq_true]<;>grind
theorem aVf {T:V3->V3->V3->Rat}(hT:Cone T)(p:Pl)(o:V3)(t:Tri):aKf (T o) p t+tW T (t.low p)=tW (tip T o) (t.low p)+hJ (aO3 T p o) t:=by
 have R:=hT.alt o
 cases h1:p.over t.a<;>cases h2:p.over t.b<;>cases h3:p.over t.c<;>simp only[h1,h2,h3,reduceCtorEq,Tri.low,Pl.low,hJ,aO3,ite_true,ite_false,Bool.false_eq_true,List.append_nil,List.nil_append,List.cons_append,List.append_assoc,tW,tip,aKf]at *
 ·grind
 ·rw[R t.a (p.cut t.b t.c),R (p.cut t.b t.c) (p.cut t.c t.a)];grind
 ·rw[R t.a (p.cut t.b t.c),R (p.cut t.a t.b) (p.cut t.b t.c)];grind
 ·rw[R (p.cut t.a t.b) (p.cut t.c t.a)];grind
 ·rw[R (p.cut t.a t.b) t.c,R (p.cut t.c t.a) (p.cut t.a t.b)];grind
 ·rw[R (p.cut t.b t.c) (p.cut t.a t.b)];grind
 ·rw[R (p.cut t.c t.a) (p.cut t.b t.c)];grind
 ·grind
def aDa (T:V3->V3->V3->Rat)(p:Pl)(l:List Tri):Rat:=
 dH (λg=>T ((dT p l).headD ⟨V3.zero,V3.zero⟩).a g.a g.b) (dT p l)+dH (λt=>tW T (t.low p)) l
theorem aTy {F:V3->V3->Rat}(hF:∀x,F x x=0)(p:Pl)(l:List Tri):dH (λg=>F g.a g.b) (dT p l)=dH (aKf F p) l:=by
 unfold dT;rw[aE9];exact nU λt _=>aW5 hF t p
theorem aMa {T:V3->V3->V3->Rat}(hT:Cone T){p:Pl}(hn:p.n≠V3.zero){l:List Tri}(hm:fY l=true){o:V3}(ho:p.height o=0):
  aDa T p l=dH (λt=>tW (tip T o) (t.low p)) l:=by
 have hh:∀g,g∈dT p l->p.height g.a=0/\p.height g.b=0:=λg hg=>by
  obtain⟨t,_,h⟩:=List.mem_flatMap.1 hg;exact aLr h
 have e1:dH (λg=>T ((dT p l).headD ⟨V3.zero,V3.zero⟩).a g.a g.b) (dT p l)=dH (λg=>T o g.a g.b) (dT p l):=by
  cases hs:dT p l with
  | nil=>rfl
  | cons g0 s=>
   rw[<-hs];have h0:p.height ((dT p l).headD ⟨V3.zero,V3.zero⟩).a=0:=by rw[hs];exact(hh g0 (by rw[hs];exact .head _)).1
   generalize ((dT p l).headD ⟨V3.zero,V3.zero⟩).a=o0 at *;rw[nU (g:=λg=>T o g.a g.b+(T o o0 g.a - T o o0 g.b)) λg hg=>by
    rw[hT.add o0 g.a g.b o (aEw hn h0 (hh g hg).1 (hh g hg).2 ho),hT.alt o o0 g.b];grind]
   rw[sW,aTy (F:=λx y=>T o o0 x - T o o0 y) (λx=>by grind),nU λt _=>aVe (T o o0) p t,wN hm (aQ7 _ _)];grind
 unfold aDa;rw[e1,aTy (F:=T o) (λx=>hT.same o x),<-sW,nU λt _=>aVf hT p o t,sW,wN hm (aEr hT p o)];grind
theorem aS9 {p:Pl}(hn:p.n≠V3.zero):∃o,p.height o=0:=by
 obtain⟨⟨n1,n2,n3⟩,q⟩:=p;by_cases h1:n1=0
 ·by_cases h2:n2=0
  ·by_cases h3:n3=0
   ·subst h1;subst h2;subst h3;exact absurd rfl hn
   ·exact⟨⟨0,0,q/n3⟩,by simp only[Pl.height,V3.dot];grind⟩
  ·exact⟨⟨0,q/n2,0⟩,by simp only[Pl.height,V3.dot];grind⟩
 ·exact⟨⟨q/n1,0,0⟩,by simp only[Pl.height,V3.dot];grind⟩
theorem exB (p:Pl){t:Tri}{P:V3}(hP:oO t.a (t.b.sub t.a) (t.c.sub t.a) P):∃B,oO t.a (t.b.sub t.a) (t.c.sub t.a) B/\(¬(p.over t.a=p.over t.b/\p.over t.a=p.over t.c/\p.over t.a=p.over P)->p.height B=0):=by
 by_cases h1:p.over t.a=p.over t.b
 ·by_cases h2:p.over t.a=p.over t.c
  ·by_cases h3:p.over t.a=p.over P
   ·exact⟨P,hP,λh=>absurd ⟨h1,h2,h3⟩ h⟩
   ·exact⟨_,(oO.a t).cut p hP,λ_=>iG h3⟩
  ·exact⟨_,(oO.a t).cut p (oO.c t),λ_=>iG h2⟩
 ·exact⟨_,(oO.a t).cut p (oO.b t),λ_=>iG h1⟩
theorem aW9 {T:V3->V3->V3->Rat}(hT:Cone T){p:Pl}(hn:p.n≠V3.zero){o:V3}(ho:p.height o=0){t:Tri}{P:V3}(hP:oO t.a (t.b.sub t.a) (t.c.sub t.a) P):
  tW (tip T o) (Tri.low ⟨P,t.b,t.c⟩ p)+tW (tip T o) (Tri.low ⟨t.a,P,t.c⟩ p)+tW (tip T o) (Tri.low ⟨t.a,t.b,P⟩ p)=tW (tip T o) (t.low p):=by
 obtain⟨B,hB,h0⟩:=exB p hP;have hz:¬(p.over t.a=p.over t.b/\p.over t.a=p.over t.c/\p.over t.a=p.over P)->∀X Y,p.height X=0->p.height Y=0->tip T o B X Y=0:=λh X Y hX hY=>hT.tip0 (aEw hn (h0 h) hX hY ho);have hU:=hT.tip o;have A:=aEr hU p B;rw[tL hU (oO.a t) (oO.b t) (oO.c t) hB λh=>hz λe=>h ⟨e.1,e.1.symm.trans e.2.1⟩,
  tL hU (t:=⟨P,t.b,t.c⟩) hP (oO.b t) (oO.c t) hB λh=>hz λe=>h ⟨e.2.2.symm.trans e.1,e.1.symm.trans e.2.1⟩,
  tL hU (t:=⟨t.a,P,t.c⟩) (oO.a t) hP (oO.c t) hB λh=>hz λe=>h ⟨e.2.2,e.2.2.symm.trans e.2.1⟩,
  tL hU (t:=⟨t.a,t.b,P⟩) (oO.a t) (oO.b t) hP hB λh=>hz λe=>h ⟨e.1,e.1.symm.trans e.2.2⟩]
 simp only[hJ];rw[A t.a P,A t.b P,A t.c P];grind
def lO (l:List Tri)(k:Nat)(t:Tri)(P:V3):List Tri:=(l.drop (k+1)).reverse++[⟨P,t.b,t.c⟩,⟨t.a,P,t.c⟩,⟨t.a,t.b,P⟩]++(l.take k).reverse
theorem aN1 {f:Tri->Rat}{l:List Tri}{k:Nat}{t:Tri}(hk:l[k]?=some t){P:V3}(hf:f ⟨P,t.b,t.c⟩+f ⟨t.a,P,t.c⟩+f ⟨t.a,t.b,P⟩=f t):dH f (lO l k t P)=dH f l:=by
 obtain⟨h1,h2⟩:=List.getElem?_eq_some_iff.1 hk;have h3:dH f l=dH f (l.take k)+(f t+dH f (l.drop (k+1))):=by
  conv=>lhs;rw[<-List.take_append_drop k l]
  rw[pP,List.drop_eq_getElem_cons h1,h2];rfl
 unfold lO;rw[pP,pP,aC1,aC1,h3];simp only[dH];grind
theorem aIt {l:List Tri}{k:Nat}{t:Tri}(hk:l[k]?=some t)(P:V3):fY (lO l k t P)=fY l:=by
 have e:∀ψ,aFf ψ->dH (hJ ψ) (lO l k t P)=dH (hJ ψ) l:=λψ hψ=>aN1 hk (by simp only[hJ];rw[hψ t.a P,hψ t.b P,hψ t.c P];grind)
 exact aK7 (λh ψ hψ=>(e ψ hψ).trans (h ψ hψ)) (λh ψ hψ=>(e ψ hψ).symm.trans (h ψ hψ))
theorem aAk {T:V3->V3->V3->Rat}(hT:Cone T){p:Pl}(hn:p.n≠V3.zero){l:List Tri}(hm:fY l=true){k:Nat}{t:Tri}(hk:l[k]?=some t){P:V3}(hP:oO t.a (t.b.sub t.a) (t.c.sub t.a) P):aDa T p (lO l k t P)=aDa T p l:=by
 obtain⟨o,ho⟩:=aS9 hn;rw[aMa hT hn hm ho,aMa hT hn (by rw[aIt hk];exact hm) ho];exact aN1 hk (aW9 hT hn ho hP)
theorem vQ {T:V3->V3->V3->Rat}{π:Ms->Rat}(h0:π Ms.none=0)(ha:∀m n,π (m.add n)=π m+π n)(hm:∀a b c,π (Tri.mass ⟨a,b,c⟩)=T a b c)(p:Pl)(l:List Tri):π (aU p l)=aDa T p l:=by
 have f1:∀(L:List V3) (s:Ms),π (fan L s)=π s+tW T L:=λL s=>by
  match L with
  | [] | [_] | [_,_] | _::_::_::_::_::_=>simp only[fan,tW];grind
  | [a,b,c]=>simp only[fan,tW];rw[ha,hm]
  | [a,b,c,d]=>simp only[fan,tW];rw[ha,ha,hm,hm];grind
 have f2:∀(l:List Tri) (s:Ms),π (aWc p l s)=π s+dH (λt=>tW T (t.low p)) l:=λl=>by
  unfold aWc;induction l with
  | nil=>intro s;simp only[List.foldl,dH];grind
  | cons t l ih=>intro s;rw[List.foldl_cons,ih,f1];simp only[dH];grind
 have f3:∀(o:V3) (l:List Seg) (s:Ms),π (l.foldl (λs g=>s.add (Tri.mass ⟨o,g.a,g.b⟩)) s)=π s+dH (λg=>T o g.a g.b) l:=λo l=>by
  induction l with
  | nil=>intro s;simp only[List.foldl,dH];grind
  | cons t l ih=>intro s;rw[List.foldl_cons,ih,ha,hm];simp only[dH];grind
 unfold aU bBk aDa;rw[f2,f3,h0];grind
theorem aXh (p:Pl)(l:List Tri):(aU p l).v=aDa aUt p l:=vQ (π:=Ms.v) rfl (λ_ _=>rfl) (λ_ _ _=>rfl) p l
theorem aXi (p:Pl)(l:List Tri):(aU p l).f.x=aDa (aDl V3.x) p l:=vQ (π:=λm=>m.f.x) rfl (λ_ _=>rfl) (λ_ _ _=>rfl) p l
theorem aXj (p:Pl)(l:List Tri):(aU p l).f.y=aDa (aDl V3.y) p l:=vQ (π:=λm=>m.f.y) rfl (λ_ _=>rfl) (λ_ _ _=>rfl) p l
theorem aXk (p:Pl)(l:List Tri):(aU p l).f.z=aDa (aDl V3.z) p l:=vQ (π:=λm=>m.f.z) rfl (λ_ _=>rfl) (λ_ _ _=>rfl) p l
theorem aN7 {p:Pl}(hn:p.n≠V3.zero){l:List Tri}(hm:fY l=true){k:Nat}{t:Tri}(hk:l[k]?=some t){P:V3}(hP:oO t.a (t.b.sub t.a) (t.c.sub t.a) P):
  (aU p (lO l k t P)).v=(aU p l).v/\(aU p (lO l k t P)).f=(aU p l).f:=by
 refine⟨by rw[aXh,aXh,aAk aRd hn hm hk hP],?_⟩;have h1:(aU p (lO l k t P)).f.x=(aU p l).f.x:=by rw[aXi,aXi,aAk aZc hn hm hk hP]
 have h2:(aU p (lO l k t P)).f.y=(aU p l).f.y:=by rw[aXj,aXj,aAk aZd hn hm hk hP]
 have h3:(aU p (lO l k t P)).f.z=(aU p l).f.z:=by rw[aXk,aXk,aAk aZe hn hm hk hP]
 cases hf:(aU p (lO l k t P)).f;cases hg:(aU p l).f;rw[hf,hg]at h1 h2 h3;cases h1;cases h2;cases h3;rfl
def V3.mir (v:V3):V3:=⟨v.x,-v.y,v.z⟩
def Tri.mir (t:Tri):Tri:=⟨t.a.mir,t.c.mir,t.b.mir⟩
def Pl.mir (p:Pl):Pl:=⟨p.n.mir,p.a⟩
structure Flip (T:V3->V3->V3->Rat)(σ:Rat):Prop where
 f:∀a b c,T a.mir b.mir c.mir=-(σ*T a b c)
theorem Flip.tip {T:V3->V3->V3->Rat}{σ:Rat}(h:Flip T σ)(o:V3)(a b c:V3):tip T o.mir a.mir b.mir c.mir=-(σ*tip T o a b c):=by
 unfold Ai.tip;rw[h.f,h.f,h.f,h.f];grind
def At.mir (a:At):At:=⟨-a.h,a.t⟩
end Go.Ai
namespace Go.Ai
open Go Go.Proofs Go.Num V3
theorem aBb:aB PP 24:=zK
theorem wF {r:Raw}{e:Int}(hr:r.errs e)(hL:r.L.length=9*r.N){X:Nat->Prop}{w:World}{v:Value}(hX:∀b,X b->b<w.heap.size)(hv:(rowS r.N r.L).p v X w):
  Fn PP 24 [v,r.attV,.string r.d] X w (dN (.tuple #[.agg #[.string ⟨#[]⟩,.string ⟨#[]⟩,.string ⟨#[]⟩],.int .i64 e])):=by
 have kw:∀{X:Nat->Prop} {w:World} {v:Value},(∀b,X b->b<w.heap.size)->(rowS r.N r.L).p v X w->Fn PP 60 [v,r.attV,.string r.d] X w (dN (.tuple #[.agg #[.string ⟨#[]⟩,.string ⟨#[]⟩,.string ⟨#[]⟩,.string ⟨#[]⟩,.string ⟨#[]⟩,.string ⟨#[]⟩,.string ⟨#[]⟩,.string ⟨#[]⟩,.string ⟨#[]⟩,.string ⟨#[]⟩],.int .i64 e])):=λhX hv=>aBy hr hL hX hv
 obtain⟨R,hRR⟩:=nm (dN (.tuple #[.agg #[.string ⟨#[]⟩,.string ⟨#[]⟩,.string ⟨#[]⟩],.int .i64 e]));rw[<-hRR];unfold Raw.attV at *;obtain⟨RS,hRS⟩:=nm (rowS r.N r.L);rw[<-hRS]at hv kw;obtain⟨K,hK⟩:=nm ([KF.cst v RS]);refine bE mixed tok [.q v,.g [.s (.v r.h),.s (.v r.t)],.s (.v r.d)] (K:=K) Tryz.func24 rfl rfl (lbl rfl) rfl hX (by rw[hK];simp;exact hv) λc hc hR=>?_;apply zN hc;cbv;refine bK hc (.t [.g [.s (.v ⟨#[]⟩),.s (.v ⟨#[]⟩),.s (.v ⟨#[]⟩),.s (.v ⟨#[]⟩),.s (.v ⟨#[]⟩),.s (.v ⟨#[]⟩),.s (.v ⟨#[]⟩),.s (.v ⟨#[]⟩),.s (.v ⟨#[]⟩),.s (.v ⟨#[]⟩)],.i .i64 (.v e)]) rN (λn0 D X μ a w aK H hv=>?_) 100 ?_
 ·obtain⟨u1,u2,u3,rfl,e1,e2,e3⟩:=eS hv;rw[cL e1,show u2=_ from(Option.some.inj e2).symm,show u3=_ from(Option.some.inj e3).symm];exact kw H.xlt (H.cst (by rw[hK];exact .head _))
 cbv;refine aR hc hR rfl (λX μ a w v' H hv'=>?_);rw[hRR];simp only[aD,aF]at hv';injection hv' with hv'
 exact hv'.symm
theorem zF {r:Raw}{l:List Tri}{p:Pl}(hg:r.good l p)(hp:p.fit (2^9))(hl:∀t,t∈l->t.le (2^9))(hN:r.N<=32)(hL:r.L.length=9*r.N){X:Nat->Prop}{w:World}{v:Value}(hX:∀b,X b->b<w.heap.size)(hv:(rowS r.N r.L).p v X w):
  Fn PP 24 [v,r.attV,.string r.d] X w (dN (.tuple #[gE (aU p l).f,.int .i64 0])):=by
 have kw:∀{X:Nat->Prop} {w:World} {v:Value},(∀b,X b->b<w.heap.size)->(rowS r.N r.L).p v X w->Fn PP 60 [v,r.attV,.string r.d] X w (dN (.tuple #[pK (aU p l),.int .i64 0])):=λhX hv=>yB hg hp hl hN hL hX hv
 clear hg hp;unfold pK at kw;obtain⟨R,hRR⟩:=nm (dN (.tuple #[gE (aU p l).f,.int .i64 0]));rw[<-hRR];unfold gE lE at hRR;unfold Raw.attV at *;obtain⟨RS,hRS⟩:=nm (rowS r.N r.L);rw[<-hRS]at hv kw;obtain⟨K,hK⟩:=nm ([KF.cst v RS]);generalize aA (aU p l).v=m0,aA (aU p l).f.x=m1,aA (aU p l).f.y=m2,aA (aU p l).f.z=m3,aA (aU p l).xx=m4,aA (aU p l).yy=m5,aA (aU p l).zz=m6,aA (aU p l).xy=m7,aA (aU p l).yz=m8,aA (aU p l).zx=m9 at *;refine bE mixed tok [.q v,.g [.s (.v r.h),.s (.v r.t)],.s (.v r.d)] (K:=K) Tryz.func24 rfl rfl (lbl rfl) rfl hX (by rw[hK];simp;exact hv) λc hc hR=>?_;apply zN hc;cbv;refine bK hc (.t [.g [.s (.v m0),.s (.v m1),.s (.v m2),.s (.v m3),.s (.v m4),.s (.v m5),.s (.v m6),.s (.v m7),.s (.v m8),.s (.v m9)],.i .i64 (.l 0)]) rN (λn0 D X μ a w aK H hv=>?_) 100 ?_
 ·obtain⟨u1,u2,u3,rfl,e1,e2,e3⟩:=eS hv;rw[cL e1,show u2=_ from(Option.some.inj e2).symm,show u3=_ from(Option.some.inj e3).symm];exact kw H.xlt (H.cst (by rw[hK];exact .head _))
 cbv;refine aR hc hR rfl (λX μ a w v' H hv'=>?_);rw[hRR];simp only[aD,aF]at hv';injection hv' with hv'
 exact hv'.symm
theorem aWe {n:Nat}{L:List ByteArray}(h:L.length=9*(n+1)):∃a1 a2 a3 b1 b2 b3 d1 d2 d3 M,L=a1::a2::a3::b1::b2::b3::d1::d2::d3::M/\M.length=9*n:=by
 obtain⟨a1,L1,rfl,h1⟩:=fD (n:=9*n+8) zW;obtain⟨a2,L2,rfl,h2⟩:=fD h1;obtain⟨a3,L3,rfl,h3⟩:=fD h2;obtain⟨b1,L4,rfl,h4⟩:=fD h3;obtain⟨b2,L5,rfl,h5⟩:=fD h4;obtain⟨b3,L6,rfl,h6⟩:=fD h5;obtain⟨d1,L7,rfl,h7⟩:=fD h6;obtain⟨d2,L8,rfl,h8⟩:=fD h7;obtain⟨d3,L9,rfl,h9⟩:=fD h8;exact⟨_,_,_,_,_,_,_,_,_,_,rfl,h9⟩
inductive Twin (r r':Raw):Prop
 | bad (e:Int):r.errs e->r'.errs e->Twin r r'
 | ok (l:List Tri) (p:Pl):r.good l p->r'.good (l.map Tri.mir) p.mir->p.fit (2^9)->p.mir.fit (2^9)->(∀t,t∈l->t.le (2^9))->(∀t,t∈l.map Tri.mir->t.le (2^9))->l.length<=24->Twin r r'
end Go.Ai
namespace Go.Ai
open Go Go.Proofs Go.Num V3
def aWg (b:Bool)(R:VF):VF where
 p v X w:=∃s,v=.tuple #[s,.bool b]/\R.p s X w
 st v X X' w w' hs hw h:=by
  obtain⟨s,h1,h2⟩:=h;exact⟨s,h1,R.st s X X' w w' hs hw h2⟩
section
variable {c:Cx}{K:List KF}{S:St}
theorem bEg {ks:List KI}(d k:Nat){b:Bool}{R R':VF}(hp:iJ ks=true)(hl:look S.sl d=some (.e k))(hf:KF.at k R∈K)(hR:R=aWg b R')
  (h:∀s,Goal c (KF.cst s R'::K) ⟨ks,{S with sl:=(d,.t [.q s,.b (.l b)])::S.sl},[]⟩):Goal c K ⟨ks,S,[]⟩:=by
 refine fT (ι:=Value) (K':=λz=>KF.cst z R'::K) (S':=λz=>{S with sl:=(d,.t [.q z,.b (.l b)])::S.sl}) (p:=λ_=>True) hp (λX μ a w H=>?_) (λz _=>h z);obtain⟨v,h1,h2⟩:=H.toP.slots d _ trivial hl;have h3:=H.toP.val hf h1;rw[hR]at h3;obtain⟨s,rfl,h4⟩:=h3;exact⟨s,X,μ,trivial,lC (S:={S with sl:=(d,.t [.q s,.b (.l b)])::S.sl}) (f:=KF.cst s R') (iL H hl (by rw[h1];rfl)) h4⟩
end
structure MirI where
 x:Nat
 a:Option Addr
 c:Nat
end Go.Ai
namespace Go.Ai
open Go Go.Proofs Go.Num V3
structure RetV (r:Raw)(tv fx fy fz:ByteArray)(e:Int):Prop where
 vol:∀{X:Nat->Prop} {w:World} {v:Value},(∀b,X b->b<w.heap.size)->(rowS r.N r.L).p v X w->Fn PP 19 [v,r.attV,.string r.d] X w (dN (.tuple #[.string tv,.int .i64 e]))
 mom:∀{X:Nat->Prop} {w:World} {v:Value},(∀b,X b->b<w.heap.size)->(rowS r.N r.L).p v X w->Fn PP 24 [v,r.attV,.string r.d] X w (dN (.tuple #[.agg #[.string fx,.string fy,.string fz],.int .i64 e]))
theorem aRl {l:List Tri}{N k:Nat}{t:Tri}{P:V3}{hh tt d:ByteArray}(hl:∀t,t∈l->t.le 40)(hN:l.length=N)(hN0:N≠0)(bCj:N<=24)(hk:l[k]?=some t)(hP:oO t.a (t.b.sub t.a) (t.c.sub t.a) P)(hPl:P.le 512)(sh1:sh hh=true)(sh2:sh tt=true)(sh3:sh d=true):
  ∃tv e fx fy fz,RetV ⟨dR l,N,hh,tt,d⟩ tv fx fy fz e/\RetV ⟨dR (lO l k t P),N+2,hh,tt,d⟩ tv fx fy fz e:=by
 have hm:∀m,512<=m->∀t,t∈l->t.le m:=λm hm t ht=>⟨(hl t ht).1.mono zW,(hl t ht).2.1.mono zW,(hl t ht).2.2.mono zW⟩
 have ht:=List.mem_of_getElem? hk
 have hd:∀m,512<=m->∀u,u∈lO l k t P->u.le m:=λm h u hu=>by
  have h1:=hm m h t ht
  have h2:=hPl.mono h
  unfold lO at hu;rcases List.mem_append.1 hu with hu | hu
  ·rcases List.mem_append.1 hu with hu | hu
   ·exact hm m h u (List.mem_of_mem_drop (List.mem_reverse.1 hu))
   ·simp only[List.mem_cons,List.not_mem_nil,or_false]at hu;rcases hu with rfl | rfl | rfl
    ·exact⟨h2,h1.2.1,h1.2.2⟩
    ·exact⟨h1.1,h2,h1.2.2⟩
    ·exact⟨h1.1,h1.2.1,h2⟩
  ·exact hm m h u (List.mem_of_mem_take (List.mem_reverse.1 hu))
 have hkl:=(List.getElem?_eq_some_iff.1 hk).1
 have hdl:(lO l k t P).length=N+2:=by
  unfold lO;simp only[List.length_append,List.length_reverse,List.length_drop,List.length_take,List.length_cons,List.length_nil];omega
 have s1:cD N=0:=by unfold cD;rw[if_neg hN0,if_neg zW]
 have s2:cD (N+2)=0:=by unfold cD;rw[if_neg zW,if_neg zW]
 have z1:=aLv (k:=512) zV (hm _ zV)
 have z2:=aLv (k:=512) zV (hd _ zV)
 have L1:(Raw.L ⟨dR l,N,hh,tt,d⟩).length=9*N:=by show(dR l).length=_;rw[fM,hN]
 have L2:(Raw.L ⟨dR (lO l k t P),N+2,hh,tt,d⟩).length=9*(N+2):=by show(dR _).length=_;rw[fM,hdl]
 have bad:∀e,Raw.errs ⟨dR l,N,hh,tt,d⟩ e->Raw.errs ⟨dR (lO l k t P),N+2,hh,tt,d⟩ e->∃tv e fx fy fz,RetV ⟨dR l,N,hh,tt,d⟩ tv fx fy fz e/\RetV ⟨dR (lO l k t P),N+2,hh,tt,d⟩ tv fx fy fz e:=λe h1 h2=>
  ⟨_,e,_,_,_,⟨λhX hv=>zH h1 L1 hX hv,λhX hv=>wF h1 L1 hX hv⟩,⟨λhX hv=>zH h2 L2 hX hv,λhX hv=>wF h2 L2 hX hv⟩⟩
 have y1:=tS sh1
 have y2:=tS sh2
 have y3:=tS sh3
 cases hq:(gQ hh&&gQ tt&&gQ d)with
 | false=>
  have kw:=aL1 (h:=hh) (t:=tt) (d:=d) zW zW zW hq
  exact bad 1 (.att 1 s1 (jR _) z1 zV kw) (.att 1 s2 (jR _) z2 zV kw)
 | true=>
  simp only[Bool.and_eq_true]at hq;obtain⟨qh,rfl,x1⟩:=lA hq.1.1 sh1;obtain⟨qt,rfl,x2⟩:=lA hq.1.2 sh2;obtain⟨qd,rfl,x3⟩:=lA hq.2 sh3;have kw:=aUa (a:=⟨qh,qt⟩) (d:=qd) ⟨by show sz qh<=_;omega,by show sz qt<=_;omega⟩ zW;cases ho:At.ok ⟨qh,qt⟩with
  | false=>
   rw[ho,if_neg zV]at kw;exact bad 2 (.att 2 s1 (jR _) z1 zV kw) (.att 2 s2 (jR _) z2 zV kw)
  | true=>
   rw[ho,if_pos rfl]at kw;have hmd:=aIt hk P;cases hmo:fY l with
   | false=>exact bad 17 (.op l _ s1 (jR _) z1 rfl (hm _ zV) kw hmo) (.op _ _ s2 (jR _) z2 rfl (hd _ zV) kw (hmd.trans hmo))
   | true=>
    have f1:(At.water ⟨qh,qt⟩ qd).fit (2^9):=⟨At.up_ne ho,(At.le_up (a:=⟨qh,qt⟩) (k:=40) ⟨x1,x2⟩).mono zV,by show sz qd<=_;omega⟩
    obtain⟨ev,ef⟩:=aN7 f1.h0 hmo hk hP;have g1:Raw.good ⟨dR l,N,aA qh,aA qt,aA qd⟩ l _:=⟨s1,jR _,z1,rfl,hm _ zV,kw,hmo⟩;have g2:Raw.good ⟨dR (lO l k t P),N+2,aA qh,aA qt,aA qd⟩ (lO l k t P) _:=⟨s2,jR _,z2,rfl,hd _ zV,kw,hmd.trans hmo⟩;refine⟨_,0,_,_,_,⟨λhX hv=>uT g1 f1 (hm _ zV) (by show N<=32;omega) L1 hX hv,λhX hv=>zF g1 f1 (hm _ zV) (by show N<=32;omega) L1 hX hv⟩,⟨λ{X w v} hX hv=>?_,λ{X w v} hX hv=>?_⟩⟩
    ·have:=uT g2 f1 (hd _ zV) (by show N+2<=32;omega) L2 hX hv
     rwa [ev]at this
    ·have:=zF g2 f1 (hd _ zV) (by show N+2<=32;omega) L2 hX hv
     rwa [ef]at this
end Go.Ai
