/- Part 24: lemmas for the particulars laws -/
import Derived.Test.YtafimpgfbgigeaaGreatDoorPh22
set_option linter.all false
namespace Go.Ai
open Go Go.RowKit
def jQ (l:Nat):Value:=.func (.yield l) #[] #[]
def aAi (D:Nat):Deferred:={target:=.collected D,args:=#[]}
def OF.lp (l:Nat)(tm:Array Value)(ps:Array Tmp)(zas bd:Code)(D:Nat)(st:LoopState):OF where
 F _ b:=b=l
 p _ w:=∃fn,w.heap[l]?=some (.loop {state:=st,pending:=none,fn,tmps:=tm,params:=ps,assign:=zas,body:=bd,defers:=D})
 st _ _ w w' _ hk h:=⟨by obtain⟨fn,h⟩:=h;exact⟨fn,by rw[hk l rfl];exact h⟩,λ_=>Iff.rfl⟩
def OF.dd (D:Nat):OF where
 F _ b:=b=D
 p _ w:=w.heap[D]?=some (.deferred (some []))
 st _ _ w w' _ hk h:=⟨by rw[hk D rfl];exact h,λ_=>Iff.rfl⟩
def OF.any (D:Nat):OF where
 F _ b:=b=D
 p _ _:=True
 st _ _ _ _ _ _ h:=⟨h,λ_=>Iff.rfl⟩
theorem OFr.lp (n l:Nat)(tm:Array Value)(ps:Array Tmp)(zas bd:Code)(D:Nat)(st:LoopState):OFr n (OF.lp l tm ps zas bd D st):=⟨λ_ _ h=>⟨h,λ_ h=>h⟩⟩
theorem OFr.dd (n D:Nat):OFr n (OF.dd D):=⟨λ_ _ h=>⟨h,λ_ h=>h⟩⟩
section
variable {c:Cx}{P:Program}{ty:Nat->Option TyI}{nt:Nat}{K:List KF}{S:St}{X:Nat->Prop}{μ:Mu}{a:Act}{w:World}
def bDl (c:Cx)(fn:Func)(R:Value->World->Prop):Prop:=
 c.R=λa w=>LeavesInM Fence.wide 0 c.P fn a.tmps (λe w'=>∃v,e=.returned v/\R v w') a.defers .returning w
structure RetM (c:Cx)(fn:Func)(R:VF):Prop where
 rd:c.rd=none
 df:c.df=[]
 out:bDl c fn λv w'=>∃X',Below c.B.heap.size c.B w'/\(∀b,c.X0 b->X' b)/\(∀b,X' b->c.X0 b\/(c.B.heap.size<=b/\b<w'.heap.size))/\R.p v X' w'
theorem bAy {g:Nat}{fn:Func}{code:Code}{args:List Value}{avs:List AV}{B:World}{X0:Nat->Prop}{R:Value->World->Prop}
  (tok:∀t i,ty t=some i->TyOk P t i) (hf:P.funcs[g]?=some fn) (hb:fn.body=some code) (hn:args.length<=fn.ntmps) (ha:aF hJ avs=some args) (hgl:Glob P B) (hx:∀b,X0 b->b<B.heap.size) (hk:∀f,f∈K->f.p X0 hJ B)
  (h:∀c:Cx,c.P=P->c.ty=ty->c.nt=fn.ntmps->c.B=B->c.X0=X0->c.rd=none->c.df=[]->bDl c fn R->bH c K [.code code] ⟨oY 0 avs,[],[]⟩):
  Calls P g args.toArray B λe w'=>∃v,e=.returned v/\R v w':=by
 refine(callsIn_wide (n:=0)).1 (callsIn_of_wp_marks hf hb trivial ?_ rfl);have:=h ⟨P,ty,tok,fn.ntmps,B,X0,hgl,λa w=>LeavesInM Fence.wide 0 P fn a.tmps (λe w'=>∃v,e=.returned v/\R v w') a.defers .returning w,none,[]⟩ rfl rfl rfl rfl rfl rfl rfl rfl X0 hJ {tmps:=args.toArray++Array.replicate (fn.ntmps - args.length) undef,defers:=[]} B
  ⟨⟨rfl,by simp;omega,?_,?_,?_,?_,?_,hx,λb h=>.inl h,λb h=>h,Below.refl _ _,hk,OwnOk.nil _ _ _ _⟩,λ_ _=>rfl⟩
 ·simp only[aO]at this;change Code.wpIn Fence.wide 0 P code _ _ B at this;refine wpIn_mono (by simpa using this) λe a w hq=>?_;cases e<;>simp only[aO]at hq
  ·exact hq
  ·exact hq
 ·intro t av _ hl;obtain⟨_,h1⟩:=nZ _ _ _ _ hl;obtain⟨v,h2,h3⟩:=iF ha t av (by simpa using h1);refine⟨v,h3,?_⟩;have hlt:=(List.getElem?_eq_some_iff.1 h2).1;simp only[List.append_toArray,Array.getElem?_append,List.size_toArray];rw[if_pos hlt];simpa using h2
 ·intro k blk b hk;simp at hk
 ·intro k hk;simp at hk
 ·intro k k' b h1;cases h1
 ·intro k b h1;cases h1
theorem aW2 (hm:P.follows .mixedOrders=true)(tok:∀t i,ty t=some i->TyOk P t i){g:Nat}{fn:Func}{code:Code}{args:List Value}(avs:List AV){X:Nat->Prop}{w:World}{R:VF}
  (hf:P.funcs[g]?=some fn) (hb:fn.body=some code) (ha:aF hJ avs=some args) (hn:args.length<=fn.ntmps) (hnt:fn.ntmps=nt) (hx:∀b,X b->b<w.heap.size) (hk:∀f,f∈K->f.p X hJ w)
  (h:∀(c:Cx),Ctx c P ty nt->RetM c fn R->Goal c K ⟨[.code code],⟨oY 0 avs,[],[]⟩,[]⟩):Fn P g args X w R:=by
 intro hgl;refine Calls.mono (bAy tok hf hb hn ha hgl (K:=K) (X0:=X) (R:=λv w'=>∃X',Below w.heap.size w w'/\(∀b,X b->X' b)/\(∀b,X' b->X b\/(w.heap.size<=b/\b<w'.heap.size))/\R.p v X' w') hx hk λc h1 h2 h3 h4 h5 h6 h7 h8=>?_) ?_
 ·subst h4;subst h5;exact(h c ⟨h1,h2,h3.trans hnt,hm⟩ ⟨h6,h7,h8⟩).so
 ·rintro e w' ⟨v,rfl,X',h1,h2,h3,h4⟩;exact⟨v,X',rfl,h1,h2,h3,h4⟩
def Cx.mark (c:Cx)(D:Nat):Cx:={c with df:=[aAi D]}
theorem Ctx.mark (hc:Ctx c P ty nt)(D:Nat):Ctx (c.mark D) P ty nt:=⟨hc.hP,hc.hty,hc.hnt,hc.hm⟩
theorem aKt (S:St)(ow:List OF):∀l,aH7 ty {S with ow:=ow} l=aH7 ty S l
 | []=>rfl
 | r::l=>by
  unfold aH7;rw[aKt S ow l];have:aX3 ty {S with ow:=ow} r=aX3 ty S r:=by cases r<;>rfl
  rw[this]
theorem bCu (hc:Ctx c P ty nt){D:Nat}{fn:Func}{R:VF}(hR:RetM c fn R){av:AV}(pre:List OF){post:List OF}{DD:Nat->OF}(hDD:∀d,DD d=OF.dd d)(how:S.ow=pre++DD D::post)(h:nC ty S fn.results.toList=some av)
  (hr:∀X μ a w v,Sim (c.mark D) K {S with ow:=pre++OF.any D::post} X μ a w->aD μ av=some v->R.p v X w):Goal (c.mark D) K ⟨[],S,[]⟩:=by
 refine .mk0 (λX μ a w H=>?_);rw[hDD]at how;simp only[aO];rw[show(c.mark D).R=c.R from rfl,hR.out];have hdf:a.defers=[aAi D]:=H.toP.dfr;show LeavesInM Fence.wide 0 c.P fn a.tmps _ a.defers .returning w
 rw[hdf];have hD:w.heap[D]?=some (.deferred (some [])):=(H.toP.own.at_ (OF.dd D) (by rw[how];simp)).1;have H1:Sim (c.mark D) K {S with ow:=pre++OF.any D::post} X μ a (w.putObj D (.deferred none)):=
  wM (f:=OF.dd D) (f':=OF.any D) (r:=D) H how (λj=>Iff.rfl) (λj=>Iff.rfl) trivial rfl rfl rfl zA (λj hj=>World.putObj_heap_other hj)
 have hty:(c.mark D).ty=ty:=hc.hty
 obtain⟨v,h1,h2⟩:=aB3 H1 (fn:=fn) (av:=av) (by rw[hty];unfold nC at h |-;rw[aKt];exact h);refine⟨λe=>(by cases e),.inl ⟨D,w.putObj D (.deferred none),rfl,run_takeDeferred hD,?_⟩⟩;refine⟨v,h2,v,rfl,X,H1.toP.bel,H1.toP.xold,λb hb=>(H1.toP.xnew b hb).imp id (λh=>⟨h,H1.toP.xlt b hb⟩),hr X μ a _ v H1 h1⟩
structure LinkY (c c1:Cx)(fn1:Func)(l D:Nat)(ps:Array Tmp)(zas bd:Code)(k:List KI)(tm:Array Value):Prop where
 out:∃(a:Act),a.tmps=tm/\a.defers=[]/\tm.size=c.nt/\c1.df=[]/\c1.R=aFq c.P fn1 (λv w'=>∃jump w4,(Instr.endLoop l).run c.P w'=.ok jump w4/\jump=none/\aO c.F c.P c.R k .normal {a with defers:=[aAi D]} w4)
 B:c1.B=c.B
 X0:c1.X0=c.X0
 P:c1.P=c.P
 ty:c1.ty=c.ty
 ne:l≠D
theorem aVf (hc:Ctx c P ty nt)(hrd:c.rd=none)(hdf:c.df=[]){g:Operand}{ps:Array Tmp}{zas bd:Code}{k:List KI}{gf:Nat}{cap:List AV}(hg:fW S.sl g=some (.f (.func gf) [] cap)){fn1:Func}{code:Code}{nt1:Nat}
  (hf:P.funcs[gf]?=some fn1) (hb:fn1.body=some code) (hn:Nat.ble (cap.length+1) fn1.ntmps=true) (aTn:aB P gf) (hnt:fn1.ntmps=nt1)
  (h:∀c1 tm FR l D,∀LP:Nat->Array Value->Nat->LoopState->OF,∀DD:Nat->OF,(∀l tm D st,LP l tm D st=OF.lp l tm ps zas bd D st)->(∀d,DD d=OF.dd d)->FR=KF.fr S.sl tm->c1.rd=none->Ctx c1 P ty nt1->LinkY c c1 fn1 l D ps zas bd k tm->
   Goal c1 (FR::K) ⟨[.code code],⟨oY 0 (.o (jQ l)::cap),S.hp,LP l tm D .ready::DD D::S.ow⟩,[]⟩):Goal c K ⟨.code (.rangeFunc g ps zas bd)::k,S,[]⟩:=by
 subst hnt;refine .mk0 (λX μ a w H=>?_);have P':=H.toP;have ev:=aH P' hg (λ_ _=>trivial);obtain⟨us,vs,e0,e1,e2⟩:=aHf ev;simp only[aF]at e0;injection e0 with e0;subst e0
 simp only[aO];have hF:c.F=Fence.wide:=by unfold Cx.F;rw[hrd];rfl
 rw[hF];refine wpIn_rangeFunc (λfn _=>?_);let W1:World:=(w.alloc (.deferred (some []))).alloc (.loop {state:=.ready,pending:=none,fn,tmps:=a.tmps,params:=ps,assign:=zas,body:=bd,defers:=w.heap.size});let l:=w.heap.size+1;let D:=w.heap.size;obtain⟨fnr,q1,q2,q3⟩:=aTn.out;have q2':¬fnr.name= "runtime.NumGoroutine":=by simpa using q2
 have q3':¬fnr.body=none:=by intro e;rw[e]at q3;cases q3
 have eg:∀args w,(callFunc gf args).run c.P w=.ok (.enter gf args) w:=λargs w=>by
  rw[hc.hP];simp[callFunc,q1,q2',q3']
 have bEe:a.defers=[]:=P'.dfr.trans hdf
 refine⟨l,[aAi D],W1,{target:=.fn (.func gf) vs.toArray,args:=#[jQ l]},W1,gf,#[jQ l]++vs.toArray,W1,run_enterLoop_outer _ _ _ _ _,?_,λ_ _=>trivial,?_,λe=>(by cases e),(callsIn_wide (n:=0)).2 ?_⟩
 ·simp[resolve,rangeCall,e2,Deferred.ofValue,jQ];rfl
 ·simp[invoke,eg]
 let RR:Value->World->Prop:=λv w'=>∃jump w4,(Instr.endLoop l).run c.P w'=.ok jump w4/\jump=none/\aO c.F c.P c.R k .normal {a with defers:=[aAi D]} w4
 let c1:Cx:=⟨c.P,c.ty,c.tok,fn1.ntmps,c.B,c.X0,c.gB,aFq c.P fn1 RR,none,[]⟩
 have hL:LinkY c c1 fn1 l D ps zas bd k a.tmps:=⟨⟨a,rfl,bEe,P'.size,rfl,rfl⟩,rfl,rfl,rfl,rfl,by show w.heap.size+1≠w.heap.size;omega⟩
 have G:=(h c1 a.tmps _ l D (λl tm D st=>OF.lp l tm ps zas bd D st) OF.dd (λ_ _ _ _=>rfl) (λ_=>rfl) rfl rfl ⟨hc.hP,hc.hty,rfl,hc.hm⟩ hL).so
 have H0:=uU (f':=OF.dd D) (o:=.deferred (some [])) H (λj=>Iff.rfl) (by show(w.alloc _).heap[w.heap.size]?=_;exact heap_alloc_new w _)
 have hs1:(w.alloc (.deferred (some []))).heap.size=l:=by show(w.heap.push _).size=_;simp;rfl
 have H1:=uU (f':=OF.lp l a.tmps ps zas bd D .ready) (o:=.loop {state:=.ready,pending:=none,fn,tmps:=a.tmps,params:=ps,assign:=zas,body:=bd,defers:=w.heap.size}) H0 (λj=>by rw[hs1];exact Iff.rfl) (by
  refine⟨fn,?_⟩;rw[<-hs1];exact heap_alloc_new _ _)
 have P1:=H1.toP
 have aYw:aF μ (.o (jQ l)::cap)=some (jQ l::vs):=by
  simp only[aF,aD,e1];rfl
 have hlen:=bC aYw
 have bJh:=lbl hn
 have GG:=G X μ {tmps:=(jQ l::vs).toArray++Array.replicate (fn1.ntmps - (jQ l::vs).length) undef,defers:=[]} W1
  ⟨⟨rfl,by show((jQ l::vs).toArray++Array.replicate (fn1.ntmps - (jQ l::vs).length) undef).size=fn1.ntmps;simp at hlen |-;omega,?_,P1.heap,P1.all,P1.inj,P1.loc,P1.xlt,P1.xnew,P1.xold,P1.bel,λf hf=>?_,P1.own⟩,H1.dom⟩
 ·have bEl:fn1.body=some code:=hb
  refine Calls.mono (calls_of_wp (hc.hP▸hf) bEl (args:=#[jQ l]++vs.toArray) (R:=λe w''=>∃v,e=.returned v/\RR v w'') ((wpIn_wide (n:=0)).1 ?_)) (λe w'' he=>?_)
  ·have e3:(#[jQ l]++vs.toArray)=(jQ l::vs).toArray:=by apply Array.ext';simp
   rw[e3,show(jQ l::vs).toArray.size=(jQ l::vs).length by simp];refine wpIn_mono GG λe a' w' hq=>?_;cases e<;>simp only[aO]at hq
   ·obtain⟨q1,v,q2,q3⟩:=hq;exact⟨q1,v,q2,v,rfl,q3⟩
   ·obtain⟨q1,v,q2,q3⟩:=hq;exact⟨q1,v,q2,v,rfl,q3⟩
  ·obtain⟨v,rfl,jump,w4,r1,r2,r3⟩:=he;subst r2;refine⟨none,w4,r1,?_⟩;rw[hF]at r3;rw[bEe];exact r3
 ·intro t av _ hl;obtain⟨_,e1'⟩:=nZ _ _ _ _ hl;obtain⟨v,e2',e3⟩:=iF aYw t av (by simpa using e1');refine⟨v,e3,?_⟩;have hlt:=(List.getElem?_eq_some_iff.1 e2').1;simp only[Array.getElem?_append,List.size_toArray];rw[if_pos hlt];simpa using e2'
 ·rcases List.mem_cons.1 hf with e | e
  ·subst e;exact λt av hl=>P1.slots t av trivial hl
  ·exact P1.kf f e
theorem bCw {c1:Cx}{K':List KF}{nt1:Nat}(hc1:Ctx c1 P ty nt1){fn1:Func}{l D:Nat}{ps:Array Tmp}{zas bd:Code}{k:List KI}{tm:Array Value}(L:LinkY c c1 fn1 l D ps zas bd k tm){sl:List (Nat × AV)}{FR:KF}(hFR:FR=KF.fr sl tm)(hm:FR∈K')
  {LP:Nat->Array Value->Nat->LoopState->OF} (hLP:∀l tm D st,LP l tm D st=OF.lp l tm ps zas bd D st) {S1:St} (pre:List OF) {post:List OF} (how:S1.ow=pre++LP l tm D .ready::post) {av:AV}
  (h:nC ty S1 fn1.results.toList=some av) (aOw:Goal (c.mark D) K' ⟨k,⟨sl,S1.hp,pre++OF.any l::post⟩,[]⟩) (hk:jT k=true):Goal c1 K' ⟨[],S1,[]⟩:=by
 obtain⟨a,ha,hdf,hsz,bHa,hR⟩:=L.out;refine .mk0 (λX μ a' w H=>?_);have P':=H.toP;simp only[aO];rw[hR];obtain⟨v,e1,e2⟩:=aB3 H (av:=av) (by rw[hc1.hty];exact h);rw[L.P]at e2;rw[hLP]at how;obtain⟨fn,hlp⟩:∃fn,w.heap[l]?=some (.loop {state:=.ready,pending:=none,fn,tmps:=tm,params:=ps,assign:=zas,body:=bd,defers:=D}):=(P'.own.at_ (OF.lp l tm ps zas bd D .ready) (by rw[how];simp)).1;refine⟨P'.dfr.trans bHa,v,e2,none,_,run_endLoop hlp zA,rfl,?_⟩;have H1:=wM (f:=OF.lp l tm ps zas bd D .ready) (f':=OF.any l) (r:=l) H how (λj=>Iff.rfl) (λj=>Iff.rfl) trivial rfl rfl rfl zA (λj hj=>World.putObj_heap_other hj) (w':=w.putObj l (.loop {state:=.exhausted,pending:=none,fn,tmps:=tm,params:=ps,assign:=zas,body:=bd,defers:=D}));have P1:=H1.toP;have hfr:∀t av,look sl t=some av->∃v,aD μ av=some v/\tm[t]?=some v:=by have:=P'.kf FR hm;rw[hFR]at this;exact this
 refine oO hk aOw X μ {a with defers:=[aAi D]} _ ⟨⟨rfl,by show a.tmps.size=c.nt;rw[ha];exact hsz,?_,P1.heap,P1.all,P1.inj,?_,P1.xlt,?_,?_,?_,P1.kf,?_⟩,H1.dom⟩
 ·intro t b _ hl;obtain⟨u,h1,h2⟩:=hfr t b hl;exact⟨u,h1,by show a.tmps[t]?=some u;rw[ha];exact h2⟩
 ·intro k' b hk';have:=P1.loc k' b hk';rw[L.B]at this;exact this
 ·intro b hb;have:=P1.xnew b hb;rw[L.X0,L.B]at this;exact this
 ·intro b hb;exact P1.xold b (by rw[L.X0];exact hb)
 ·have:=P1.bel;rw[L.B]at this;exact this
 ·have:=P1.own;rw[L.B]at this;exact this
def aGk:List (Nat × AV)->List Nat->List AV->List (Nat × AV)
 | sl,p::ps,x::xs=>aGk ((p,x)::sl) ps xs
 | sl,_,_=>sl
def lS:Array Value->List Nat->List Value->Array Value
 | tm,p::ps,x::xs=>lS (tm.setIfInBounds p x) ps xs
 | tm,_,_=>tm
theorem aK2:∀(ps:List Nat) (xs:List Value) (tm:Array Value),lS tm ps xs=(ps.zip xs).foldl (λtmps (t,a)=>tmps.setIfInBounds t a) tm
 | [],_,tm=>by simp[lS]
 | _::_,[],tm=>by simp[lS]
 | p::ps,x::xs,tm=>by simp only[lS,List.zip_cons_cons,List.foldl_cons];exact aK2 ps xs _
theorem aD7:∀(ps:List Nat) (xs:List Value) (tm:Array Value),(lS tm ps xs).size=tm.size
 | [],_,tm=>by simp[lS]
 | _::_,[],tm=>by simp[lS]
 | p::ps,x::xs,tm=>by simp only[lS];rw[aD7];simp
theorem aVk {μ:Mu}:∀(ps:List Nat) (avs:List AV) (aK:List Value) (sl:List (Nat × AV)) (tm:Array Value),aF μ avs=some aK->(∀p,p∈ps->p<tm.size)->(∀t av,look sl t=some av->∃v,aD μ av=some v/\tm[t]?=some v)->
  ∀t av,look (aGk sl ps avs) t=some av->∃v,aD μ av=some v/\(lS tm ps aK)[t]?=some v
 | [],avs,aK,sl,tm,_,_,h=>by simpa[aGk,lS]using h
 | p::ps,[],aK,sl,tm,hv,_,h=>by simp[aF]at hv;subst hv;simpa[aGk,lS]using h
 | p::ps,x::avs,aK,sl,tm,hv,hp,h=>by
  simp only[aF]at hv;split at hv
  ·rename_i v us h1 h2;injection hv with hv;subst hv
   simp only[aGk,lS];refine aVk ps avs us _ _ h2 (λq hq=>by simpa using hp q (List.mem_cons_of_mem _ hq)) (λt av hl=>?_);by_cases e:p=t
   ·subst e;rw[bK]at hl;injection hl with hl;subst hl
    exact⟨v,h1,by simp[hp p zA]⟩
   ·rw[bE e]at hl;obtain⟨u,q1,q2⟩:=h t av hl;exact⟨u,q1,by rw[Array.getElem?_setIfInBounds_ne e];exact q2⟩
  ·cases hv
def yieldOf (sl:List (Nat × AV)):Op->Option (Nat × List AV)
 | .call {callee:=.value f,args,..}=>match fW sl f,aKj sl args.toList with
  | some (.o (.func (.yield l) ⟨[]⟩ ⟨[]⟩)),some zas=>some (l,zas)
  | _,_=>none
 | _=>none
theorem iQ {c1:Cx}{nt1:Nat}(hc1:Ctx c1 P ty nt1)(hrd:c1.rd=none){all:Array Oper}{i:Nat}{k:List KI}(o:Oper){l D nt0:Nat}{avs:List AV}
  {ps:Array Tmp} {zas bd:Code} {tm:Array Value} {sl0:List (Nat × AV)} {FR:KF} (hFR:FR=KF.fr sl0 tm) (hm:FR∈K) {LP:Nat->Array Value->Nat->LoopState->OF} (hLP:∀l tm D st,LP l tm D st=OF.lp l tm ps zas bd D st) (pre:List OF) {post:List OF} 
    (hsz:tm.size=nt0)
  (h:∀(c3:Cx) (tm1:Array Value) (FR1:KF) (p1 p2:Act->World->Prop),FR1=KF.fr S.sl tm1->Ctx c3 P ty nt0->c3.B=c1.B->
   (∀K' S' pre' post',S'.ow=pre'++LP l tm D .ready::post'->Goal c3 K' ⟨[.code bd,.hole p2],{S' with ow:=pre'++LP l tm D .busy::post'},[]⟩->Goal c3 K' ⟨[.hole p1],S',[]⟩)->
   (∀K' S' pre' post',FR1∈K'->S'.ow=pre'++LP l tm D .busy::post'->Goal c1 K' ⟨.ops all (i+1)::k,⟨match o.dst with | some d=>(d,.b (.l true))::S.sl | none=>S.sl,S'.hp,pre'++LP l tm D .ready::post'⟩,[]⟩->Goal c3 K' ⟨[.hole p2],S',[]⟩)->
   Goal c3 (FR1::K) ⟨[.code zas,.hole p1],⟨aGk sl0 ps.toList avs,S.hp,S.ow⟩,[]⟩)(ho:all[i]?=some o:=by exact rfl)(hg:guardOf all S.sl o=some true:=by exact rfl)(hd:cM nt1 o.dst=true:=by exact rfl)(hy:yieldOf S.sl o.op=some (l,avs):=by exact rfl)(how:S.ow=pre++LP l tm D .ready::post:=by exact rfl)(hps:ps.size=avs.length:=by exact rfl)(hlt:ps.toList.all (λp=>decide (p<nt0))=true:=by exact rfl):Goal c1 K ⟨.ops all i::k,S,[]⟩:=by
 refine .mk0 (λX μ a w H=>?_);have P':=H.toP;have bHs:i<all.size:=(Array.getElem?_eq_some_iff.1 ho).1;simp only[aO];rw[gP bHs];simp only[wpOpsIn,ho];rw[if_pos (cH P' hg (λ_ _=>trivial))];rw[hLP]at how;obtain⟨fn,hlp⟩:∃fn,w.heap[l]?=some (.loop {state:=.ready,pending:=none,fn,tmps:=tm,params:=ps,assign:=zas,body:=bd,defers:=D}):=(P'.own.at_ (OF.lp l tm ps zas bd D .ready) (by rw[how];simp)).1;obtain⟨aK,aG,aMl⟩:∃aK,aF μ avs=some aK/\(execOp a.eval o).run c1.P w=.ok (.round l fn (lS tm ps.toList aK) zas bd) w:=by
  unfold yieldOf at hy;split at hy
  ·rename_i f args tys hx;split at hy
   ·rename_i l' as' hf' has;injection hy with hy
    injection hy with e1 e2
    subst e1;subst e2;have h1:=rI (aH P' hf' (λ_ _=>trivial));have h2:=oP P' has (λ_ _=>trivial);refine⟨_,h2,?_⟩;have hl2:=bC h2;have hy2:=run_yield (P:=c1.P) (args:=args.map a.eval) hlp (by simp at hl2 |-;omega);have e3:(ps.zip (args.map a.eval)).foldl (λtmps (t,a)=>tmps.setIfInBounds t a) tm=lS tm ps.toList (args.toList.map a.eval):=by
     rw[aK2,<-Array.foldl_toList];simp
    simp only[e3]at hy2;simp[execOp,hx,resolve,h1,Deferred.ofValue,invoke,hy2]
   ·cases hy
  ·cases hy
 refine⟨λ_ _=>trivial,?_⟩;rw[uT _ aMl (λd e=>by cases e),Oper.uponIn_round];refine⟨λe=>(by cases e),?_⟩;let c3:Cx:=⟨c1.P,c1.ty,c1.tok,nt0,c1.B,c1.X0,c1.gB,λ_ _=>False,some l,[]⟩;have hF:c3.F=c1.F.inRound l:=rfl;obtain⟨Rr,hRr⟩:∃Rr:Ending->World->Prop,Rr=λe w''=>match e with
   | .returned v=>wpOpsIn c1.F 0 c1.P all (aO c1.F c1.P c1.R k) (List.range' (i+1) (all.size - (i+1))) (a.put o.dst v) w''
   | .panicked chain=>aO c1.F c1.P c1.R k (.panic chain) a w''
   | .outgrown=>LetsOut (aO c1.F c1.P c1.R k):=⟨_,rfl⟩
 let p2:Act->World->Prop:=λa3 w3=>∃v w',(Instr.endRound l none).run c1.P w3=.ok v w'/\Rr (.returned v) w'
 let p1:Act->World->Prop:=λa1 w1=>∃w2,(Instr.beginRound l).run c1.P w1=.ok () w2/\bd.wpIn c3.F 0 c1.P (roundPost c1.P l Rr) a1 w2
 have bBc:∀K' S' pre' post',S'.ow=pre'++LP l tm D .ready::post'->Goal c3 K' ⟨[.code bd,.hole p2],{S' with ow:=pre'++LP l tm D .busy::post'},[]⟩->Goal c3 K' ⟨[.hole p1],S',[]⟩:=by
  intro K' S' pre' post' aEq g;refine .mk0 (λX μ a3 w3 H3=>?_);simp only[aO];rw[hLP]at aEq;obtain⟨fn',aT2⟩:∃fn,w3.heap[l]?=some (.loop {state:=.ready,pending:=none,fn,tmps:=tm,params:=ps,assign:=zas,body:=bd,defers:=D}):=(H3.toP.own.at_ (OF.lp l tm ps zas bd D .ready) (by rw[aEq];simp)).1;refine⟨_,run_beginRound aT2 rfl,?_⟩;have H4:=wM (f:=OF.lp l tm ps zas bd D .ready) (f':=OF.lp l tm ps zas bd D .busy) (r:=l) H3 aEq (λj=>Iff.rfl) (λj=>Iff.rfl) ⟨fn',World.putObj_heap_same (Array.getElem?_eq_some_iff.1 aT2).1⟩ rfl rfl rfl zA (λj hj=>World.putObj_heap_other hj) (w':=w3.putObj l (.loop {state:=.busy,pending:=none,fn:=fn',tmps:=tm,params:=ps,assign:=zas,body:=bd,defers:=D}));have:=g.so X μ a3 _ (by rw[hLP];exact H4);simp only[aO]at this;refine wpIn_mono this λe a4 w4 hq=>?_;cases e<;>simp only[aO]at hq
  ·exact hq
  ·exact hq.elim
 have jL:∀K' S' pre' post',KF.fr S.sl a.tmps∈K'->S'.ow=pre'++LP l tm D .busy::post'->Goal c1 K' ⟨.ops all (i+1)::k,⟨match o.dst with | some d=>(d,.b (.l true))::S.sl | none=>S.sl,S'.hp,pre'++LP l tm D .ready::post'⟩,[]⟩->Goal c3 K' ⟨[.hole p2],S',[]⟩:=by
  intro K' S' pre' post' hm' aEq g;refine .mk0 (λX μ a3 w3 H3=>?_);simp only[aO];rw[hLP]at aEq;obtain⟨fn',aT2⟩:∃fn,w3.heap[l]?=some (.loop {state:=.busy,pending:=none,fn,tmps:=tm,params:=ps,assign:=zas,body:=bd,defers:=D}):=(H3.toP.own.at_ (OF.lp l tm ps zas bd D .busy) (by rw[aEq];simp)).1;refine⟨_,_,run_endRound none aT2,?_⟩;have H4:=wM (f:=OF.lp l tm ps zas bd D .busy) (f':=OF.lp l tm ps zas bd D .ready) (r:=l) H3 aEq (λj=>Iff.rfl) (λj=>Iff.rfl) ⟨fn',World.putObj_heap_same (Array.getElem?_eq_some_iff.1 aT2).1⟩ rfl rfl rfl zA (λj hj=>World.putObj_heap_other hj) (w':=w3.putObj l (.loop {state:=.ready,pending:=none,fn:=fn',tmps:=tm,params:=ps,assign:=zas,body:=bd,defers:=D}));have P4:=H4.toP;rw[hRr];have hfr:∀t av,look S.sl t=some av->∃v,aD μ av=some v/\a.tmps[t]?=some v:=P4.kf _ hm';have hs:=g.so X μ (a.put o.dst (.bool true)) (w3.putObj l (.loop {state:=.ready,pending:=none,fn:=fn',tmps:=tm,params:=ps,assign:=zas,body:=bd,defers:=D})) ⟨⟨by rw[put_defers];exact P'.dfr,by rw[yH];exact P'.size,?_,P4.heap,P4.all,P4.inj,P4.loc,P4.xlt,P4.xnew,P4.xold,P4.bel,P4.kf,by rw[hLP];exact P4.own⟩,H4.dom⟩
  ·simpa[aO]using hs
  ·intro t b _ hl;cases hdd:o.dst with
   | none=>
    rw[hdd]at hl;obtain⟨u,h1,h2⟩:=hfr t b hl;exact⟨u,h1,h2⟩
   | some d=>
    rw[hdd]at hl hd;simp only at hl;have hdn:d<a.tmps.size:=by simp only[cM,decide_eq_true_eq]at hd;rw[P'.size,hc1.hnt];exact hd
    by_cases ht:d=t
    ·subst ht;rw[bK]at hl;injection hl with hl;subst hl
     exact⟨.bool true,rfl,nK hdn⟩
    ·rw[bE ht]at hl;obtain⟨u,h1,h2⟩:=hfr t b hl;exact⟨u,h1,by rw[oQ (by simpa using ht)];exact h2⟩
 have G:=(h c3 a.tmps _ p1 p2 rfl ⟨hc1.hP,hc1.hty,rfl,hc1.hm⟩ rfl bBc jL).so X μ {tmps:=lS tm ps.toList aK,defers:=[]} w
  ⟨⟨rfl,by show(lS tm ps.toList aK).size=nt0;rw[aD7];exact hsz,?_,P'.heap,P'.all,P'.inj,P'.loc,P'.xlt,P'.xnew,P'.xold,P'.bel,λf hf=>?_,P'.own⟩,H.dom⟩
 ·have R0:RoundIn c1.F 0 c1.P l fn (lS tm ps.toList aK) zas bd w Rr:=by
   refine roundIn_of_wpIn trivial ?_;simp only[aO]at G;rw[hF]at G;refine wpIn_mono G λe a4 w4 hq=>?_;cases e<;>simp only[aO]at hq
   ·exact hq
   ·exact hq.elim
  refine RoundIn.mono R0 (λe w'' he=>?_);rw[hRr]at he;cases e with
  | returned v=>exact he
  | panicked ch=>exact he
  | outgrown=>exact he
 ·intro t av _ hl;refine aVk ps.toList avs aK sl0 tm aG (λp hp=>?_) (λt av hl=>?_) t av hl
  ·have:=List.all_eq_true.1 hlt p hp
   rw[hsz];simpa using this
  ·have:=P'.kf FR hm
   rw[hFR]at this;exact this t av hl
 ·rcases List.mem_cons.1 hf with e | e
  ·subst e;exact λt av hl=>P'.slots t av trivial hl
  ·exact P'.kf f e
theorem LinkY.size {c c1:Cx}{nt:Nat}(hc:Ctx c P ty nt){fn1:Func}{l D:Nat}{ps:Array Tmp}{zas bd:Code}{k:List KI}{tm:Array Value}(L:LinkY c c1 fn1 l D ps zas bd k tm):tm.size=nt:=by
 obtain⟨a,h1,h2,h3,_⟩:=L.out;rw[<-hc.hnt];exact h3
end
end Go.Ai
namespace Go.Ai
open Go Go.Proofs Go.Num
theorem aVw:aA (1/24)=⟨#[49,47,50,52]⟩:=(qA (s:=⟨#[49,47,50,52]⟩) (by decide+kernel)).symm
theorem aVv:aA (1/120)=⟨#[49,47,49,50,48]⟩:=(qA (s:=⟨#[49,47,49,50,48]⟩) (by decide+kernel)).symm
theorem bC9:aA (1/6)=⟨#[49,47,54]⟩:=(qA (s:=⟨#[49,47,54]⟩) (by decide+kernel)).symm
theorem aVn:sz (1/24)<=4:=lTr (gS _) (by rw[aVw];decide)
theorem aZk:sz (1/120)<=5:=lTr (gS _) (by rw[aVv];decide)
theorem sz6:sz (1/6)<=3:=lTr (gS _) (by rw[bC9];decide)
theorem aR9:aB PP 207:=zK
theorem mt1 {d x y z:Rat}(hd:sz d<=2^28)(hx:sz x<=2^24)(hy:sz y<=2^24)(hz:sz z<=2^24):
  uZ PP 207 [.string (aA x),.string (aA y),.string (aA z)] [aA d] (.string (aA (d*(x+y+z)*(1/24)))):=by
 have e1:=V3.sz_aa hx hy
 have e2:=V3.sz_aa e1 hz
 have h1:=aKc (lTr hx zV) (lTr hy zV) (lTr hz zV) (lTr e1 zV)
 have h2:=yC (x:=d) (y:=x+y+z) (z:=1/24) (lTr hd zV) (lTr e2 zV) (lTr aVn zV) (lTr (V3.sz_mm hd e2) zV)
 rw[aVw]at h2;clear e1 e2;generalize aA (d*(x+y+z)*(1/24))=r,aA (x+y+z)=q,aA d=sd,aA x=sx,aA y=sy,aA z=sz' at *;refine uZ.of_fn (λX w v hX hv=>?_);obtain⟨R,hRR⟩:=nm (eE (.string r));obtain⟨K,hK⟩:=nm ([KF.cst v (aUw [sd])]);rw[<-hRR];refine bJ mixed tok [.s (.v sx),.s (.v sy),.s (.v sz'),.q v] (K:=K) Tryz.func207 rfl rfl (lbl rfl) rfl hX (by rw[hK];simp;exact hv) λc hc hR=>?_;refine aNg 3 [sd] rfl rfl (λX μ a w v' H hv'=>cD H (by rw[hK];exact .head _) hv') (λf hf=>?_);have hf:f 0=sd:=hf 0 _ rfl;subst hf;apply zN hc;cbv;refine aP hc ⟨lP,trivial⟩ ?_;refine bL hc (n:=3) (.s (.v q)) h1 iR 100 ?_;cbv;refine bL hc (n:=3) (.s (.v r)) h2 eN 100 ?_;cbv;refine zE ?_;cbv;refine bB hc hR rfl (λX μ a w v' H hv'=>?_);rw[hRR,dW hv'];rfl
theorem aFa:aB PP 208:=zK
def oT (d x y z x' y' z':Rat):Rat:=d*((x+y+z)*(x'+y'+z')+x*x'+y*y'+z*z')*(1/120)
theorem mt2 {d x y z x' y' z':Rat}(hd:sz d<=2^28)(hx:sz x<=2^24)(hy:sz y<=2^24)(hz:sz z<=2^24)(hx':sz x'<=2^24)(hy':sz y'<=2^24)(hz':sz z'<=2^24):
  uZ PP 208 [.string (aA x),.string (aA y),.string (aA z),.string (aA x'),.string (aA y'),.string (aA z')] [aA d] (.string (aA (oT d x y z x' y' z'))):=by
 unfold oT;have big:2^24<=2^29:=zV;have e1:=V3.sz_aa hx hy;have e2:=V3.sz_aa e1 hz;have e3:=V3.sz_aa hx' hy';have e4:=V3.sz_aa e3 hz';have m0:=V3.sz_mm e2 e4;have m1:=V3.sz_mm hx hx';have m2:=V3.sz_mm hy hy';have m3:=V3.sz_mm hz hz';have q1:=V3.sz_aa m0 m1;have q2:=V3.sz_aa q1 m2;have q3:=V3.sz_aa q2 m3;have h1:=aKc (lTr hx big) (lTr hy big) (lTr hz big) (lTr e1 zV);have h2:=aKc (lTr hx' big) (lTr hy' big) (lTr hz' big) (lTr e3 zV);have h3:=oM (lTr e2 zV) (lTr e4 zV);have h4:=oM (lTr hx big) (lTr hx' big);have h5:=oM (lTr hy big) (lTr hy' big);have h6:=oM (lTr hz big) (lTr hz' big);have h7:=aY6 (lTr m0 zV) (lTr m1 zV) (lTr m2 zV) (lTr m3 zV) (lTr q1 zV) (lTr q2 zV);have h8:=yC (x:=d) (z:=1/120) (lTr hd zV) (lTr q3 zV) (lTr aZk zV) (lTr (V3.sz_mm hd q3) zV);rw[aVv]at h8;clear e1 e2 e3 e4 m0 m1 m2 m3 q1 q2 q3 hd hx hy hz hx' hy' hz';generalize aA (d*((x+y+z)*(x'+y'+z')+x*x'+y*y'+z*z')*(1/120))=r,aA ((x+y+z)*(x'+y'+z')+x*x'+y*y'+z*z')=q,aA ((x+y+z)*(x'+y'+z'))=p0,aA (x*x')=p1,aA (y*y')=p2,aA (z*z')=p3,aA (x+y+z)=u1,aA (x'+y'+z')=u2,aA d=sd,aA x=a1,aA y=a2,aA z=a3 at *;generalize aA x'=b1,aA y'=b2,aA z'=b3 at *;refine uZ.of_fn (λX w v hX hv=>?_);obtain⟨R,hRR⟩:=nm (eE (.string r));obtain⟨K,hK⟩:=nm ([KF.cst v (aUw [sd])]);rw[<-hRR];refine bJ mixed tok [.s (.v a1),.s (.v a2),.s (.v a3),.s (.v b1),.s (.v b2),.s (.v b3),.q v] (K:=K) Tryz.func208 rfl rfl (lbl rfl) rfl hX (by rw[hK];simp;exact hv) λc hc hR=>?_;refine aNg 6 [sd] rfl rfl (λX μ a w v' H hv'=>cD H (by rw[hK];exact .head _) hv') (λf hf=>?_);have hf:f 0=sd:=hf 0 _ rfl;subst hf;apply zN hc;cbv;refine aP hc ⟨lP,trivial⟩ ?_;refine bL hc (n:=3) (.s (.v u1)) h1 iR 100 ?_;cbv;refine bL hc (n:=3) (.s (.v u2)) h2 iR 100 ?_;cbv;refine bL hc (n:=2) (.s (.v p0)) h3 eN 100 ?_;cbv;refine bL hc (n:=2) (.s (.v p1)) h4 eN 100 ?_;cbv;refine bL hc (n:=2) (.s (.v p2)) h5 eN 100 ?_;cbv;refine bL hc (n:=2) (.s (.v p3)) h6 eN 100 ?_;cbv;refine bL hc (n:=4) (.s (.v q)) h7 iR 100 ?_;cbv;refine bL hc (n:=3) (.s (.v r)) h8 eN 100 ?_;cbv;refine zE ?_;cbv;refine bB hc hR rfl (λX μ a w v' H hv'=>?_);rw[hRR,dW hv'];rfl
structure Ms where
 v:Rat
 f:V3
 xx:Rat
 yy:Rat
 zz:Rat
 xy:Rat
 yz:Rat
 zx:Rat
def rS (m:Ms):Value:=.agg #[.string (aA m.v),.string (aA m.f.x),.string (aA m.f.y),.string (aA m.f.z),.string (aA m.xx),.string (aA m.yy),.string (aA m.zz),.string (aA m.xy),.string (aA m.yz),.string (aA m.zx)]
def Ms.none:Ms:=⟨0,⟨0,0,0⟩,0,0,0,0,0,0⟩
def Tri.mass (t : Tri) : Ms :=
  ⟨t.det * (1/6), ⟨t.det * (t.a.x + t.b.x + t.c.x) * (1/24), t.det * (t.a.y + t.b.y + t.c.y) * (1/24), t.det * (t.a.z + t.b.z + t.c.z) * (1/24)⟩,
   oT t.det t.a.x t.b.x t.c.x t.a.x t.b.x t.c.x, oT t.det t.a.y t.b.y t.c.y t.a.y t.b.y t.c.y, oT t.det t.a.z t.b.z t.c.z t.a.z t.b.z t.c.z, oT t.det t.a.x t.b.x t.c.x t.a.y t.b.y t.c.y, oT t.det t.a.y t.b.y t.c.y t.a.z t.b.z t.c.z, oT t.det t.a.z t.b.z t.c.z t.a.x t.b.x t.c.x⟩
theorem aVo {t:Tri}{k:Nat}(h:t.le k):sz t.det<=15*k+5:=lTr (V3.sz_dot h.1 (V3.le_cross h.2.1 h.2.2)) zW
theorem aPr {d a b:Rat}(h:d=0):aA (d*a*b)=⟨#[48]⟩:=by rw[h,Rat.zero_mul,Rat.zero_mul,eS]
theorem bDi {d a:Rat}(h:d=0):aA (d*a)=⟨#[48]⟩:=by rw[h,Rat.zero_mul,eS]
theorem aGq {d a b c a' b' c':Rat}(h:d=0):aA (oT d a b c a' b' c')=⟨#[48]⟩:=aPr h
theorem oG:aB PP 173:=zK
theorem bFl {t:Tri}(ht:t.le (2^20)):Pure PP 173 [oU t] (rS t.mass):=by
 have big:2^20<=2^24:=zV
 have hd:sz t.det<=2^28:=lTr (aVo ht) zV
 have h0:=bIc (t:=t) ⟨ht.1.mono zV,ht.2.1.mono zV,ht.2.2.mono zV⟩
 have hn:=aY7
 have g0:=oM (x:=t.det) (y:=1/6) (lTr hd zV) (lTr sz6 zV)
 rw[bC9]at g0;have xa:=lTr ht.1.1 big;have ya:=lTr ht.1.2.1 big;have za:=lTr ht.1.2.2 big;have xb:=lTr ht.2.1.1 big;have yb:=lTr ht.2.1.2.1 big;have zb:=lTr ht.2.1.2.2 big;have xc:=lTr ht.2.2.1 big;have yc:=lTr ht.2.2.2.1 big;have zc:=lTr ht.2.2.2.2 big;have g1:=mt1 hd xa xb xc;have g2:=mt1 hd ya yb yc;have g3:=mt1 hd za zb zc;have g4:=mt2 hd xa xb xc xa xb xc;have g5:=mt2 hd ya yb yc ya yb yc;have g6:=mt2 hd za zb zc za zb zc;have g7:=mt2 hd xa xb xc ya yb yc;have g8:=mt2 hd ya yb yc za zb zc;have g9:=mt2 hd za zb zc xa xb xc;have z0:(BE.seq (.v (aA t.det)) (.v ⟨#[48]⟩)).den=true->aA (t.det*(1/6))=⟨#[48]⟩/\aA (t.det*(t.a.x+t.b.x+t.c.x)*(1/24))=⟨#[48]⟩/\aA (t.det*(t.a.y+t.b.y+t.c.y)*(1/24))=⟨#[48]⟩/\aA (t.det*(t.a.z+t.b.z+t.c.z)*(1/24))=⟨#[48]⟩/\aA (oT t.det t.a.x t.b.x t.c.x t.a.x t.b.x t.c.x)=⟨#[48]⟩/\aA (oT t.det t.a.y t.b.y t.c.y t.a.y t.b.y t.c.y)=⟨#[48]⟩/\aA (oT t.det t.a.z t.b.z t.c.z t.a.z t.b.z t.c.z)=⟨#[48]⟩/\aA (oT t.det t.a.x t.b.x t.c.x t.a.y t.b.y t.c.y)=⟨#[48]⟩/\aA (oT t.det t.a.y t.b.y t.c.y t.a.z t.b.z t.c.z)=⟨#[48]⟩/\aA (oT t.det t.a.z t.b.z t.c.z t.a.x t.b.x t.c.x)=⟨#[48]⟩:=λh=>by
  have e:=is0 h
  exact⟨bDi e,aPr e,aPr e,aPr e,aGq e,aGq e,aGq e,aGq e,aGq e,aGq e⟩
 unfold rS Tri.mass;dsimp only;clear hd xa ya za xb yb zb xc yc zc ht;unfold oU at *;generalize aA (t.det*(1/6))=r0,aA (t.det*(t.a.x+t.b.x+t.c.x)*(1/24))=r1,aA (t.det*(t.a.y+t.b.y+t.c.y)*(1/24))=r2,aA (t.det*(t.a.z+t.b.z+t.c.z)*(1/24))=r3,aA (oT t.det t.a.x t.b.x t.c.x t.a.x t.b.x t.c.x)=r4,aA (oT t.det t.a.y t.b.y t.c.y t.a.y t.b.y t.c.y)=r5,aA (oT t.det t.a.z t.b.z t.c.z t.a.z t.b.z t.c.z)=r6,aA (oT t.det t.a.x t.b.x t.c.x t.a.y t.b.y t.c.y)=r7,aA (oT t.det t.a.y t.b.y t.c.y t.a.z t.b.z t.c.z)=r8,aA (oT t.det t.a.z t.b.z t.c.z t.a.x t.b.x t.c.x)=r9,aA t.det=d,aA t.a.x=ax,aA t.a.y=ay,aA t.a.z=az,aA t.b.x=bx at *;generalize aA t.b.y=«by» at *
 generalize aA t.b.z=bz,aA t.c.x=cx,aA t.c.y=cy,aA t.c.z=cz at *;refine zF [.g [.s (.v ax),.s (.v ay),.s (.v az),.s (.v bx),.s (.v «by»),.s (.v bz),.s (.v cx),.s (.v cy),.s (.v cz)]] Tryz.func173 λc hc hR=>?_;cbv;refine zC (.s (.v d)) h0 aZ9 ?_;cbv;refine aE rfl 0 (λh=>?_) (λh=>?_)
 ·obtain⟨e0,e1,e2,e3,e4,e5,e6,e7,e8,e9⟩:=z0 h;subst e0;subst e1;subst e2;subst e3;subst e4;subst e5;subst e6;subst e7;subst e8;subst e9;apply zN hc;cbv;refine zC (.g [.s (.v ⟨#[48]⟩),.s (.v ⟨#[48]⟩),.s (.v ⟨#[48]⟩),.s (.v ⟨#[48]⟩),.s (.v ⟨#[48]⟩),.s (.v ⟨#[48]⟩),.s (.v ⟨#[48]⟩),.s (.v ⟨#[48]⟩),.s (.v ⟨#[48]⟩),.s (.v ⟨#[48]⟩)]) hn aBm ?_;cbv;exact zR
 refine aZg hc 6 100 ?_;cbv;refine fR hc _ ?_;cbv;refine fR hc _ ?_;cbv;refine fR hc _ ?_;cbv;refine uR hc zG zV rfl 100 ?_;cbv;refine bL hc (n:=2) (.s (.v r0)) g0 eN 100 ?_;cbv;refine iB hc (.s (.v r1)) (pre:=[.s (.v ax),.s (.v bx),.s (.v cx)]) g1 aR9 100 ?_;cbv;refine iB hc (.s (.v r2)) (pre:=[.s (.v ay),.s (.v «by»),.s (.v cy)]) g2 aR9 100 ?_;cbv;refine iB hc (.s (.v r3)) (pre:=[.s (.v az),.s (.v bz),.s (.v cz)]) g3 aR9 100 ?_;cbv;refine iB hc (.s (.v r4)) (pre:=[.s (.v ax),.s (.v bx),.s (.v cx),.s (.v ax),.s (.v bx),.s (.v cx)]) g4 aFa 100 ?_;cbv;refine iB hc (.s (.v r5)) (pre:=[.s (.v ay),.s (.v «by»),.s (.v cy),.s (.v ay),.s (.v «by»),.s (.v cy)]) g5 aFa 100 ?_;cbv;refine iB hc (.s (.v r6)) (pre:=[.s (.v az),.s (.v bz),.s (.v cz),.s (.v az),.s (.v bz),.s (.v cz)]) g6 aFa 100 ?_;cbv;refine iB hc (.s (.v r7)) (pre:=[.s (.v ax),.s (.v bx),.s (.v cx),.s (.v ay),.s (.v «by»),.s (.v cy)]) g7 aFa 100 ?_;cbv;refine iB hc (.s (.v r8)) (pre:=[.s (.v ay),.s (.v «by»),.s (.v cy),.s (.v az),.s (.v bz),.s (.v cz)]) g8 aFa 100 ?_;cbv;refine iB hc (.s (.v r9)) (pre:=[.s (.v az),.s (.v bz),.s (.v cz),.s (.v ax),.s (.v bx),.s (.v cx)]) g9 aFa 100 ?_;cbv;refine zE ?_;cbv;exact zR
end Go.Ai
set_option maxRecDepth 10000
namespace Go.Ai
open Go Go.Proofs Go.Num V3
theorem vQ:aB PP 183:=zK
theorem bAb:aB PP 205:=zK
theorem kU:aB PP 172:=zK
theorem aI2:aB PP 133:=zK
theorem bIf {g:Nat}(cg:aB PP g){a0 a1 a2 a3 a4 a5 a6 a7 a8 a9 b0 b1 b2 b3 b4 b5 b6 b7 b8 b9 r0 r1 r2 r3 r4 r5 r6 r7 r8 r9:ByteArray}(h0:Pure PP g [.string a0,.string b0] (.string r0))(h1:Pure PP g [.string a1,.string b1] (.string r1))(h2:Pure PP g [.string a2,.string b2] (.string r2))(h3:Pure PP g [.string a3,.string b3] (.string r3))(h4:Pure PP g [.string a4,.string b4] (.string r4))(h5:Pure PP g [.string a5,.string b5] (.string r5))(h6:Pure PP g [.string a6,.string b6] (.string r6))(h7:Pure PP g [.string a7,.string b7] (.string r7))(h8:Pure PP g [.string a8,.string b8] (.string r8))(h9:Pure PP g [.string a9,.string b9] (.string r9)):
  Pure PP 205 [.agg #[.string a0,.string a1,.string a2,.string a3,.string a4,.string a5,.string a6,.string a7,.string a8,.string a9],.agg #[.string b0,.string b1,.string b2,.string b3,.string b4,.string b5,.string b6,.string b7,.string b8,.string b9],.func (.func g) #[] #[]] (.agg #[.string r0,.string r1,.string r2,.string r3,.string r4,.string r5,.string r6,.string r7,.string r8,.string r9]):=by
 refine zF [.g [.s (.v a0),.s (.v a1),.s (.v a2),.s (.v a3),.s (.v a4),.s (.v a5),.s (.v a6),.s (.v a7),.s (.v a8),.s (.v a9)],.g [.s (.v b0),.s (.v b1),.s (.v b2),.s (.v b3),.s (.v b4),.s (.v b5),.s (.v b6),.s (.v b7),.s (.v b8),.s (.v b9)],.f (.func g) [] []] Tryz.func205 λc hc hR=>?_;cbv;refine cO hc Tryz.func183 vQ (λc1 tm1 FR1 gX hc1 L1=>?_);apply zN hc1;cbv;refine zE (hc:=hc1) ?_;cbv;refine cY hc1 L1 gX (.head _) ?_;apply zN hc;cbv;refine cO hc Tryz.func183 vQ (λc2 tm2 FR2 aDd hc2 L2=>?_);apply zN hc2;cbv;refine zE (hc:=hc2) ?_;cbv;refine cY hc2 L2 aDd (.head _) ?_;apply zN hc;cbv;refine aV 11 (λp hp=>?_);refine hp _ _ _ ?_;apply zN hc;cbv;refine zD (.s (.v r0)) h0 cg ?_;cbv;refine zE ?_;cbv;refine hp _ _ _ ?_;apply zN hc;cbv;refine zD (.s (.v r1)) h1 cg ?_;cbv;refine zE ?_;cbv;refine hp _ _ _ ?_;apply zN hc;cbv;refine zD (.s (.v r2)) h2 cg ?_;cbv;refine zE ?_;cbv;refine hp _ _ _ ?_;apply zN hc;cbv;refine zD (.s (.v r3)) h3 cg ?_;cbv;refine zE ?_;cbv;refine hp _ _ _ ?_;apply zN hc;cbv;refine zD (.s (.v r4)) h4 cg ?_;cbv;refine zE ?_;cbv;refine hp _ _ _ ?_;apply zN hc;cbv;refine zD (.s (.v r5)) h5 cg ?_;cbv;refine zE ?_;cbv;refine hp _ _ _ ?_;apply zN hc;cbv;refine zD (.s (.v r6)) h6 cg ?_;cbv;refine zE ?_;cbv;refine hp _ _ _ ?_;apply zN hc;cbv;refine zD (.s (.v r7)) h7 cg ?_;cbv;refine zE ?_;cbv;refine hp _ _ _ ?_;apply zN hc;cbv;refine zD (.s (.v r8)) h8 cg ?_;cbv;refine zE ?_;cbv;refine hp _ _ _ ?_;apply zN hc;cbv;refine zD (.s (.v r9)) h9 cg ?_;cbv;refine zE ?_;cbv;refine hp _ _ _ ?_;apply zN hc;cbv;exact zR
def Ms.add (m n:Ms):Ms:=⟨m.v+n.v,⟨m.f.x+n.f.x,m.f.y+n.f.y,m.f.z+n.f.z⟩,m.xx+n.xx,m.yy+n.yy,m.zz+n.zz,m.xy+n.xy,m.yz+n.yz,m.zx+n.zx⟩
def Ms.le (m:Ms)(k:Nat):Prop:=sz m.v<=k/\m.f.le k/\sz m.xx<=k/\sz m.yy<=k/\sz m.zz<=k/\sz m.xy<=k/\sz m.yz<=k/\sz m.zx<=k
theorem Ms.le.mono {m:Ms}{k l:Nat}(h:m.le k)(hl:k<=l):m.le l:=by
 obtain⟨h1,h2,h3,h4,h5,h6,h7,h8⟩:=h;exact⟨lTr h1 hl,h2.mono hl,lTr h3 hl,lTr h4 hl,lTr h5 hl,lTr h6 hl,lTr h7 hl,lTr h8 hl⟩
theorem Ms.le_add {m n:Ms}{k l:Nat}(h:m.le k)(h':n.le l):(m.add n).le (k+l+1):=by
 obtain⟨h1,⟨h2,h3,h4⟩,h5,h6,h7,h8,h9,h10⟩:=h;obtain⟨g1,⟨g2,g3,g4⟩,g5,g6,g7,g8,g9,g10⟩:=h';exact⟨sz_aa h1 g1,⟨sz_aa h2 g2,sz_aa h3 g3,sz_aa h4 g4⟩,sz_aa h5 g5,sz_aa h6 g6,sz_aa h7 g7,sz_aa h8 g8,sz_aa h9 g9,sz_aa h10 g10⟩
theorem tP {m n:Ms}(hm:m.le (2^29))(hn:n.le (2^29)):Pure PP 172 [rS m,rS n] (rS (m.add n)):=by
 have k:=bIf (g:=206) aR8 (pW hm.1 hn.1) (pW hm.2.1.1 hn.2.1.1) (pW hm.2.1.2.1 hn.2.1.2.1) (pW hm.2.1.2.2 hn.2.1.2.2) (pW hm.2.2.1 hn.2.2.1) (pW hm.2.2.2.1 hn.2.2.2.1) (pW hm.2.2.2.2.1 hn.2.2.2.2.1) (pW hm.2.2.2.2.2.1 hn.2.2.2.2.2.1) (pW hm.2.2.2.2.2.2.1 hn.2.2.2.2.2.2.1) (pW hm.2.2.2.2.2.2.2 hn.2.2.2.2.2.2.2)
 clear hm hn;unfold Ms.add rS;dsimp only;generalize aA (m.v+n.v)=r0,aA (m.f.x+n.f.x)=r1,aA (m.f.y+n.f.y)=r2,aA (m.f.z+n.f.z)=r3,aA (m.xx+n.xx)=r4,aA (m.yy+n.yy)=r5,aA (m.zz+n.zz)=r6,aA (m.xy+n.xy)=r7,aA (m.yz+n.yz)=r8,aA (m.zx+n.zx)=r9,aA m.v=a0,aA m.f.x=a1,aA m.f.y=a2,aA m.f.z=a3,aA m.xx=a4,aA m.yy=a5,aA m.zz=a6,aA m.xy=a7,aA m.yz=a8,aA m.zx=a9,aA n.v=b0,aA n.f.x=b1,aA n.f.y=b2,aA n.f.z=b3,aA n.xx=b4,aA n.yy=b5,aA n.zz=b6,aA n.xy=b7,aA n.yz=b8,aA n.zx=b9 at k |-;refine zF [.g [.s (.v a0),.s (.v a1),.s (.v a2),.s (.v a3),.s (.v a4),.s (.v a5),.s (.v a6),.s (.v a7),.s (.v a8),.s (.v a9)],.g [.s (.v b0),.s (.v b1),.s (.v b2),.s (.v b3),.s (.v b4),.s (.v b5),.s (.v b6),.s (.v b7),.s (.v b8),.s (.v b9)]] Tryz.func172 λc hc hR=>?_;cbv;refine zC (.g [.s (.v r0),.s (.v r1),.s (.v r2),.s (.v r3),.s (.v r4),.s (.v r5),.s (.v r6),.s (.v r7),.s (.v r8),.s (.v r9)]) k bAb ?_;cbv;exact zR
theorem bB8 {m:Ms}(hm:m.le (2^29)):Pure PP 133 [rS m] (.bool true):=by
 have k0:=fY (aA m.v) (lTr (aZ m.v) (by have:=hm.1;omega))
 rw[dC]at k0;change Pure _ _ _ (.bool true)at k0;have k1:=fY (aA m.f.x) (lTr (aZ m.f.x) (by have:=hm.2.1.1;omega));rw[dC]at k1;change Pure _ _ _ (.bool true)at k1;have k2:=fY (aA m.f.y) (lTr (aZ m.f.y) (by have:=hm.2.1.2.1;omega));rw[dC]at k2;change Pure _ _ _ (.bool true)at k2;have k3:=fY (aA m.f.z) (lTr (aZ m.f.z) (by have:=hm.2.1.2.2;omega));rw[dC]at k3;change Pure _ _ _ (.bool true)at k3;have k4:=fY (aA m.xx) (lTr (aZ m.xx) (by have:=hm.2.2.1;omega));rw[dC]at k4;change Pure _ _ _ (.bool true)at k4;have k5:=fY (aA m.yy) (lTr (aZ m.yy) (by have:=hm.2.2.2.1;omega));rw[dC]at k5;change Pure _ _ _ (.bool true)at k5;have k6:=fY (aA m.zz) (lTr (aZ m.zz) (by have:=hm.2.2.2.2.1;omega));rw[dC]at k6;change Pure _ _ _ (.bool true)at k6;have k7:=fY (aA m.xy) (lTr (aZ m.xy) (by have:=hm.2.2.2.2.2.1;omega));rw[dC]at k7;change Pure _ _ _ (.bool true)at k7;have k8:=fY (aA m.yz) (lTr (aZ m.yz) (by have:=hm.2.2.2.2.2.2.1;omega));rw[dC]at k8;change Pure _ _ _ (.bool true)at k8;have k9:=fY (aA m.zx) (lTr (aZ m.zx) (by have:=hm.2.2.2.2.2.2.2;omega));rw[dC]at k9;change Pure _ _ _ (.bool true)at k9;clear hm;unfold rS;generalize aA m.v=a0 at k0 |-;generalize aA m.f.x=a1 at k1 |-;generalize aA m.f.y=a2 at k2 |-;generalize aA m.f.z=a3 at k3 |-;generalize aA m.xx=a4 at k4 |-;generalize aA m.yy=a5 at k5 |-;generalize aA m.zz=a6 at k6 |-;generalize aA m.xy=a7 at k7 |-;generalize aA m.yz=a8 at k8 |-;generalize aA m.zx=a9 at k9 |-;refine zF [.g [.s (.v a0),.s (.v a1),.s (.v a2),.s (.v a3),.s (.v a4),.s (.v a5),.s (.v a6),.s (.v a7),.s (.v a8),.s (.v a9)]] Tryz.func133 λc hc hR=>?_;cbv;refine cO hc Tryz.func183 vQ (λc1 tm1 FR1 gX hc1 L1=>?_);apply zN hc1;cbv;refine zE (hc:=hc1) ?_;cbv;refine cY hc1 L1 gX (.head _) ?_;apply zN hc;cbv;refine aV 11 (λp hp=>?_);refine hp _ _ _ ?_;apply zN hc;cbv;refine zC (.b (.l true)) k0 cB ?_;cbv;refine hp _ _ _ ?_;apply zN hc;cbv;refine zC (.b (.l true)) k1 cB ?_;cbv;refine hp _ _ _ ?_;apply zN hc;cbv;refine zC (.b (.l true)) k2 cB ?_;cbv;refine hp _ _ _ ?_;apply zN hc;cbv;refine zC (.b (.l true)) k3 cB ?_;cbv;refine hp _ _ _ ?_;apply zN hc;cbv;refine zC (.b (.l true)) k4 cB ?_;cbv;refine hp _ _ _ ?_;apply zN hc;cbv;refine zC (.b (.l true)) k5 cB ?_;cbv;refine hp _ _ _ ?_;apply zN hc;cbv;refine zC (.b (.l true)) k6 cB ?_;cbv;refine hp _ _ _ ?_;apply zN hc;cbv;refine zC (.b (.l true)) k7 cB ?_;cbv;refine hp _ _ _ ?_;apply zN hc;cbv;refine zC (.b (.l true)) k8 cB ?_;cbv;refine hp _ _ _ ?_;apply zN hc;cbv;refine zC (.b (.l true)) k9 cB ?_;cbv;refine hp _ _ _ ?_;apply zN hc;cbv;exact zR
end Go.Ai
namespace Go.Ai
open Go Go.Num
def aVr (t:Tri):List ByteArray:=[aA t.a.x,aA t.a.y,aA t.a.z,aA t.b.x,aA t.b.y,aA t.b.z,aA t.c.x,aA t.c.y,aA t.c.z]
def kE (l:List Tri):List ByteArray:=l.flatMap aVr
theorem yX (t:Tri):(aVr t).length=9:=rfl
theorem lL:∀(l:List Tri),(kE l).length=9*l.length
 | []=>rfl
 | t::l=>by
  have:=lL l
  unfold kE at this |-;rw[List.flatMap_cons,List.length_append,this,yX,List.length_cons];omega
theorem jX:∀{l:List Tri} {j i:Nat} {t:Tri},l[j]?=some t->i<9->(kE l)[j*9+i]?=(aVr t)[i]?
 | [],j,i,t,h,_=>by simp at h
 | u::l,0,i,t,h,hi=>by
  simp at h;subst h;unfold kE;rw[List.flatMap_cons,List.getElem?_append_left (by rw[yX];omega)];simp
 | u::l,j+1,i,t,h,hi=>by
  have:=jX (l:=l) (j:=j) (i:=i) (t:=t) (by simpa using h) hi
  unfold kE at this |-;rw[List.flatMap_cons,List.getElem?_append_right (by rw[yX];omega),yX,<-this];congr 1;omega
structure Seg where
 a:V3
 b:V3
def bCz (s:Seg):List ByteArray:=[aA s.a.x,aA s.a.y,aA s.a.z,aA s.b.x,aA s.b.y,aA s.b.z]
def jP (l:List Seg):List ByteArray:=l.flatMap bCz
theorem yP (s:Seg):(bCz s).length=6:=rfl
theorem aD6:∀(l:List Seg),(jP l).length=6*l.length
 | []=>rfl
 | t::l=>by
  have:=aD6 l
  unfold jP at this |-;rw[List.flatMap_cons,List.length_append,this,yP,List.length_cons];omega
theorem gI:∀{l:List Seg} {j i:Nat} {t:Seg},l[j]?=some t->i<6->(jP l)[j*6+i]?=(bCz t)[i]?
 | [],j,i,t,h,_=>by simp at h
 | u::l,0,i,t,h,hi=>by
  simp at h;subst h;unfold jP;rw[List.flatMap_cons,List.getElem?_append_left (by rw[yP];omega)];simp
 | u::l,j+1,i,t,h,hi=>by
  have:=gI (l:=l) (j:=j) (i:=i) (t:=t) (by simpa using h) hi
  unfold jP at this |-;rw[List.flatMap_cons,List.getElem?_append_right (by rw[yP];omega),yP,<-this];congr 1;omega
theorem aVi (l m:List Seg):jP (l++m)=jP l++jP m:=by unfold jP;simp
def sL (a b:V3):List ByteArray:=[aA a.x,aA a.y,aA a.z,aA b.x,aA b.y,aA b.z]
def aS0 (es:fQ)(a b:V3):fQ:=gD (sL b a) (-1) (gD (sL a b) 1 es)
def aJk (es:fQ)(t:Tri):fQ:=aS0 (aS0 (aS0 es t.a t.b) t.b t.c) t.c t.a
def aBe (l:List Tri):fQ:=l.foldl aJk []
def aCe (x:List ByteArray × Int):Bool:=decide (x.2≠0)&&decide (x.1.take 3≠x.1.drop 3)
def mX (l:List Tri):Bool:=(aBe l).all λx=> !aCe x
def jS (l:List Tri):Int:=if mX l=true then 0 else 17
def oZ (m:Nat)(es:fQ):Prop:=jF 6 es/\∀x,x∈es->-(m:Int)<=x.2/\x.2<=m
theorem oZ.add {k:List ByteArray}{d:Int}(hk:k.length=6)(hd:-1<=d/\d<=1){m:Nat}:∀{es:fQ},oZ m es->oZ (m+1) (gD k d es):=by
 intro es h;refine⟨h.1.add hk,?_⟩;have h2:=h.2;clear h;induction es with
 | nil=>intro x hx;simp[gD]at hx;subst hx;simp only;omega
 | cons y l ih=>
  obtain⟨q,v⟩:=y;have hq:=h2 (q,v) zA;have hl:∀x,x∈l->-(m:Int)<=x.2/\x.2<=m:=λx hx=>h2 x (List.mem_cons_of_mem _ hx);simp only at hq;unfold gD;split
  ·intro x hx;rcases List.mem_cons.1 hx with e | e
   ·subst e;simp only;omega
   ·have:=hl x e;omega
  ·intro x hx;rcases List.mem_cons.1 hx with e | e
   ·subst e;simp only;omega
   ·exact ih hl x e
theorem oZ.get {m:Nat}{es:fQ}(h:oZ m es)(k:List ByteArray):-(m:Int)<=gL es k/\gL es k<=m:=by
 unfold gL;cases hf:gC k es 0 with
 | none=>simp only;omega
 | some x=>
  obtain⟨j,v⟩:=x;have:=(qL hf).2.2;exact h.2 (k,v) (List.mem_of_getElem? this)
theorem oZ.e {m:Nat}{es:fQ}(h:oZ m es)(a b:V3):oZ (m+2) (aS0 es a b):=(h.add rfl zW).add rfl zW
theorem oZ.t {m:Nat}{es:fQ}(h:oZ m es)(t:Tri):oZ (m+6) (aJk es t):=((h.e _ _).e _ _).e _ _
theorem oZ.nil:oZ 0 []:=⟨(λx hx=>by cases hx),λx hx=>by cases hx⟩
theorem aFj {l:List Tri}{i:Nat}{t:Tri}(h:l[i]?=some t):aBe (l.take (i+1))=aJk (aBe (l.take i)) t:=by
 have hi:=(List.getElem?_eq_some_iff.1 h)
 obtain⟨h1,h2⟩:=hi;unfold aBe;rw[List.take_succ_eq_append_getElem h1,List.foldl_append,h2];rfl
theorem aCv (l:List Tri):∀i,i<=l.length->oZ (6*i) (aBe (l.take i))
 | 0,_=>oZ.nil
 | i+1,h=>by
  have h1:l[i]?=some l[i]:=zA
  rw[aFj h1];exact(aCv l i zW).t _
theorem re9 {f:Nat->ByteArray}{x:Nat}{a0 a1 a2 a3 a4 a5 a6 a7 a8:ByteArray}(h0:f (x*9+0)=a0)(h1:f (x*9+1)=a1)(h2:f (x*9+2)=a2)(h3:f (x*9+3)=a3)(h4:f (x*9+4)=a4)(h5:f (x*9+5)=a5)(h6:f (x*9+6)=a6)(h7:f (x*9+7)=a7)(h8:f (x*9+8)=a8):
  ∀μ,aF μ [.s (.fn f 0 (.n x) 9 0),.s (.fn f 0 (.n x) 9 1),.s (.fn f 0 (.n x) 9 2),.s (.fn f 0 (.n x) 9 3),.s (.fn f 0 (.n x) 9 4),.s (.fn f 0 (.n x) 9 5),.s (.fn f 0 (.n x) 9 6),.s (.fn f 0 (.n x) 9 7),.s (.fn f 0 (.n x) 9 8)]=aF μ [.s (.v a0),.s (.v a1),.s (.v a2),.s (.v a3),.s (.v a4),.s (.v a5),.s (.v a6),.s (.v a7),.s (.v a8)]:=by
 intro μ;simp only[aF,aD,SE.den,IE.den,aY,Int.toNat_natCast,Nat.zero_add,h0,h1,h2,h3,h4,h5,h6,h7,h8]
theorem re6 {f:Nat->ByteArray}{x:Nat}{a0 a1 a2 a3 a4 a5:ByteArray}(h0:f (x*6+0)=a0)(h1:f (x*6+1)=a1)(h2:f (x*6+2)=a2)(h3:f (x*6+3)=a3)(h4:f (x*6+4)=a4)(h5:f (x*6+5)=a5):
  ∀μ,aF μ [.s (.fn f 0 (.n x) 6 0),.s (.fn f 0 (.n x) 6 1),.s (.fn f 0 (.n x) 6 2),.s (.fn f 0 (.n x) 6 3),.s (.fn f 0 (.n x) 6 4),.s (.fn f 0 (.n x) 6 5)]=aF μ [.s (.v a0),.s (.v a1),.s (.v a2),.s (.v a3),.s (.v a4),.s (.v a5)]:=by
 intro μ;simp only[aF,aD,SE.den,IE.den,aY,Int.toNat_natCast,Nat.zero_add,h0,h1,h2,h3,h4,h5]
theorem dV {l m:List AV}(h:∀μ,aF μ l=aF μ m):∀μ,aD μ (.g l)=aD μ (.g m):=λμ=>by simp only[aD,h μ]
theorem aYl {l:List Tri}{f:Nat->ByteArray}(hf:∀i x,(kE l)[i]?=some x->f i=x){x:Nat}{t:Tri}(ht:l[x]?=some t):
  f (x*9+0)=aA t.a.x/\f (x*9+1)=aA t.a.y/\f (x*9+2)=aA t.a.z/\f (x*9+3)=aA t.b.x/\f (x*9+4)=aA t.b.y/\f (x*9+5)=aA t.b.z/\f (x*9+6)=aA t.c.x/\f (x*9+7)=aA t.c.y/\f (x*9+8)=aA t.c.z:=
 ⟨hf _ _ (jX ht zW),hf _ _ (jX ht zW),hf _ _ (jX ht zW),hf _ _ (jX ht zW),hf _ _ (jX ht zW),hf _ _ (jX ht zW),hf _ _ (jX ht zW),hf _ _ (jX ht zW),hf _ _ (jX ht zW)⟩
theorem bF3 {l:List Seg}{f:Nat->ByteArray}(hf:∀i x,(jP l)[i]?=some x->f i=x){x:Nat}{t:Seg}(ht:l[x]?=some t):
  f (x*6+0)=aA t.a.x/\f (x*6+1)=aA t.a.y/\f (x*6+2)=aA t.a.z/\f (x*6+3)=aA t.b.x/\f (x*6+4)=aA t.b.y/\f (x*6+5)=aA t.b.z:=
 ⟨hf _ _ (gI ht zW),hf _ _ (gI ht zW),hf _ _ (gI ht zW),hf _ _ (gI ht zW),hf _ _ (gI ht zW),hf _ _ (gI ht zW)⟩
theorem aSz (a0 a1 a2 a3 a4 a5:ByteArray)(b:Bool)(w:World):(Instr.checkKey b 10000 220 (.agg #[.string a0,.string a1,.string a2,.string a3,.string a4,.string a5])).run PP w=.ok () w:=zG
theorem jY:KeyTy PP 218 220 3 6:=by
 refine⟨zG,zG,zG,?_,λw=>zG⟩;intro a b w ha;match a,ha with
 | [a0,a1,a2,a3,a4,a5],_=>exact aSz a0 a1 a2 a3 a4 a5 b w
end Go.Ai
