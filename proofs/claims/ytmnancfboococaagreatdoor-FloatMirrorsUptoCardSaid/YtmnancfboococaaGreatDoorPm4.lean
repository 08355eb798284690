/- Part 5 of the proof: garboardlaw17.FloatMirrors returns true, where what it reads is of bulk at most 1048576. -/
import Derived.Laws.AppendOwn
import Derived.Laws.MakeOwn
import Derived.Laws.OwnMore
import Derived.Test.YtmnancfboococaaGreatDoorPm3
set_option linter.all false
namespace Go.Ai
open Go Go.RowKit
def KF.cst (v:Value)(R:VF):KF:=⟨fun X _ w=>R.p v X w,fun X X' _ _ w w' hs _ hw h=>R.st v X X' w w' hs hw h⟩
def KF.at (k:Nat)(R:VF):KF:=
 ⟨fun X μ w=>∃v,μ k=some (.val v)∧R.p v X w,fun X X' _ _ w w' hs hv hw h=>by
  obtain⟨v,h1,h2⟩:=h;exact⟨v,hv.fx _ _ rfl h1,R.st v X X' w w' hs hw h2⟩⟩
def KF.ext (k:Nat)(a:Option (Nat × Nat)):KF:=⟨fun _ μ _=>μ k=some (.ext a),fun _ _ _ _ _ _ _ hv _ h=>hv.fx _ _ rfl h⟩
def Fn (P:Program)(g:Nat)(args:List Value)(X:Nat→Prop)(w:World)(R:VF):Prop:=
 Glob P w→Calls P g args.toArray w fun e w'=>∃v X',e=.returned v∧Below w.heap.size w w'∧(∀b,X b→X' b)∧(∀b,X' b→X b∨(w.heap.size≤b∧b<w'.heap.size))∧R.p v X' w'
theorem Fn.mono {P:Program}{g:Nat}{args:List Value}{X:Nat→Prop}{w:World}{R R':VF}(h:Fn P g args X w R)(hi:∀v X w,R.p v X w→R'.p v X w):Fn P g args X w R':=by
 intro hgl;refine Calls.mono (h hgl) ?_;rintro e w' ⟨v,X',h1,h2,h3,h4,h5⟩;exact⟨v,X',h1,h2,h3,h4,hi _ _ _ h5⟩
theorem aLx {c:Cx}{K:List KF}{n0:Nat}{D:Nat→Prop}{S:St}{o:Oper}{g:Nat}{avs:List AV}{R:VF}(h:gT S.sl o.op=some (g,avs))(hD:∀t,Operand.tmp t∈o.op.operands→D t)(hg:aB c.P g)
  (hp:∀X μ a w aL,PSim c K n0 D S X μ a w→aH μ avs=some aL→Fn c.P g aL X w R):Cert c K n0 D S o (.e S.hp.length) (some .e) [KF.at S.hp.length R] S.ow:=by
 intro X μ a w next Q H hfr hn
 obtain⟨aL,h1,h2⟩:=qZ H h hD hg;refine oV h2 (Calls.mono (hp X μ a w aL H h1 H.glob) ?_);rintro e w' ⟨v,X',rfl,hb,hs,hx,hr⟩;refine⟨v,rfl,?_⟩;refine hn X' (μ.upd S.hp.length (.val v)) v w' ⟨hb.mono H.bel.size,fun b hb' _=>hb.block b hb',by simp[aC,Mu.upd_same],⟨.val v,rfl,trivial,fun b e=>by cases e⟩,hs,fun b hb'=>(hx b hb').imp id .inl,
  H.own.keep (Mu.le_upd (hfr rfl)) hb.size hb.block (fun b hb'=>(hx b hb').imp id (·.1)) (fun k b hk=>?_)⟩ (fun f hf'=>?_)
 ·unfold Mu.upd at hk;split at hk
  ·injection hk with hk;cases hk
  ·exact .inl hk
 ·simp only[List.mem_singleton]at hf';subst hf';exact⟨v,Mu.upd_same _ _ _,hr⟩
section
variable {c:Cx}{P:Program}{ty:Nat→Option TyI}{nt:Nat}{K:List KF}
theorem eE (hc:Ctx c P ty nt){g:Nat}{avs:List AV}{all:Array Oper}{i:Nat}{k:List KI}{S:St}{R:VF}(hg:aB P g)
  (hp:∀n0 D X μ a w aL,PSim c K n0 D S X μ a w→aH μ avs=some aL→Fn P g aL X w R) (n:Nat)
  (h:Goal c (KF.at S.hp.length R::K) (run ty nt (KF.at S.hp.length R::K) n (.ops all (i+1)::k) (S.putO (eU all i) (.e S.hp.length) (some .e) S.ow) [])):Goal c K ⟨.cal g avs all i::k,S,[]⟩:=
 .mk0 (xR (Kn:=[KF.at S.hp.length R]) (fun o n0 D ho hD _=>aLx ho hD (hc.hP▸hg) (fun X μ a w aL H hv=>hc.hP▸hp n0 D X μ a w aL H hv)) (dP hc n h))
theorem mY (hc:Ctx c P ty nt){g:Nat}{avs:List AV}{all:Array Oper}{i n0:Nat}{K0:List KF}{k:List KI}{S:St}{R:VF}(hg:aB P g)
  (hp:∀D X μ a w aL,PSim c K n0 D S X μ a w→aH μ avs=some aL→Fn P g aL X w R) (n:Nat)
  (h:Goal c (KF.at S.hp.length R::K) (run ty nt (KF.at S.hp.length R::K) n (.dops all (i+1) n0 K0::k) (S.putO (eU all i) (.e S.hp.length) (some .e) S.ow) [])):Goal c K ⟨.dcal g avs all i n0 K0::k,S,[]⟩:=
 .mk0 (sK (Kn:=[KF.at S.hp.length R]) (fun o D ho hD=>aLx ho hD (hc.hP▸hg) (fun X μ a w aL H hv=>hc.hP▸hp D X μ a w aL H hv)) (dP hc n h))
def aT1 (c:Cx)(fn:Func)(R:VF):Prop:=
 aEi c fn fun v w'=>∃X',Below c.B.heap.size c.B w'∧(∀b,c.X0 b→X' b)∧(∀b,X' b→c.X0 b∨(c.B.heap.size≤b∧b<w'.heap.size))∧R.p v X' w'
theorem bE (hm:P.follows .mixedOrders=true)(tok:∀t i,ty t=some i→TyOk P t i){g:Nat}{fn:Func}{code:Code}{args:List Value}(avs:List AV){X:Nat→Prop}{w:World}{R:VF}
  (hf:P.funcs[g]?=some fn) (hb:fn.body=some code) (ha:aH iJ avs=some args) (hn:args.length≤fn.ntmps) (hnt:fn.ntmps=nt) (hx:∀b,X b→b<w.heap.size) (hk:∀f,f∈K→f.p X iJ w)
  (h:∀(c:Cx),Ctx c P ty nt→aT1 c fn R→Goal c K ⟨[.code code],⟨oW 0 avs,[],[]⟩,[]⟩):Fn P g args X w R:=by
 intro hgl;refine Calls.mono (enter tok hf hb hn ha hgl (K:=K) (X0:=X) (R:=fun v w'=>∃X',Below w.heap.size w w'∧(∀b,X b→X' b)∧(∀b,X' b→X b∨(w.heap.size≤b∧b<w'.heap.size))∧R.p v X' w') hx hk fun c h1 h2 h3 h4 h5 h6=>?_) ?_
 ·subst h4;subst h5;exact(h c ⟨h1,h2,h3.trans hnt,hm⟩ h6).so
 ·rintro e w' ⟨v,rfl,X',h1,h2,h3,h4⟩;exact⟨v,X',rfl,h1,h2,h3,h4⟩
theorem aS (hc:Ctx c P ty nt){S:St}{fn:Func}{R:VF}(hR:aT1 c fn R){av:AV}(h:oR ty S fn.results.toList=some av)
  (hr:∀X μ a w v,Sim c K S X μ a w→aC μ av=some v→R.p v X w):Goal c K ⟨[],S,[]⟩:=by
 refine .mk0 (aSf av hR (by rw[hc.hty];exact h) fun X μ a w v H hv=>⟨X,H.toP.bel,H.toP.xold,fun b hb=>?_,hr X μ a w v H hv⟩);exact(H.toP.xnew b hb).imp id (fun h=>⟨h,H.toP.xlt b hb⟩)
def iO (ks:List KI):Bool:=match ks with | .cal ..::_=>false | .dcal ..::_=>false | .dops ..::_=>false | _=>true
theorem mZ {ks:List KI}{S S':St}{K':List KF}(hp:iO ks=true)(hv:∀X μ a w,Sim c K S X μ a w→∃X' μ',Sim c K' S' X' μ' a w)(h:Goal c K' ⟨ks,S',[]⟩):Goal c K ⟨ks,S,[]⟩:=by
 have h':=h.so
 refine .mk0 ?_
 match ks,hp,h' with
 | [],_,h'=>exact fun X μ a w H=>by obtain⟨X',μ',H'⟩:=hv X μ a w H;exact h' X' μ' a w H'
 | .code _::_,_,h'=>exact fun X μ a w H=>by obtain⟨X',μ',H'⟩:=hv X μ a w H;exact h' X' μ' a w H'
 | .ops _ _::_,_,h'=>exact fun X μ a w H=>by obtain⟨X',μ',H'⟩:=hv X μ a w H;exact h' X' μ' a w H'
 | .blk _::_,_,h'=>exact fun X μ a w H=>by obtain⟨X',μ',H'⟩:=hv X μ a w H;exact h' X' μ' a w H'
 | .hole _::_,_,h'=>exact fun X μ a w H=>by obtain⟨X',μ',H'⟩:=hv X μ a w H;exact h' X' μ' a w H'
 | .ord _ _::_,_,h'=>exact fun X μ a w H=>by obtain⟨X',μ',H'⟩:=hv X μ a w H;exact h' X' μ' a w H'
def okc (ks:List KI):Bool:=match ks with | .dcal ..::_=>false | .dops ..::_=>false | _=>true
theorem nV {ks:List KI}{S S':St}{K':List KF}(hp:okc ks=true)(hv:∀X μ a w,Sim c K S X μ a w→∃X' μ',Sim c K' S' X' μ' a w)(h:Goal c K' ⟨ks,S',[]⟩)(hsl:S'.sl=S.sl):Goal c K ⟨ks,S,[]⟩:=by
 match ks,hp,h with
 | [],_,h=>exact mZ rfl hv h
 | .code _::_,_,h=>exact mZ rfl hv h
 | .ops _ _::_,_,h=>exact mZ rfl hv h
 | .blk _::_,_,h=>exact mZ rfl hv h
 | .hole _::_,_,h=>exact mZ rfl hv h
 | .ord _ _::_,_,h=>exact mZ rfl hv h
 | .cal g avs all i::k,_,h=>
  have h':=h.so
  refine .mk0 (fun aRa X μ a w H=>?_);obtain⟨X',μ',H'⟩:=hv X μ a w H;obtain⟨o,h1,h2,h3,h4⟩:=aRa.out;exact h' ⟨o,h1,by rw[hsl];exact h2,h3,by rw[hsl];exact h4⟩ X' μ' a w H'
theorem gO {ι:Type}{ks:List KI}{S:St}{K':ι→List KF}{S':ι→St}{p:ι→Prop}(hp:iO ks=true)(hv:∀X μ a w,Sim c K S X μ a w→∃x X' μ',p x∧Sim c (K' x) (S' x) X' μ' a w)(h:∀x,p x→Goal c (K' x) ⟨ks,S' x,[]⟩):Goal c K ⟨ks,S,[]⟩:=by
 have h':=fun x hx=>(h x hx).so
 refine .mk0 ?_
 match ks,hp,h' with
 | [],_,h'=>exact fun X μ a w H=>by obtain⟨x,X',μ',hx,H'⟩:=hv X μ a w H;exact h' x hx X' μ' a w H'
 | .code _::_,_,h'=>exact fun X μ a w H=>by obtain⟨x,X',μ',hx,H'⟩:=hv X μ a w H;exact h' x hx X' μ' a w H'
 | .ops _ _::_,_,h'=>exact fun X μ a w H=>by obtain⟨x,X',μ',hx,H'⟩:=hv X μ a w H;exact h' x hx X' μ' a w H'
 | .blk _::_,_,h'=>exact fun X μ a w H=>by obtain⟨x,X',μ',hx,H'⟩:=hv X μ a w H;exact h' x hx X' μ' a w H'
 | .hole _::_,_,h'=>exact fun X μ a w H=>by obtain⟨x,X',μ',hx,H'⟩:=hv X μ a w H;exact h' x hx X' μ' a w H'
 | .ord _ _::_,_,h'=>exact fun X μ a w H=>by obtain⟨x,X',μ',hx,H'⟩:=hv X μ a w H;exact h' x hx X' μ' a w H'
variable {S:St}{X:Nat→Prop}{μ:Mu}{a:Act}{w:World}
theorem pY (H:Sim c K S X μ a w){blk:Blk}{m:MV}(hm:∀b,m≠.own b)(hok:blk.ok X (μ.upd S.hp.length m) w m):Sim c K {S with hp:=S.hp++[blk]} X (μ.upd S.hp.length m) a w:=by
 have hle:Mu.le μ (μ.upd S.hp.length m):=Mu.le_upd (H.dom _ (lRf _))
 have:=lB (Kn:=[]) H (d:=none) rfl (av:=.q undef) (nb:=some blk) (ow:=S.ow) (v:=undef) (X':=X) (w':=w) ⟨Below.refl _ _,fun _ _ _=>rfl,by simp[aC],⟨m,rfl,hok,fun b e=>(hm b e).elim⟩,fun _ h=>h,fun _ h=>.inl h,
  H.toP.own.keep hle (lRf _) (fun _ _=>rfl) (fun b h=>.inl h) (fun k b hk=>by
   unfold Mu.upd at hk;split at hk
   ·injection hk with hk;exact(hm b hk).elim
   ·exact .inl hk)⟩ (fun f hf=>by cases hf)
 simpa[St.putO,Act.put]using this
theorem iC (H:Sim c K S X μ a w){d:Nat}{av av':AV}(hl:look S.sl d=some av)(he:aC μ av'=aC μ av):Sim c K {S with sl:=(d,av')::S.sl} X μ a w:=by
 have P:=H.toP
 refine⟨⟨P.dfr,P.size,?_,P.heap,P.all,P.inj,P.loc,P.xlt,P.xnew,P.xold,P.bel,P.kf,P.own⟩,H.dom⟩;intro t b _ hb
 by_cases e:d=t
 ·subst e;rw[bF]at hb;injection hb with hb;subst hb
  obtain⟨v,h1,h2⟩:=P.slots d av trivial hl;exact⟨v,by rw[he];exact h1,h2⟩
 ·rw[bA e]at hb;exact P.slots t b trivial hb
theorem pZ (H:Sim c K S X μ a w){f:KF}(hf:f.p X μ w):Sim c (f::K) S X μ a w:=by
 have P:=H.toP
 refine⟨⟨P.dfr,P.size,P.slots,P.heap,P.all,P.inj,P.loc,P.xlt,P.xnew,P.xold,P.bel,?_,P.own⟩,H.dom⟩;intro g hg
 rcases List.mem_cons.1 hg with e | e
 ·subst e;exact hf
 ·exact P.kf g e
def lE (kd:IntKind)(l:List Int):VF where
 p v X w:=∃(a:Option (Nat × Nat)) (cap:Nat),v=.slice (a.map fun x=>⟨x.1,x.2,none⟩) l.length cap∧l.length≤cap∧match a with
  | none=>l=[]∧cap=0
  | some (b,o)=>X b∧∃cs,∃ty:Nat × Nat × Nat,w.heap[b]?=some (.cells cs ty.1 ty.2)∧∀i x,l[i]?=some x→cs[o+i]?=some (.int kd x)
 st v X X' w w' hs hw h:=by
  obtain⟨a,cap,h1,h2,h3⟩:=h;refine⟨a,cap,h1,h2,?_⟩
  match a,h3 with
  | none,h3=>exact h3
  | some (b,o),⟨h3,cs,ty,h4,h5⟩=>exact⟨hs _ h3,cs,ty,by rw[hw _ h3];exact h4,h5⟩
theorem gU {k off:Nat}{len:IE}{cap:Nat}{a:Option (Nat × Nat)}(h:atS μ k=some a)(h0:0≤len.den)(h1:a=none→len.den=0∧cap=0):aC μ (.sl k off len cap)=some (.slice (a.map fun x=>⟨x.1,x.2+off,none⟩) len.den.toNat cap):=by
 simp only[aC,h];rw[if_pos ⟨h0,h1⟩]
structure RowX where
 f:Nat→Int
 n:Nat
 cap:Nat
theorem dQ {ks:List KI}(d:Nat){av:AV}(kd:IntKind)(l:List Int)(hp:iO ks=true)(hl:look S.sl d=some av)(hr:∀X μ a w v,Sim c K S X μ a w→aC μ av=some v→(lE kd l).p v X w)
  (h:∀f N cap,N=l.length→(∀i x,l[i]?=some x→f i=x)→N≤cap→Goal c K ⟨ks,{S with sl:=(d,.sl S.hp.length 0 (.n N) cap)::S.sl,hp:=S.hp++[.xi kd N f]},[]⟩):Goal c K ⟨ks,S,[]⟩:=by
 refine gO (ι:=RowX) (K':=fun _=>K) (S':=fun x=>{S with sl:=(d,.sl S.hp.length 0 (.n x.n) x.cap)::S.sl,hp:=S.hp++[.xi kd x.n x.f]}) (p:=fun x=>x.n=l.length∧(∀i y,l[i]?=some y→x.f i=y)∧x.n≤x.cap) hp ?_ (fun x hx=>h x.f x.n x.cap hx.1 hx.2.1 hx.2.2);intro X μ a w H;obtain⟨v,hv,hs⟩:=H.toP.slots d av trivial hl;obtain⟨ad,cap,e1,e2,e3⟩:=hr X μ a w v H hv;have hok:(Blk.xi kd l.length (fun i=>l.getD i 0)).ok X (μ.upd S.hp.length (.ext ad)) w (.ext ad):=by
  match ad,e3 with
  | none,e3=>simp[Blk.ok,e3.1]
  | some (b,o),⟨q1,cs,ty,q2,q3⟩=>exact⟨q1,cs,ty,q2,fun i hi=>by rw[q3 i l[i] (by simp[hi])];simp[hi]⟩
 refine⟨⟨fun i=>l.getD i 0,l.length,cap⟩,X,μ.upd S.hp.length (.ext ad),⟨rfl,fun i y hy=>by simp[List.getD_eq_getElem?_getD,hy],e2⟩,?_⟩;have H1:=pY H (blk:=.xi kd l.length (fun i=>l.getD i 0)) (m:=.ext ad) (fun b e=>by cases e) hok
 refine iC (av:=av) H1 hl ?_;rw[gK (Mu.le_upd (H.dom _ (lRf _))) av v hv];have hz:(0:Int)≤(IE.n l.length).den:=by simp[IE.den]
 refine(gU (len:=.n l.length) (a:=ad) (by simp[atS,Mu.upd_same,MV.atS]) hz (fun e=>?_)).trans ?_
 rotate_left
 ·rw[e1];simp[IE.den]
 ·subst e;simp only at e3;simp[IE.den,e3.1,e3.2]
structure RowK where
 f:Nat→Int
 n:Nat
 cap:Nat
 a:Option (Nat × Nat)
theorem aSu {ks:List KI}(d:Nat){v0:Value}(kd:IntKind)(l:List Int)(hp:iO ks=true)(hl:look S.sl d=some (.q v0))(hr:∀X μ a w,Sim c K S X μ a w→(lE kd l).p v0 X w)
  (h:∀f N cap a,N=l.length→(∀i x,l[i]?=some x→f i=x)→N≤cap→v0=.slice (a.map fun x=>⟨x.1,x.2,none⟩) N cap→Goal c (KF.ext S.hp.length a::K) ⟨ks,{S with sl:=(d,.sl S.hp.length 0 (.n N) cap)::S.sl,hp:=S.hp++[.xi kd N f]},[]⟩):Goal c K ⟨ks,S,[]⟩:=by
 refine gO (ι:=RowK) (K':=fun x=>KF.ext S.hp.length x.a::K) (S':=fun x=>{S with sl:=(d,.sl S.hp.length 0 (.n x.n) x.cap)::S.sl,hp:=S.hp++[.xi kd x.n x.f]}) (p:=fun x=>x.n=l.length∧(∀i y,l[i]?=some y→x.f i=y)∧x.n≤x.cap∧v0=.slice (x.a.map fun y=>⟨y.1,y.2,none⟩) x.n x.cap) hp ?_ (fun x hx=>h x.f x.n x.cap x.a hx.1 hx.2.1 hx.2.2.1 hx.2.2.2);intro X μ a w H;obtain⟨ad,cap,e1,e2,e3⟩:=hr X μ a w H;have hok:(Blk.xi kd l.length (fun i=>l.getD i 0)).ok X (μ.upd S.hp.length (.ext ad)) w (.ext ad):=by
  match ad,e3 with
  | none,e3=>simp[Blk.ok,e3.1]
  | some (b,o),⟨q1,cs,ty,q2,q3⟩=>exact⟨q1,cs,ty,q2,fun i hi=>by rw[q3 i l[i] (by simp[hi])];simp[hi]⟩
 refine⟨⟨fun i=>l.getD i 0,l.length,cap,ad⟩,X,μ.upd S.hp.length (.ext ad),⟨rfl,fun i y hy=>by simp[List.getD_eq_getElem?_getD,hy],e2,e1⟩,?_⟩;have H1:=pY H (blk:=.xi kd l.length (fun i=>l.getD i 0)) (m:=.ext ad) (fun b e=>by cases e) hok
 refine pZ (iC (av:=.q v0) H1 hl ?_) (f:=KF.ext S.hp.length ad) (Mu.upd_same _ _ _);have hz:(0:Int)≤(IE.n l.length).den:=by simp[IE.den]
 refine(gU (len:=.n l.length) (a:=ad) (by simp[atS,Mu.upd_same,MV.atS]) hz (fun e=>?_)).trans ?_
 rotate_left
 ·rw[show aC (μ.upd S.hp.length (.ext ad)) (.q v0)=some v0 from rfl,e1];simp[IE.den]
 ·subst e;simp only at e3;simp[IE.den,e3.1,e3.2]
theorem PSim.row {n0:Nat}{D:Nat→Prop}(H:PSim c K n0 D S X μ a w){k off N cap:Nat}{kd:IntKind}{f:Nat→Int}{len:IE}{v:Value}(hk:S.hp[k]?=some (.xi kd N f))(hv:aC μ (.sl k off len cap)=some v){l:List Int}(hl:(l.length:Int)=len.den)
  (hf:∀i x,l[i]?=some x→f (off+i)=x) (hN:off+l.length≤N) (hc:l.length≤cap):(lE kd l).p v X w:=by
 obtain⟨ad,h1,h2,h3,h4⟩:=nO hv;refine⟨ad.map fun x=>(x.1,x.2+off),cap,by rw[h2,←hl];cases ad<;>simp,hc,?_⟩;cases hm:μ k with
 | none=>simp[atS,hm]at h1
 | some m=>
  have hok:=H.heap k _ m hk hm
  simp only[atS,hm,Option.bind_some]at h1
  match m,ad,h1,hok with
  | .ext none,ad,h1,hok=>
   simp only[MV.atS,Option.some.injEq]at h1;subst h1;obtain⟨q1,q2⟩:=h4 rfl;exact⟨List.eq_nil_of_length_eq_zero (by omega),q2⟩
  | .ext (some (b,o)),ad,h1,hok=>
   simp only[MV.atS,Option.some.injEq]at h1;subst h1;obtain⟨q1,cs,ty,q2,q3⟩:=hok;refine⟨q1,cs,ty,q2,fun i x hx=>?_⟩;have hi:=(List.getElem?_eq_some_iff.1 hx).1
   have:=q3 (off+i) (by omega)
   rw[hf i x hx]at this;rw[←this];congr 1;omega
  | .own b,ad,h1,hok=>exact hok.elim
theorem PSim.val {n0:Nat}{D:Nat→Prop}(H:PSim c K n0 D S X μ a w){k:Nat}{R:VF}{v:Value}(hf:KF.at k R∈K)(hv:aC μ (.e k)=some v):R.p v X w:=by
 obtain⟨u,h1,h2⟩:=H.kf _ hf;simp only[aC,h1]at hv;injection hv with hv;subst hv;exact h2
theorem PSim.cst {n0:Nat}{D:Nat→Prop}(H:PSim c K n0 D S X μ a w){v:Value}{R:VF}(hf:KF.cst v R∈K):R.p v X w:=H.kf _ hf
theorem aJn {μ μ':Mu}(h1:∀k,oY μ' k=oY μ k)(h2:∀k,atS μ' k=atS μ k)(h3:∀k v,μ' k=some (.val v)↔μ k=some (.val v)):(∀av,aC μ' av=aC μ av)∧(∀l,aH μ' l=aH μ l):=by
 have he:∀k,aC μ' (.e k)=aC μ (.e k):=fun k=>by
  simp only[aC];cases hk:μ k with
  | none=>
   split
   ·rename_i v hv;rw[(h3 k v).1 hv]at hk;cases hk
   ·rfl
  | some m=>
   cases m with
   | val v=>rw[(h3 k v).2 hk]
   | own b=>
    split
    ·rename_i v hv;rw[(h3 k v).1 hv]at hk;cases hk
    ·rfl
   | ext b=>
    split
    ·rename_i v hv;rw[(h3 k v).1 hv]at hk;cases hk
    ·rfl
 have hec:∀k j,aC μ' (.ec k j)=aC μ (.ec k j):=fun k j=>by
  have:=he k
  simp only[aC]at this ⊢;cases hk:μ k with
  | none=>
   rw[hk]at this;split
   ·rename_i v hv;rw[(h3 k v).1 hv]at hk;cases hk
   ·rfl
  | some m=>
   cases m with
   | val v=>rw[(h3 k v).2 hk]
   | own b=>
    split
    ·rename_i v hv;rw[(h3 k v).1 hv]at hk;cases hk
    ·rfl
   | ext b=>
    split
    ·rename_i v hv;rw[(h3 k v).1 hv]at hk;cases hk
    ·rfl
 have key:∀(av:AV),aC μ' av=aC μ av:=fun av=>by
  refine AV.rec (motive_1:=fun av=>aC μ' av=aC μ av) (motive_2:=fun l=>aH μ' l=aH μ l) ?_ ?_ ?_ ?_ ?_ ?_ ?_ ?_ ?_ ?_ ?_ ?_ ?_ ?_ ?_ ?_ av
  case refine_8=>intro k;exact he k
  case refine_14=>intro k j;exact hec k j
  all_goals intros;simp_all [aC,aH]
 refine⟨key,fun l=>?_⟩
 induction l with
 | nil=>rfl
 | cons x l ih=>simp only[aH,key,ih]
def dJ (r:Value):VF:=⟨fun v _ _=>v=r,fun _ _ _ _ _ _ _ h=>h⟩
theorem cE {v u:Value}{R:VF}(H:Sim c K S X μ a w)(hf:KF.cst v R∈K)(hv:aC μ (.q v)=some u):R.p u X w:=by
 simp only[aC]at hv;injection hv with hv;subst hv;exact H.toP.cst hf
theorem fX (hc:Ctx c P ty nt)(av:AV){g:Nat}{avs:List AV}{all:Array Oper}{i:Nat}{k:List KI}{S:St}{aL:List Value}{r:Value}(hp:Pure P g aL r)(hg:aB P g)(ha:aH iJ avs=some aL)(hr:aC iJ av=some r)(n:Nat)
  (h:Goal c K (run ty nt K n (.ops all (i+1)::k) (S.put (eU all i) av none) [])):Goal c K ⟨.cal g avs all i::k,S,[]⟩:=
 .mk0 (aSe (hc.hP▸hp) (hc.hP▸hg) av ha hr (dP hc n h))
theorem zC(hc:Ctx c P ty nt)(av:AV){g:Nat}{avs:List AV}{all:Array Oper}{i:Nat}{k:List KI}{S:St}{aL:List Value}{r:Value}(hp:Pure P g aL r)(hg:aB P g)(h:Goal c K (run ty nt K 100 (.ops all (i+1)::k) (S.put (eU all i) av none) []))(ha:aH iJ avs=some aL:=by exact rfl)(hr:aC iJ av=some r:=by exact rfl):Goal c K ⟨.cal g avs all i::k,S,[]⟩:=fX hc av hp hg ha hr 100 h
theorem dX (hc:Ctx c P ty nt)(av:AV){g:Nat}{avs:List AV}{all:Array Oper}{i n0:Nat}{K0:List KF}{k:List KI}{S:St}{aL:List Value}{r:Value}(hp:Pure P g aL r)(hg:aB P g)(ha:aH iJ avs=some aL)(hr:aC iJ av=some r)(n:Nat)
  (h:Goal c K (run ty nt K n (.dops all (i+1) n0 K0::k) (S.put (eU all i) av none) [])):Goal c K ⟨.dcal g avs all i n0 K0::k,S,[]⟩:=
 .mk0 (aVf (hc.hP▸hp) (hc.hP▸hg) av ha hr (dP hc n h))
theorem zD(hc:Ctx c P ty nt)(av:AV){g:Nat}{avs:List AV}{all:Array Oper}{i n0:Nat}{K0:List KF}{k:List KI}{S:St}{aL:List Value}{r:Value}(hp:Pure P g aL r)(hg:aB P g)(h:Goal c K (run ty nt K 100 (.dops all (i+1) n0 K0::k) (S.put (eU all i) av none) []))(ha:aH iJ avs=some aL:=by exact rfl)(hr:aC iJ av=some r:=by exact rfl):Goal c K ⟨.dcal g avs all i n0 K0::k,S,[]⟩:=dX hc av hp hg ha hr 100 h
theorem aG (hm:P.follows .mixedOrders=true)(tok:∀t i,ty t=some i→TyOk P t i){g:Nat}{fn:Func}{code:Code}{args:List Value}{r:Value}(avs:List AV)
  (hf:P.funcs[g]?=some fn) (hb:fn.body=some code) (ha:aH iJ avs=some args) (hn:args.length≤fn.ntmps) (hnt:fn.ntmps=nt)
  (h:∀(c:Cx),Ctx c P ty nt→(aEi c fn fun v w'=>v=r∧Below c.B.heap.size c.B w')→Goal c [] ⟨[.code code],⟨oW 0 avs,[],[]⟩,[]⟩):
  Pure P g args r:=by
 intro B hgl;refine(enter tok hf hb hn ha hgl (K:=[]) (R:=fun v w'=>v=r∧Below B.heap.size B w') (X0:=fun b=>b<B.heap.size) (fun b h=>h) (fun f hf=>by cases hf) fun c h1 h2 h3 h4 _ h5=>?_).mono ?_
 ·subst h4;exact(h c ⟨h1,h2,h3.trans hnt,hm⟩ h5).so
 ·rintro e w' ⟨v,rfl,rfl,hb⟩;exact⟨rfl,hb⟩
theorem aC9 {c:Cx}{K:List KF}{n0:Nat}{D:Nat→Prop}{S:St}{o:Oper}{g:Nat}{avs:List AV}{r:Value}{av:AV}(h:gT S.sl o.op=some (g,avs))(hD:∀t,Operand.tmp t∈o.op.operands→D t)(hg:aB c.P g)
  (hp:∀X μ a w aL,PSim c K n0 D S X μ a w→aH μ avs=some aL→Fn c.P g aL X w (dJ r)) (hr:aC iJ av=some r):Cert c K n0 D S o av none [] S.ow:=by
 refine oI h hD hg fun X μ a w aL H hv=>?_
 refine Calls.mono (hp X μ a w aL H hv H.glob) ?_;rintro e w' ⟨v,X',rfl,hb,hs,hx,hr'⟩;have hr':v=r:=hr'
 subst hr';exact⟨X',v,rfl,⟨hb.mono H.bel.size,fun b hb' _=>hb.block b hb',eS hr,rfl,hs,fun b hb'=>(hx b hb').imp id .inl,
  H.own.keep (Mu.le_refl _) hb.size hb.block (fun b hb'=>(hx b hb').imp id (·.1)) (fun k b hk=>.inl hk)⟩,fun f hf=>by cases hf⟩
theorem bL (hc:Ctx c P ty nt)(av:AV){g:Nat}{avs:List AV}{all:Array Oper}{i:Nat}{k:List KI}{S:St}{r:Value}(hg:aB P g)
  (hp:∀n0 D X μ a w aL,PSim c K n0 D S X μ a w→aH μ avs=some aL→Fn P g aL X w (dJ r)) (hr:aC iJ av=some r) (n:Nat)
  (h:Goal c K (run ty nt K n (.ops all (i+1)::k) (S.putO (eU all i) av none S.ow) [])):Goal c K ⟨.cal g avs all i::k,S,[]⟩:=
 .mk0 (xR (Kn:=[]) (fun o n0 D ho hD _=>aC9 ho hD (hc.hP▸hg) (fun X μ a w aL H hv=>hc.hP▸hp n0 D X μ a w aL H hv) hr) (dP hc n h))
theorem pV (hc:Ctx c P ty nt)(av:AV){g:Nat}{avs:List AV}{all:Array Oper}{i n0:Nat}{K0:List KF}{k:List KI}{S:St}{r:Value}(hg:aB P g)
  (hp:∀D X μ a w aL,PSim c K n0 D S X μ a w→aH μ avs=some aL→Fn P g aL X w (dJ r)) (hr:aC iJ av=some r) (n:Nat)
  (h:Goal c K (run ty nt K n (.dops all (i+1) n0 K0::k) (S.putO (eU all i) av none S.ow) [])):Goal c K ⟨.dcal g avs all i n0 K0::k,S,[]⟩:=
 .mk0 (sK (Kn:=[]) (fun o D ho hD=>aC9 ho hD (hc.hP▸hg) (fun X μ a w aL H hv=>hc.hP▸hp D X μ a w aL H hv) hr) (dP hc n h))
end
end Go.Ai
