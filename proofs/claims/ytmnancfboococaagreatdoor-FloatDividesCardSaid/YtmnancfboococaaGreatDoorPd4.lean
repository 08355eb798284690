/- Part 5: lemmas for garboardlaw17.FloatDivides -/
import Derived.Laws.AppendOwn
import Derived.Laws.MakeOwn
import Derived.Laws.OwnMore
import Derived.Test.YtmnancfboococaaGreatDoorPd3
set_option linter.all false
namespace Go.Ai
open Go Go.RowKit
def KF.cst (v:Value)(R:VF):KF:=⟨λX _ w=>R.p v X w,λX X' _ _ w w' hs _ hw h=>R.st v X X' w w' hs hw h⟩
def KF.at (k:Nat)(R:VF):KF:=
 ⟨λX μ w=>∃v,μ k=some (.val v)/\R.p v X w,λX X' _ _ w w' hs hv hw h=>by
  obtain⟨v,h1,h2⟩:=h;exact⟨v,hv.fx _ _ rfl h1,R.st v X X' w w' hs hw h2⟩⟩
def KF.ext (k:Nat)(a:Option (Nat × Nat)):KF:=⟨λ_ μ _=>μ k=some (.ext a),λ_ _ _ _ _ _ _ hv _ h=>hv.fx _ _ rfl h⟩
def Fn (P:Program)(g:Nat)(args:List Value)(X:Nat->Prop)(w:World)(R:VF):Prop:=
 Glob P w->Calls P g args.toArray w λe w'=>∃v X',e=.returned v/\Below w.heap.size w w'/\(∀b,X b->X' b)/\(∀b,X' b->X b\/(w.heap.size<=b/\b<w'.heap.size))/\R.p v X' w'
theorem Fn.mono {P:Program}{g:Nat}{args:List Value}{X:Nat->Prop}{w:World}{R R':VF}(h:Fn P g args X w R)(hi:∀v X w,R.p v X w->R'.p v X w):Fn P g args X w R':=by
 intro hgl;refine Calls.mono (h hgl) ?_;rintro e w' ⟨v,X',h1,h2,h3,h4,h5⟩;exact⟨v,X',h1,h2,h3,h4,hi _ _ _ h5⟩
theorem aMr {c:Cx}{K:List KF}{n0:Nat}{D:Nat->Prop}{S:St}{o:Oper}{g:Nat}{avs:List AV}{R:VF}(h:iD S.sl o.op=some (g,avs))(hD:∀t,Operand.tmp t∈o.op.operands->D t)(hg:aB c.P g)
  (hp:∀X μ a w aK,PSim c K n0 D S X μ a w->aF μ avs=some aK->Fn c.P g aK X w R):Cert c K n0 D S o (.e S.hp.length) (some .e) [KF.at S.hp.length R] S.ow:=by
 intro X μ a w next Q H hfr hn
 obtain⟨aK,h1,h2⟩:=rX H h hD hg;refine pR h2 (Calls.mono (hp X μ a w aK H h1 H.glob) ?_);rintro e w' ⟨v,X',rfl,hb,hs,hx,hr⟩;refine⟨v,rfl,?_⟩;refine hn X' (μ.upd S.hp.length (.val v)) v w' ⟨hb.mono H.bel.size,λb hb' _=>hb.block b hb',by simp[aD,Mu.upd_same],⟨.val v,rfl,trivial,λb e=>by cases e⟩,hs,λb hb'=>(hx b hb').imp id .inl,
  H.own.keep (Mu.le_upd (hfr rfl)) hb.size hb.block (λb hb'=>(hx b hb').imp id (·.1)) (λk b hk=>?_)⟩ (λf hf'=>?_)
 ·unfold Mu.upd at hk;split at hk
  ·injection hk with hk;cases hk
  ·exact .inl hk
 ·simp only[List.mem_singleton]at hf';subst hf';exact⟨v,Mu.upd_same _ _ _,hr⟩
section
variable {c:Cx}{P:Program}{ty:Nat->Option TyI}{nt:Nat}{K:List KF}
theorem dO (hc:Ctx c P ty nt){g:Nat}{avs:List AV}{all:Array Oper}{i:Nat}{k:List KI}{S:St}{R:VF}(hg:aB P g)
  (hp:∀n0 D X μ a w aK,PSim c K n0 D S X μ a w->aF μ avs=some aK->Fn P g aK X w R) (n:Nat)
  (h:Goal c (KF.at S.hp.length R::K) (run ty nt (KF.at S.hp.length R::K) n (.ops all (i+1)::k) (S.putO (fL all i) (.e S.hp.length) (some .e) S.ow) [])):Goal c K ⟨.cal g avs all i::k,S,[]⟩:=
 .mk0 (yI (Kn:=[KF.at S.hp.length R]) (λo n0 D ho hD _=>aMr ho hD (hc.hP▸hg) (λX μ a w aK H hv=>hc.hP▸hp n0 D X μ a w aK H hv)) (dX hc n h))
theorem iK (hc:Ctx c P ty nt){g:Nat}{avs:List AV}{all:Array Oper}{i n0:Nat}{K0:List KF}{k:List KI}{S:St}{R:VF}(hg:aB P g)
  (hp:∀D X μ a w aK,PSim c K n0 D S X μ a w->aF μ avs=some aK->Fn P g aK X w R) (n:Nat)
  (h:Goal c (KF.at S.hp.length R::K) (run ty nt (KF.at S.hp.length R::K) n (.dops all (i+1) n0 K0::k) (S.putO (fL all i) (.e S.hp.length) (some .e) S.ow) [])):Goal c K ⟨.dcal g avs all i n0 K0::k,S,[]⟩:=
 .mk0 (tP (Kn:=[KF.at S.hp.length R]) (λo D ho hD=>aMr ho hD (hc.hP▸hg) (λX μ a w aK H hv=>hc.hP▸hp D X μ a w aK H hv)) (dX hc n h))
def aU2 (c:Cx)(fn:Func)(R:VF):Prop:=
 aC9 c fn λv w'=>∃X',Below c.B.heap.size c.B w'/\(∀b,c.X0 b->X' b)/\(∀b,X' b->c.X0 b\/(c.B.heap.size<=b/\b<w'.heap.size))/\R.p v X' w'
theorem bE (hm:P.follows .mixedOrders=true)(tok:∀t i,ty t=some i->TyOk P t i){g:Nat}{fn:Func}{code:Code}{args:List Value}(avs:List AV){X:Nat->Prop}{w:World}{R:VF}
  (hf:P.funcs[g]?=some fn) (hb:fn.body=some code) (ha:aF iN avs=some args) (hn:args.length<=fn.ntmps) (hnt:fn.ntmps=nt) (hx:∀b,X b->b<w.heap.size) (hk:∀f,f∈K->f.p X iN w)
  (h:∀(c:Cx),Ctx c P ty nt->aU2 c fn R->Goal c K ⟨[.code code],⟨pS 0 avs,[],[]⟩,[]⟩):Fn P g args X w R:=by
 intro hgl;refine Calls.mono (enter tok hf hb hn ha hgl (K:=K) (X0:=X) (R:=λv w'=>∃X',Below w.heap.size w w'/\(∀b,X b->X' b)/\(∀b,X' b->X b\/(w.heap.size<=b/\b<w'.heap.size))/\R.p v X' w') hx hk λc h1 h2 h3 h4 h5 h6=>?_) ?_
 ·subst h4;subst h5;exact(h c ⟨h1,h2,h3.trans hnt,hm⟩ h6).so
 ·rintro e w' ⟨v,rfl,X',h1,h2,h3,h4⟩;exact⟨v,X',rfl,h1,h2,h3,h4⟩
theorem aR (hc:Ctx c P ty nt){S:St}{fn:Func}{R:VF}(hR:aU2 c fn R){av:AV}(h:oM ty S fn.results.toList=some av)
  (hr:∀X μ a w v,Sim c K S X μ a w->aD μ av=some v->R.p v X w):Goal c K ⟨[],S,[]⟩:=by
 refine .mk0 (aTd av hR (by rw[hc.hty];exact h) λX μ a w v H hv=>⟨X,H.toP.bel,H.toP.xold,λb hb=>?_,hr X μ a w v H hv⟩);exact(H.toP.xnew b hb).imp id (λh=>⟨h,H.toP.xlt b hb⟩)
def iJ (ks:List KI):Bool:=match ks with | .cal ..::_=>false | .dcal ..::_=>false | .dops ..::_=>false | _=>true
theorem nS {ks:List KI}{S S':St}{K':List KF}(hp:iJ ks=true)(hv:∀X μ a w,Sim c K S X μ a w->∃X' μ',Sim c K' S' X' μ' a w)(h:Goal c K' ⟨ks,S',[]⟩):Goal c K ⟨ks,S,[]⟩:=by
 have h':=h.so
 refine .mk0 ?_;match ks,hp,h' with
 | [],_,h'=>exact λX μ a w H=>by obtain⟨X',μ',H'⟩:=hv X μ a w H;exact h' X' μ' a w H'
 | .code _::_,_,h'=>exact λX μ a w H=>by obtain⟨X',μ',H'⟩:=hv X μ a w H;exact h' X' μ' a w H'
 | .ops _ _::_,_,h'=>exact λX μ a w H=>by obtain⟨X',μ',H'⟩:=hv X μ a w H;exact h' X' μ' a w H'
 | .blk _::_,_,h'=>exact λX μ a w H=>by obtain⟨X',μ',H'⟩:=hv X μ a w H;exact h' X' μ' a w H'
 | .hole _::_,_,h'=>exact λX μ a w H=>by obtain⟨X',μ',H'⟩:=hv X μ a w H;exact h' X' μ' a w H'
 | .ord _ _::_,_,h'=>exact λX μ a w H=>by obtain⟨X',μ',H'⟩:=hv X μ a w H;exact h' X' μ' a w H'
def okc (ks:List KI):Bool:=match ks with | .dcal ..::_=>false | .dops ..::_=>false | _=>true
theorem oN {ks:List KI}{S S':St}{K':List KF}(hp:okc ks=true)(hv:∀X μ a w,Sim c K S X μ a w->∃X' μ',Sim c K' S' X' μ' a w)(h:Goal c K' ⟨ks,S',[]⟩)(hsl:S'.sl=S.sl):Goal c K ⟨ks,S,[]⟩:=by
 match ks,hp,h with
 | [],_,h=>exact nS rfl hv h
 | .code _::_,_,h=>exact nS rfl hv h
 | .ops _ _::_,_,h=>exact nS rfl hv h
 | .blk _::_,_,h=>exact nS rfl hv h
 | .hole _::_,_,h=>exact nS rfl hv h
 | .ord _ _::_,_,h=>exact nS rfl hv h
 | .cal g avs all i::k,_,h=>
  have h':=h.so
  refine .mk0 (λaR6 X μ a w H=>?_);obtain⟨X',μ',H'⟩:=hv X μ a w H;obtain⟨o,h1,h2,h3,h4⟩:=aR6.out;exact h' ⟨o,h1,by rw[hsl];exact h2,h3,by rw[hsl];exact h4⟩ X' μ' a w H'
theorem fT {ι:Type}{ks:List KI}{S:St}{K':ι->List KF}{S':ι->St}{p:ι->Prop}(hp:iJ ks=true)(hv:∀X μ a w,Sim c K S X μ a w->∃x X' μ',p x/\Sim c (K' x) (S' x) X' μ' a w)(h:∀x,p x->Goal c (K' x) ⟨ks,S' x,[]⟩):Goal c K ⟨ks,S,[]⟩:=by
 have h':=λx hx=>(h x hx).so
 refine .mk0 ?_;match ks,hp,h' with
 | [],_,h'=>exact λX μ a w H=>by obtain⟨x,X',μ',hx,H'⟩:=hv X μ a w H;exact h' x hx X' μ' a w H'
 | .code _::_,_,h'=>exact λX μ a w H=>by obtain⟨x,X',μ',hx,H'⟩:=hv X μ a w H;exact h' x hx X' μ' a w H'
 | .ops _ _::_,_,h'=>exact λX μ a w H=>by obtain⟨x,X',μ',hx,H'⟩:=hv X μ a w H;exact h' x hx X' μ' a w H'
 | .blk _::_,_,h'=>exact λX μ a w H=>by obtain⟨x,X',μ',hx,H'⟩:=hv X μ a w H;exact h' x hx X' μ' a w H'
 | .hole _::_,_,h'=>exact λX μ a w H=>by obtain⟨x,X',μ',hx,H'⟩:=hv X μ a w H;exact h' x hx X' μ' a w H'
 | .ord _ _::_,_,h'=>exact λX μ a w H=>by obtain⟨x,X',μ',hx,H'⟩:=hv X μ a w H;exact h' x hx X' μ' a w H'
variable {S:St}{X:Nat->Prop}{μ:Mu}{a:Act}{w:World}
theorem qT (H:Sim c K S X μ a w){blk:Blk}{m:MV}(hm:∀b,m≠.own b)(hok:blk.ok X (μ.upd S.hp.length m) w m):Sim c K {S with hp:=S.hp++[blk]} X (μ.upd S.hp.length m) a w:=by
 have hle:Mu.le μ (μ.upd S.hp.length m):=Mu.le_upd (H.dom _ (lRf _))
 have:=lV (Kn:=[]) H (d:=none) rfl (av:=.q undef) (nb:=some blk) (ow:=S.ow) (v:=undef) (X':=X) (w':=w) ⟨Below.refl _ _,λ_ _ _=>rfl,by simp[aD],⟨m,rfl,hok,λb e=>(hm b e).elim⟩,λ_ h=>h,λ_ h=>.inl h,
  H.toP.own.keep hle (lRf _) (λ_ _=>rfl) (λb h=>.inl h) (λk b hk=>by
   unfold Mu.upd at hk;split at hk
   ·injection hk with hk;exact(hm b hk).elim
   ·exact .inl hk)⟩ (λf hf=>by cases hf)
 simpa[St.putO,Act.put]using this
theorem iL (H:Sim c K S X μ a w){d:Nat}{av av':AV}(hl:look S.sl d=some av)(he:aD μ av'=aD μ av):Sim c K {S with sl:=(d,av')::S.sl} X μ a w:=by
 have P:=H.toP
 refine⟨⟨P.dfr,P.size,?_,P.heap,P.all,P.inj,P.loc,P.xlt,P.xnew,P.xold,P.bel,P.kf,P.own⟩,H.dom⟩;intro t b _ hb;by_cases e:d=t
 ·subst e;rw[bH]at hb;injection hb with hb;subst hb
  obtain⟨v,h1,h2⟩:=P.slots d av trivial hl;exact⟨v,by rw[he];exact h1,h2⟩
 ·rw[bB e]at hb;exact P.slots t b trivial hb
theorem lC (H:Sim c K S X μ a w){f:KF}(hf:f.p X μ w):Sim c (f::K) S X μ a w:=by
 have P:=H.toP
 refine⟨⟨P.dfr,P.size,P.slots,P.heap,P.all,P.inj,P.loc,P.xlt,P.xnew,P.xold,P.bel,?_,P.own⟩,H.dom⟩;intro g hg;rcases List.mem_cons.1 hg with e | e
 ·subst e;exact hf
 ·exact P.kf g e
def lX (kd:IntKind)(l:List Int):VF where
 p v X w:=∃(a:Option (Nat × Nat)) (cap:Nat),v=.slice (a.map λx=>⟨x.1,x.2,none⟩) l.length cap/\l.length<=cap/\match a with
  | none=>l=[]/\cap=0
  | some (b,o)=>X b/\∃cs,∃ty:Nat × Nat × Nat,w.heap[b]?=some (.cells cs ty.1 ty.2)/\∀i x,l[i]?=some x->cs[o+i]?=some (.int kd x)
 st v X X' w w' hs hw h:=by
  obtain⟨a,cap,h1,h2,h3⟩:=h;refine⟨a,cap,h1,h2,?_⟩;match a,h3 with
  | none,h3=>exact h3
  | some (b,o),⟨h3,cs,ty,h4,h5⟩=>exact⟨hs _ h3,cs,ty,by rw[hw _ h3];exact h4,h5⟩
theorem iE {k off:Nat}{len:IE}{cap:Nat}{a:Option (Nat × Nat)}(h:atS μ k=some a)(h0:0<=len.den)(h1:a=none->len.den=0/\cap=0):aD μ (.sl k off len cap)=some (.slice (a.map λx=>⟨x.1,x.2+off,none⟩) len.den.toNat cap):=by
 simp only[aD,h];rw[if_pos ⟨h0,h1⟩]
structure RowX where
 f:Nat->Int
 n:Nat
 cap:Nat
theorem cV {ks:List KI}(d:Nat){av:AV}(kd:IntKind)(l:List Int)(hp:iJ ks=true)(hl:look S.sl d=some av)(hr:∀X μ a w v,Sim c K S X μ a w->aD μ av=some v->(lX kd l).p v X w)
  (h:∀f N cap,N=l.length->(∀i x,l[i]?=some x->f i=x)->N<=cap->Goal c K ⟨ks,{S with sl:=(d,.sl S.hp.length 0 (.n N) cap)::S.sl,hp:=S.hp++[.xi kd N f]},[]⟩):Goal c K ⟨ks,S,[]⟩:=by
 refine fT (ι:=RowX) (K':=λ_=>K) (S':=λx=>{S with sl:=(d,.sl S.hp.length 0 (.n x.n) x.cap)::S.sl,hp:=S.hp++[.xi kd x.n x.f]}) (p:=λx=>x.n=l.length/\(∀i y,l[i]?=some y->x.f i=y)/\x.n<=x.cap) hp ?_ (λx hx=>h x.f x.n x.cap hx.1 hx.2.1 hx.2.2);intro X μ a w H;obtain⟨v,hv,hs⟩:=H.toP.slots d av trivial hl;obtain⟨ad,cap,e1,e2,e3⟩:=hr X μ a w v H hv;have hok:(Blk.xi kd l.length (λi=>l.getD i 0)).ok X (μ.upd S.hp.length (.ext ad)) w (.ext ad):=by
  match ad,e3 with
  | none,e3=>simp[Blk.ok,e3.1]
  | some (b,o),⟨q1,cs,ty,q2,q3⟩=>exact⟨q1,cs,ty,q2,λi hi=>by rw[q3 i l[i] (by simp[hi])];simp[hi]⟩
 refine⟨⟨λi=>l.getD i 0,l.length,cap⟩,X,μ.upd S.hp.length (.ext ad),⟨rfl,λi y hy=>by simp[List.getD_eq_getElem?_getD,hy],e2⟩,?_⟩;have H1:=qT H (blk:=.xi kd l.length (λi=>l.getD i 0)) (m:=.ext ad) (λb e=>by cases e) hok;refine iL (av:=av) H1 hl ?_;rw[gZ (Mu.le_upd (H.dom _ (lRf _))) av v hv];have hz:(0:Int)<=(IE.n l.length).den:=by simp[IE.den]
 refine(iE (len:=.n l.length) (a:=ad) (by simp[atS,Mu.upd_same,MV.atS]) hz (λe=>?_)).trans ?_
 rotate_left
 ·rw[e1];simp[IE.den]
 ·subst e;simp only at e3;simp[IE.den,e3.1,e3.2]
structure RowK where
 f:Nat->Int
 n:Nat
 cap:Nat
 a:Option (Nat × Nat)
theorem aTv {ks:List KI}(d:Nat){v0:Value}(kd:IntKind)(l:List Int)(hp:iJ ks=true)(hl:look S.sl d=some (.q v0))(hr:∀X μ a w,Sim c K S X μ a w->(lX kd l).p v0 X w)
  (h:∀f N cap a,N=l.length->(∀i x,l[i]?=some x->f i=x)->N<=cap->v0=.slice (a.map λx=>⟨x.1,x.2,none⟩) N cap->Goal c (KF.ext S.hp.length a::K) ⟨ks,{S with sl:=(d,.sl S.hp.length 0 (.n N) cap)::S.sl,hp:=S.hp++[.xi kd N f]},[]⟩):Goal c K ⟨ks,S,[]⟩:=by
 refine fT (ι:=RowK) (K':=λx=>KF.ext S.hp.length x.a::K) (S':=λx=>{S with sl:=(d,.sl S.hp.length 0 (.n x.n) x.cap)::S.sl,hp:=S.hp++[.xi kd x.n x.f]}) (p:=λx=>x.n=l.length/\(∀i y,l[i]?=some y->x.f i=y)/\x.n<=x.cap/\v0=.slice (x.a.map λy=>⟨y.1,y.2,none⟩) x.n x.cap) hp ?_ (λx hx=>h x.f x.n x.cap x.a hx.1 hx.2.1 hx.2.2.1 hx.2.2.2);intro X μ a w H;obtain⟨ad,cap,e1,e2,e3⟩:=hr X μ a w H;have hok:(Blk.xi kd l.length (λi=>l.getD i 0)).ok X (μ.upd S.hp.length (.ext ad)) w (.ext ad):=by
  match ad,e3 with
  | none,e3=>simp[Blk.ok,e3.1]
  | some (b,o),⟨q1,cs,ty,q2,q3⟩=>exact⟨q1,cs,ty,q2,λi hi=>by rw[q3 i l[i] (by simp[hi])];simp[hi]⟩
 refine⟨⟨λi=>l.getD i 0,l.length,cap,ad⟩,X,μ.upd S.hp.length (.ext ad),⟨rfl,λi y hy=>by simp[List.getD_eq_getElem?_getD,hy],e2,e1⟩,?_⟩;have H1:=qT H (blk:=.xi kd l.length (λi=>l.getD i 0)) (m:=.ext ad) (λb e=>by cases e) hok;refine lC (iL (av:=.q v0) H1 hl ?_) (f:=KF.ext S.hp.length ad) (Mu.upd_same _ _ _);have hz:(0:Int)<=(IE.n l.length).den:=by simp[IE.den]
 refine(iE (len:=.n l.length) (a:=ad) (by simp[atS,Mu.upd_same,MV.atS]) hz (λe=>?_)).trans ?_
 rotate_left
 ·rw[show aD (μ.upd S.hp.length (.ext ad)) (.q v0)=some v0 from rfl,e1];simp[IE.den]
 ·subst e;simp only at e3;simp[IE.den,e3.1,e3.2]
theorem PSim.row {n0:Nat}{D:Nat->Prop}(H:PSim c K n0 D S X μ a w){k off N cap:Nat}{kd:IntKind}{f:Nat->Int}{len:IE}{v:Value}(hk:S.hp[k]?=some (.xi kd N f))(hv:aD μ (.sl k off len cap)=some v){l:List Int}(hl:(l.length:Int)=len.den)
  (hf:∀i x,l[i]?=some x->f (off+i)=x) (hN:off+l.length<=N) (hc:l.length<=cap):(lX kd l).p v X w:=by
 obtain⟨ad,h1,h2,h3,h4⟩:=mE hv;refine⟨ad.map λx=>(x.1,x.2+off),cap,by rw[h2,<-hl];cases ad<;>simp,hc,?_⟩;cases hm:μ k with
 | none=>simp[atS,hm]at h1
 | some m=>
  have hok:=H.heap k _ m hk hm
  simp only[atS,hm,Option.bind_some]at h1;match m,ad,h1,hok with
  | .ext none,ad,h1,hok=>
   simp only[MV.atS,Option.some.injEq]at h1;subst h1;obtain⟨q1,q2⟩:=h4 rfl;exact⟨List.eq_nil_of_length_eq_zero zW,q2⟩
  | .ext (some (b,o)),ad,h1,hok=>
   simp only[MV.atS,Option.some.injEq]at h1;subst h1;obtain⟨q1,cs,ty,q2,q3⟩:=hok;refine⟨q1,cs,ty,q2,λi x hx=>?_⟩;have hi:=(List.getElem?_eq_some_iff.1 hx).1;have:=q3 (off+i) zW;rw[hf i x hx]at this;rw[<-this];congr 1;omega
  | .own b,ad,h1,hok=>exact hok.elim
theorem PSim.val {n0:Nat}{D:Nat->Prop}(H:PSim c K n0 D S X μ a w){k:Nat}{R:VF}{v:Value}(hf:KF.at k R∈K)(hv:aD μ (.e k)=some v):R.p v X w:=by
 obtain⟨u,h1,h2⟩:=H.kf _ hf;simp only[aD,h1]at hv;injection hv with hv;subst hv;exact h2
theorem PSim.cst {n0:Nat}{D:Nat->Prop}(H:PSim c K n0 D S X μ a w){v:Value}{R:VF}(hf:KF.cst v R∈K):R.p v X w:=H.kf _ hf
theorem aKl {μ μ':Mu}(h1:∀k,pU μ' k=pU μ k)(h2:∀k,atS μ' k=atS μ k)(h3:∀k v,μ' k=some (.val v)↔μ k=some (.val v)):(∀av,aD μ' av=aD μ av)/\(∀l,aF μ' l=aF μ l):=by
 have he:∀k,aD μ' (.e k)=aD μ (.e k):=λk=>by
  simp only[aD];cases hk:μ k with
  | none=>
   split
   ·rename_i v hv;rw[(h3 k v).1 hv]at hk;cases hk
   ·rfl
  | some m=>
   cases m with
   | val v=>rw[(h3 k v).2 hk]
   | own b=>
    split
    ·rename_i v hv;rw[(h3 k v).1 hv]at hk;cases hk
    ·rfl
   | ext b=>
    split
    ·rename_i v hv;rw[(h3 k v).1 hv]at hk;cases hk
    ·rfl
 have hec:∀k j,aD μ' (.ec k j)=aD μ (.ec k j):=λk j=>by
  have:=he k
  simp only[aD]at this |-;cases hk:μ k with
  | none=>
   rw[hk]at this;split
   ·rename_i v hv;rw[(h3 k v).1 hv]at hk;cases hk
   ·rfl
  | some m=>
   cases m with
   | val v=>rw[(h3 k v).2 hk]
   | own b=>
    split
    ·rename_i v hv;rw[(h3 k v).1 hv]at hk;cases hk
    ·rfl
   | ext b=>
    split
    ·rename_i v hv;rw[(h3 k v).1 hv]at hk;cases hk
    ·rfl
 have key:∀(av:AV),aD μ' av=aD μ av:=λav=>by
  refine AV.rec (motive_1:=λav=>aD μ' av=aD μ av) (motive_2:=λl=>aF μ' l=aF μ l) ?_ ?_ ?_ ?_ ?_ ?_ ?_ ?_ ?_ ?_ ?_ ?_ ?_ ?_ ?_ ?_ av
  case refine_8=>intro k;exact he k
  case refine_14=>intro k j;exact hec k j
  all_goals intros;simp_all [aD,aF]
 refine⟨key,λl=>?_⟩;induction l with
 | nil=>rfl
 | cons x l ih=>simp only[aF,key,ih]
def dN (r:Value):VF:=⟨λv _ _=>v=r,λ_ _ _ _ _ _ _ h=>h⟩
theorem bZ {v u:Value}{R:VF}(H:Sim c K S X μ a w)(hf:KF.cst v R∈K)(hv:aD μ (.q v)=some u):R.p u X w:=by
 simp only[aD]at hv;injection hv with hv;subst hv;exact H.toP.cst hf
theorem gJ (hc:Ctx c P ty nt)(av:AV){g:Nat}{avs:List AV}{all:Array Oper}{i:Nat}{k:List KI}{S:St}{aK:List Value}{r:Value}(hp:Pure P g aK r)(hg:aB P g)(ha:aF iN avs=some aK)(hr:aD iN av=some r)(n:Nat)
  (h:Goal c K (run ty nt K n (.ops all (i+1)::k) (S.put (fL all i) av none) [])):Goal c K ⟨.cal g avs all i::k,S,[]⟩:=
 .mk0 (aTc (hc.hP▸hp) (hc.hP▸hg) av ha hr (dX hc n h))
theorem zC(av:AV){g:Nat}{avs:List AV}{all:Array Oper}{i:Nat}{k:List KI}{S:St}{aK:List Value}{r:Value}(hp:Pure P g aK r)(hg:aB P g)(h:Goal c K (run ty nt K 100 (.ops all (i+1)::k) (S.put (fL all i) av none) []))(hc:Ctx c P ty nt:=by assumption)(ha:aF iN avs=some aK:=by exact rfl)(hr:aD iN av=some r:=by exact rfl):Goal c K ⟨.cal g avs all i::k,S,[]⟩:=gJ hc av hp hg ha hr 100 h
theorem eF (hc:Ctx c P ty nt)(av:AV){g:Nat}{avs:List AV}{all:Array Oper}{i n0:Nat}{K0:List KF}{k:List KI}{S:St}{aK:List Value}{r:Value}(hp:Pure P g aK r)(hg:aB P g)(ha:aF iN avs=some aK)(n:Nat)
  (h:Goal c K (run ty nt K n (.dops all (i+1) n0 K0::k) (S.put (fL all i) av none) []))(hr:aD iN av=some r:=by exact rfl):Goal c K ⟨.dcal g avs all i n0 K0::k,S,[]⟩:=
 .mk0 (aWp (hc.hP▸hp) (hc.hP▸hg) av ha hr (dX hc n h))
theorem zD(av:AV){g:Nat}{avs:List AV}{all:Array Oper}{i n0:Nat}{K0:List KF}{k:List KI}{S:St}{aK:List Value}{r:Value}(hp:Pure P g aK r)(hg:aB P g)(h:Goal c K (run ty nt K 100 (.dops all (i+1) n0 K0::k) (S.put (fL all i) av none) []))(hc:Ctx c P ty nt:=by assumption)(ha:aF iN avs=some aK:=by exact rfl)(hr:aD iN av=some r:=by exact rfl):Goal c K ⟨.dcal g avs all i n0 K0::k,S,[]⟩:=eF (hr:=hr) hc av hp hg ha 100 h
theorem aH (hm:P.follows .mixedOrders=true)(tok:∀t i,ty t=some i->TyOk P t i){g:Nat}{fn:Func}{code:Code}{args:List Value}{r:Value}(avs:List AV)
  (hf:P.funcs[g]?=some fn) (hb:fn.body=some code) (ha:aF iN avs=some args)  (hnt:fn.ntmps=nt)
  (h:∀(c:Cx),Ctx c P ty nt->(aC9 c fn λv w'=>v=r/\Below c.B.heap.size c.B w')->Goal c [] ⟨[.code code],⟨pS 0 avs,[],[]⟩,[]⟩)(hn:args.length<=fn.ntmps:=by exact lbl rfl):
  Pure P g args r:=by
 intro B hgl;refine(enter tok hf hb hn ha hgl (K:=[]) (R:=λv w'=>v=r/\Below B.heap.size B w') (X0:=λb=>b<B.heap.size) (λb h=>h) (λf hf=>by cases hf) λc h1 h2 h3 h4 _ h5=>?_).mono ?_
 ·subst h4;exact(h c ⟨h1,h2,h3.trans hnt,hm⟩ h5).so
 ·rintro e w' ⟨v,rfl,rfl,hb⟩;exact⟨rfl,hb⟩
theorem aD4 {c:Cx}{K:List KF}{n0:Nat}{D:Nat->Prop}{S:St}{o:Oper}{g:Nat}{avs:List AV}{r:Value}{av:AV}(h:iD S.sl o.op=some (g,avs))(hD:∀t,Operand.tmp t∈o.op.operands->D t)(hg:aB c.P g)
  (hp:∀X μ a w aK,PSim c K n0 D S X μ a w->aF μ avs=some aK->Fn c.P g aK X w (dN r)) (hr:aD iN av=some r):Cert c K n0 D S o av none [] S.ow:=by
 refine pD h hD hg λX μ a w aK H hv=>?_;refine Calls.mono (hp X μ a w aK H hv H.glob) ?_;rintro e w' ⟨v,X',rfl,hb,hs,hx,hr'⟩;have hr':v=r:=hr';subst hr';exact⟨X',v,rfl,⟨hb.mono H.bel.size,λb hb' _=>hb.block b hb',eK hr,rfl,hs,λb hb'=>(hx b hb').imp id .inl,
  H.own.keep (Mu.le_refl _) hb.size hb.block (λb hb'=>(hx b hb').imp id (·.1)) (λk b hk=>.inl hk)⟩,λf hf=>by cases hf⟩
theorem bK (hc:Ctx c P ty nt)(av:AV){g:Nat}{avs:List AV}{all:Array Oper}{i:Nat}{k:List KI}{S:St}{r:Value}(hg:aB P g)
  (hp:∀n0 D X μ a w aK,PSim c K n0 D S X μ a w->aF μ avs=some aK->Fn P g aK X w (dN r))  (n:Nat)
  (h:Goal c K (run ty nt K n (.ops all (i+1)::k) (S.putO (fL all i) av none S.ow) []))(hr:aD iN av=some r:=by exact rfl):Goal c K ⟨.cal g avs all i::k,S,[]⟩:=
 .mk0 (yI (Kn:=[]) (λo n0 D ho hD _=>aD4 ho hD (hc.hP▸hg) (λX μ a w aK H hv=>hc.hP▸hp n0 D X μ a w aK H hv) hr) (dX hc n h))
theorem qQ (hc:Ctx c P ty nt)(av:AV){g:Nat}{avs:List AV}{all:Array Oper}{i n0:Nat}{K0:List KF}{k:List KI}{S:St}{r:Value}(hg:aB P g)
  (hp:∀D X μ a w aK,PSim c K n0 D S X μ a w->aF μ avs=some aK->Fn P g aK X w (dN r))  (n:Nat)
  (h:Goal c K (run ty nt K n (.dops all (i+1) n0 K0::k) (S.putO (fL all i) av none S.ow) []))(hr:aD iN av=some r:=by exact rfl):Goal c K ⟨.dcal g avs all i n0 K0::k,S,[]⟩:=
 .mk0 (tP (Kn:=[]) (λo D ho hD=>aD4 ho hD (hc.hP▸hg) (λX μ a w aK H hv=>hc.hP▸hp D X μ a w aK H hv) hr) (dX hc n h))
end
end Go.Ai
