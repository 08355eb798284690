/- Part 8: lemmas for garboardlaw17.FloatDivides -/
import Derived.Maps.RangeRun
import Derived.Test.YtmnancfboococaaGreatDoorPd6
set_option linter.all false
namespace Go.Ai
open Go Go.RowKit
section
variable {c:Cx}{P:Program}{ty:Nat->Option TyI}{nt:Nat}{K:List KF}{S:St}
theorem aW3 {ks:List KI}(d:Nat){av:AV}(av':AV)(hp:match ks with | .cal ..::_=>false | .dcal ..::_=>false | _=>true)(hl:look S.sl d=some av)(he:∀μ,aD μ av=aD μ av')
  (h:Goal c K ⟨ks,{S with sl:=(d,av')::S.sl},[]⟩):Goal c K ⟨ks,S,[]⟩:=
 .mk0 (xH (S':={S with sl:=(d,av')::S.sl}) hp ⟨rfl,rfl,λu b hb=>by
  by_cases e:d=u
  ·subst e;rw[bH]at hb;injection hb with hb;subst hb;exact⟨av,hl,he⟩
  ·rw[bB e]at hb;exact⟨b,hb,λ_=>rfl⟩⟩ h.so)
def aLm (n:Nat)(xs:List Value):VF where
 p v X w:=∃(a:Option (Nat × Nat)) (cap:Nat),v=.slice (a.map λx=>⟨x.1,x.2,none⟩) n cap/\n<=cap/\match a with
  | none=>n=0/\cap=0/\xs=[]
  | some (b,o)=>X b/\∃cs,∃ty:Nat × Nat × Nat,w.heap[b]?=some (.cells cs ty.1 ty.2)/\∀i x,xs[i]?=some x->cs[o+i]?=some x
 st v X X' w w' hs hw h:=by
  obtain⟨a,cap,h1,h2,h3⟩:=h;refine⟨a,cap,h1,h2,?_⟩;match a,h3 with
  | none,h3=>exact h3
  | some (b,o),⟨h3,cs,ty,h4,h5⟩=>exact⟨hs _ h3,cs,ty,by rw[hw _ h3];exact h4,h5⟩
def rowS (n:Nat)(l:List ByteArray):VF:=aLm n (l.map Value.string)
structure RowV where
 f:Nat->ByteArray
 cap:Nat
theorem gY {ks:List KI}(d:Nat){av:AV}(N M:Nat)(l:List ByteArray)(hM:M=l.length)(hp:iJ ks=true)(hl:look S.sl d=some av)(hr:∀X μ a w v,Sim c K S X μ a w->aD μ av=some v->(rowS N l).p v X w)
  (h:∀f cap,(∀i x,l[i]?=some x->f i=x)->N<=cap->Goal c K ⟨ks,{S with sl:=(d,.sl S.hp.length 0 (.n N) cap)::S.sl,hp:=S.hp++[.xs M f]},[]⟩):Goal c K ⟨ks,S,[]⟩:=by
 refine fT (ι:=RowV) (K':=λ_=>K) (S':=λx=>{S with sl:=(d,.sl S.hp.length 0 (.n N) x.cap)::S.sl,hp:=S.hp++[.xs M x.f]}) (p:=λx=>(∀i y,l[i]?=some y->x.f i=y)/\N<=x.cap) hp ?_ (λx hx=>h x.f x.cap hx.1 hx.2);intro X μ a w H;obtain⟨v,hv,hs⟩:=H.toP.slots d av trivial hl;obtain⟨ad,cap,e1,e2,e3⟩:=hr X μ a w v H hv;subst hM;have hok:(Blk.xs l.length (λi=>l.getD i default)).ok X (μ.upd S.hp.length (.ext ad)) w (.ext ad):=by
  match ad,e3 with
  | none,e3=>have:=e3.2.2;simp at this;simp[Blk.ok,this]
  | some (b,o),⟨q1,cs,ty,q2,q3⟩=>exact⟨q1,cs,ty,q2,λi hi=>by rw[q3 i (.string l[i]) (by simp[hi])];simp[hi]⟩
 refine⟨⟨λi=>l.getD i default,cap⟩,X,μ.upd S.hp.length (.ext ad),⟨λi y hy=>by simp[List.getD_eq_getElem?_getD,hy],e2⟩,?_⟩;have H1:=qT H (blk:=.xs l.length (λi=>l.getD i default)) (m:=.ext ad) (λb e=>by cases e) hok;refine iL (av:=av) H1 hl ?_;rw[gZ (Mu.le_upd (H.dom _ (lRf _))) av v hv];have hz:(0:Int)<=(IE.n N).den:=by simp[IE.den]
 refine(iE (len:=.n N) (a:=ad) (by simp[atS,Mu.upd_same,MV.atS]) hz (λe=>?_)).trans ?_
 rotate_left
 ·rw[e1];simp[IE.den]
 ·subst e;simp only at e3;simp[IE.den,e3.1,e3.2.1]
def OF.rv (v:Value)(base e sz n:Nat)(xs:List Value):OF where
 F _ b:=v.ownBlock=some b
 p _ w:=w.ownsRow base e sz v n xs
 st _ _ w w' _ hk h:=by
  refine⟨⟨h.1,?_⟩,λ_=>Iff.rfl⟩;rcases h.2 with hn | ⟨g,cap,cur,rfl,hb,hg,hr⟩
  ·exact .inl hn
  ·exact .inr ⟨g,cap,cur,rfl,hb,by rw[hk g (by simp[Value.ownBlock])];exact hg,hr⟩
theorem OFr.rv (m:Nat)(v:Value)(base e sz n:Nat)(xs:List Value):OFr m (OF.rv v base e sz n xs):=⟨λ_ _ h=>⟨h,λ_ h=>h⟩⟩
theorem uI {P:Program}{w:World}(base:Nat)(t ty e:TypeId)(i:TypeInfo)(z:Value)(sz bytes:Nat)(ht:P.underlying t=some (.slice e))(hi:P.info? e=some i)(hz:i.zero=some z)
  (nL:i.size=sz) (hby:i.bytes=bytes) (hzs:z.cells.size=sz) (h0:0<sz) (v:Value) (n:Nat) (xs:List Value) (eE:w.ownsRow base e sz v n xs)
  (ad:Addr) (m c':Nat) (news:List Value) (hl:news.length=m*sz) (wI:∀j u,news[j]?=some u->w.cell? (ad.add j)=some u) (h1:∀u∈news,u.oneCell'=true)
  (h63:n+m<=maxLen) (uV:(n+m)*bytes<=140737488355328) (aR4:base<=w.heap.size):
  ∃v' w',(Builtin.append_ #[t,t] ty #[v,.slice (some ad) m c']).run P w=.ok v' w'/\w'.ownsRow base e sz v' (n+m) (xs++news)/\w.grownBy w' v.ownBlock/\(v'.ownBlock=v.ownBlock\/v'.ownBlock=some w.heap.size):=by
 obtain⟨v',w',hr,h2,h3,h4⟩:=run_append_own (P:=P) w base t ty e i z sz bytes ht hi hz nL hby hzs h0 v n xs eE ad m c' news hl wI h1 h63 uV aR4;refine⟨v',w',hr,h2,h3,?_⟩;have bF6:n+m<=9223372036854775807:=by simpa[maxLen]using h63
 rcases eE.2 with⟨rfl,rfl⟩ | ⟨g,cap,cur,rfl,hbg,hg,hnc,hcm,hcs,bDt⟩
 ·by_cases hm:m=0
  ·left;rw[h4.2 ⟨rfl,hm⟩]
  ·have hr':=run_append_nil (P:=P) w t ty e i z ht hi hz ad m c' news (by rw[nL];exact hl) wI zW zW (by rw[hby];have hb:=uV;simp only[Nat.zero_add]at hb;omega)
   rw[hr']at hr;injection hr with hr _;subst hr;exact .inr rfl
 ·by_cases aM8:n+m<=cap
  ·have hr':=run_append_room (P:=P) w t ty e i ht hi g n cap cur hg ad m c' news (by rw[nL];exact hl) wI h1 aM8 (by rw[nL,hl,hcs,<-Nat.add_mul];exact Nat.mul_le_mul_right _ aM8)
   rw[hr']at hr;injection hr with hr _;subst hr;exact .inl rfl
  ·have holds:∀j u,xs[j]?=some u->w.cell? ((⟨g,0,none⟩:Addr).add j)=some u:=eE.cells (g:=g) rfl
   have hr':=run_append_grow (P:=P) w t ty e i z ht hi hz ⟨g,0,none⟩ n cap xs (by rw[nL];exact eE.1) holds ad m c' news (by rw[nL];exact hl) wI zW zW (by rw[hby];exact growslice_fits zW uV)
   rw[hr']at hr;injection hr with hr _;subst hr;exact .inr rfl
variable {X:Nat->Prop}{μ:Mu}{a:Act}{w:World}
theorem aT4 {d:Option Nat}(hd:cA c.nt d=true){ow':List OF}{e sz:Nat}{a':Option Addr}{n' aS:Nat}{l':List Value}{w':World}{r:Option Nat}
  (H:Sim c K S X μ a w) (hg:w.grownBy w' r) (jI:w'.ownsRow c.B.heap.size e sz (.slice a' n' aS) n' l')
  (mH:∀f,f∈ow'->f∈S.ow) (hap:ow'.Pairwise λf g=>∀b,f.F μ b->¬g.F μ b) (hr:∀b,r=some b->∃f,f∈S.ow/\f.F μ b) (hr':∀f,f∈ow'->∀b,r=some b->¬f.F μ b)
  (sH:∀b,(Value.slice a' n' aS).ownBlock=some b->r=some b\/w.heap.size<=b):
  Sim c K (S.putO d (.xs a' n' aS) none (OF.rv (.slice a' n' aS) c.B.heap.size e sz n' l'::ow')) X μ (a.put d (.slice a' n' aS)) w':=by
 have P:=H.toP
 have hF:∀f,f∈S.ow->∀b,f.F μ b->c.B.heap.size<=b/\b<w.heap.size/\¬X b/\∀k,μ k≠some (.own b):=λf hf=>(P.own.at_ f hf).2
 have hB:c.B.heap.size<=w.heap.size:=P.bel.size
 have aAg:∀b,(Value.slice a' n' aS).ownBlock=some b->(∃f,f∈S.ow/\f.F μ b/\r=some b)\/w.heap.size<=b:=by
  intro b hb;rcases sH b hb with h | h
  ·obtain⟨f,h1,h2⟩:=hr b h;exact .inl ⟨f,h1,h2,h⟩
  ·exact .inr h
 have hlt:∀b,(Value.slice a' n' aS).ownBlock=some b->b<w'.heap.size:=λb hb=>(World.ownsRow.lt jI b hb).2
 refine(lV (Kn:=[]) H hd (av:=.xs a' n' aS) (nb:=none) (ow:=OF.rv (.slice a' n' aS) c.B.heap.size e sz n' l'::ow') (v:=.slice a' n' aS) (X':=X) (μ':=μ) (w':=w') ⟨below_grown hg hB (λb hb=>?_),λb hb hnf=>?_,rfl,rfl,λ_ h=>h,λ_ h=>.inl h,?_⟩ (λf hf=>by cases hf))
 ·obtain⟨f,h1,h2⟩:=hr b hb;exact(hF f h1 b h2).1
 ·refine hg.block b hb (λe=>?_);obtain⟨f,h1,h2⟩:=hr b e.symm;exact hnf f h1 h2
 ·refine⟨λf hf=>?_,List.Pairwise.cons (λg hg' b hb hb'=>?_) hap⟩
  ·rcases List.mem_cons.1 hf with e' | e'
   ·subst e';refine⟨jI,λb hb=>?_⟩;have hb:(Value.slice a' n' aS).ownBlock=some b:=hb;rcases aAg b hb with⟨f,h1,h2,_⟩ | e'
    ·obtain⟨q1,q2,q3,q4⟩:=hF f h1 b h2;exact⟨q1,hlt b hb,q3,q4⟩
    ·exact⟨lTr hB e',hlt _ hb,λhx=>by have:=P.xlt _ hx;omega,λk hk=>by have:=(P.loc k _ hk).2.2;omega⟩
   ·have h0:=mH f e'
    obtain⟨h1,h2⟩:=P.own.at_ f h0;refine⟨(f.st μ μ w w' (Mu.vle_refl _) (λk hk=>hg.block k (h2 k hk).2.1 (λe2=>hr' f e' k e2.symm hk)) h1).1,λb hb=>?_⟩;obtain⟨q1,q2,q3,q4⟩:=h2 b hb;exact⟨q1,Nat.lt_of_lt_of_le q2 hg.size,q3,q4⟩
  ·have hb:(Value.slice a' n' aS).ownBlock=some b:=hb
   rcases aAg b hb with⟨f,h1,h2,h3⟩ | e'
   ·exact hr' g hg' b h3 hb'
   ·have:=(hF g (mH g hg') b hb').2.1;omega
theorem bT (hc:Ctx c P ty nt){all:Array Oper}{i:Nat}{k:List KI}(o:Oper)(ho:all[i]?=some o)(hg:guardOf all S.sl o=some true)(hd:cA nt o.dst=true){t e bt j n cap:Nat}{x y:Operand}{a0:Option Addr}{ti ei:TyI}{xs news:List Value}{cells:List AV}{pre post:List OF}{bytes sz m:Nat}{G:Option Addr->Nat->Nat->List Value->OF}(hG:∀a n cap l,G a n cap l=OF.rv (.slice a n cap) c.B.heap.size e sz n l)
  (hop:o.op=.call {callee:=.builtin .append,args:=#[x,y],argTypes:=#[t,t]}) (hx:fE S.sl x=some (.xs a0 n cap)) (hy:fE S.sl y=some (.sl j 0 (.l (m:Int)) m)) (hm:Nat.ble 1 m=true) (hj:S.hp[j]?=some (.c bt cells)) (iF:aF iN cells=some news) (kB:cells.all AV.one=true) (hlen:cells.length=m*sz) (h0:Nat.ble 1 sz=true) (how:S.ow=pre++G a0 n cap xs::post)
  (hti:ty t=some ti) (hk:ti.kind=.slice e sz) (hei:ty e=some ei) (hzs:ei.zero.length=sz)  (hle:(n+m)*bytes<=140737488355328) (h63:n+m<=9223372036854775807)
  (h:∀a' n' aS l',n'=n+m->l'=xs++news->Goal c K ⟨.ops all (i+1)::k,S.putO o.dst (.xs a' n' aS) none (G a' n' aS l'::(pre++post)),[]⟩)(hby:(P.info? e).map (·.bytes)=some bytes:=by kernel_rfl):Goal c K ⟨.ops all i::k,S,[]⟩:=by
 refine sT hc o ho hg (ι:=RowZ) (K':=λ_=>K) (S':=λz=>S.putO o.dst (.xs z.a (n+m) z.cap) none (G z.a (n+m) z.cap (xs++news)::(pre++post))) (p:=λ_=>True) (λX μ a w H=>?_) (λz _=>h z.a (n+m) z.cap _ rfl rfl);have P':=H.toP;have hm1:1<=m:=lbl hm;have hs1:1<=sz:=lbl h0;rw[hG]at how;have e1:=jH (aG H.toP hx (λ_ _=>trivial));obtain⟨b,o1,hb1,e2⟩:=lM (aG H.toP hy (λ_ _=>trivial)) (by simp only[IE.den];omega);simp only[IE.den]at e2;obtain⟨mv,hv1,hv2⟩:=uG hb1;have hok:=P'.heap j _ mv hj hv1;match mv,hv2,hok,hv1 with
 | .own b',hv2,hok,hv1=>
  simp only[MV.at,Option.some.injEq,Prod.mk.injEq]at hv2;obtain⟨rfl,rfl⟩:=hv2;obtain⟨vs,hvs,rB⟩:=hok;rw[cZ iF]at hvs;injection hvs with hvs
  subst hvs;have T:=c.tok t ti (by rw[hc.hty];exact hti);have hu:=T.und;rw[hk]at hu;obtain⟨u1,tj,u2,u3⟩:=hu;obtain⟨tj',z,h1,h2,h3,h4,h5⟩:=(c.tok e ei (by rw[hc.hty];exact hei)).info;rw[u2]at h1;injection h1 with h1;subst h1
  have hzs:z.cells.size=sz:=by have:=aW h4;rw[hzs]at this;simpa using this
  have hb2:tj.bytes=bytes:=by rw[<-hc.hP,u2]at hby;simpa using hby
  have hf0:OF.rv (.slice a0 n cap) c.B.heap.size e sz n xs∈S.ow:=by rw[how];simp
  obtain⟨hr0,hr1⟩:=P'.own.at_ _ hf0;have hr0:w.ownsRow c.B.heap.size e sz (.slice a0 n cap) n xs:=hr0;have hnl:news.length=m*sz:=by rw[aW iF,hlen]
  obtain⟨v',w',q1,q2,q3,q4⟩:=uI (P:=c.P) c.B.heap.size t o.type e tj z sz bytes u1 u2 h3 u3 hb2 hzs zW _ _ _ hr0 ⟨b',0+0,none⟩ m m news hnl (λq u hq=>by
    simp[add_eq,World.cell?,rB,hq]) (qN kB iF) (by simpa[maxLen]using h63) hle P'.bel.size
  have hv':∃a' aS,v'=.slice a' (n+m) aS:=by
   rcases q2.2 with⟨h6,h7⟩ | ⟨g,aS,cur,h6,_⟩
   ·omega
   ·exact⟨_,_,h6⟩
  obtain⟨a',aS,rfl⟩:=hv';refine⟨⟨a',aS⟩,.slice a' (n+m) aS,w',X,μ,trivial,?_,?_⟩
  ·rw[<-hc.hP];simp only[execOp,hop,resolve,invoke,builtin,Sem.run_bind,Sem.run_pure,Result.andThen_ok,List.map_toArray,List.map_cons,List.map_nil,e1,e2];rw[Int.toNat_natCast,q1];rfl
  ·have hap:=P'.own.apart
   rw[how,List.pairwise_append]at hap;obtain⟨p1,p2,p3⟩:=hap;simp only[hG];have mH:∀f,f∈pre++post->f∈S.ow:=λf hf=>by
    rw[how];rcases List.mem_append.1 hf with h | h
    ·simp[h]
    ·simp[h]
   refine aT4 (r:=(Value.slice a0 n cap).ownBlock) (by rw[hc.hnt];exact hd) H q3 q2 mH (List.pairwise_append.2 ⟨p1,List.Pairwise.of_cons p2,λf hf g hg=>p3 f hf g (List.mem_cons_of_mem _ hg)⟩) (λb hb=>⟨_,hf0,hb⟩) (λf hf b hb hb'=>?_) (λb hb=>?_)
   ·rcases List.mem_append.1 hf with h | h
    ·exact p3 f h _ List.mem_cons_self b hb' hb
    ·exact List.rel_of_pairwise_cons p2 h b hb hb'
   ·rcases q4 with h6 | h6
    ·left;rw[<-h6];exact hb
    ·right;rw[h6]at hb;injection hb with hb;exact Nat.le_of_eq hb
theorem eQ {ks:List KI}{e sz:Nat}{G:Option Addr->Nat->Nat->List Value->OF}(hG:∀a n cap l,G a n cap l=OF.rv (.slice a n cap) c.B.heap.size e sz n l)
  (h:Goal c K ⟨ks,{S with ow:=G none 0 0 []::S.ow},[]⟩)(hp:okc ks=true:=by exact rfl):Goal c K ⟨ks,S,[]⟩:=by
 rw[hG]at h;refine oN hp (λX μ a w H=>?_) h rfl;have P:=H.toP;refine⟨X,μ,⟨P.dfr,P.size,P.slots,P.heap,P.all,P.inj,P.loc,P.xlt,P.xnew,P.xold,P.bel,P.kf,?_⟩,H.dom⟩;refine⟨λf hf=>?_,List.Pairwise.cons (λg hg b hb=>?_) P.own.apart⟩
 ·rcases List.mem_cons.1 hf with e | e
  ·subst e;exact⟨World.ownsRow_nil _ _ _ _,λb hb=>by cases hb⟩
  ·exact P.own.at_ f e
 ·cases hb
theorem dW {ks:List KI}{v:Value}{base e sz n:Nat}{l:List Value}{g:OF}{pre post:List OF}(hg:g=OF.rv v base e sz n l)(h:Goal c (KF.cst v (aLm n l)::K) ⟨ks,{S with ow:=pre++post},[]⟩)(h0:Nat.ble 1 sz=true:=by exact rfl)(hp:okc ks=true:=by exact rfl)(how:S.ow=pre++g::post:=by exact rfl):Goal c K ⟨ks,S,[]⟩:=by
 refine oN hp (λX μ a w H=>?_) h rfl;have P:=H.toP;rw[hg]at how;have hf0:OF.rv v base e sz n l∈S.ow:=by rw[how];simp
 obtain⟨hr0,hr1⟩:=P.own.at_ _ hf0;have hap:=P.own.apart;rw[how,List.pairwise_append]at hap;obtain⟨p1,p2,p3⟩:=hap;have hr1:∀b,v.ownBlock=some b->c.B.heap.size<=b/\b<w.heap.size/\¬X b/\∀k,μ k≠some (.own b):=hr1;let X':Nat->Prop:=λb=>X b\/v.ownBlock=some b;have mH:∀b,X b->X' b:=λb h=>Or.inl h;have hX:∀b,X' b->X b\/v.ownBlock=some b:=λb h=>h;refine⟨X',μ,lC (S:={S with ow:=pre++post}) (f:=KF.cst v (aLm n l)) ⟨⟨P.dfr,P.size,P.slots,λk blk m hk hm=>Blk.ok_congr (λ_=>rfl) mH (P.heap k blk m hk hm),P.all,P.inj,λk b hk=>?_,λb hb=>(hX b hb).elim (P.xlt b) (λh=>(hr1 b h).2.1),λb hb=>(hX b hb).elim (P.xnew b) (λh=>Or.inr (hr1 b h).1),λb hb=>mH b (P.xold b hb),P.bel,kC P.kf mH (Mu.vle_refl _) (λ_ _=>rfl),?_⟩,H.dom⟩ ?_⟩
 ·obtain⟨q1,q2,q3⟩:=P.loc k b hk;exact⟨q1,λhb=>hb.elim q2 (λh=>(hr1 b h).2.2.2 k hk),q3⟩
 ·refine⟨λf hf=>?_,List.pairwise_append.2 ⟨p1,List.Pairwise.of_cons p2,λf hf g hg=>p3 f hf g (List.mem_cons_of_mem _ hg)⟩⟩;have hf':f∈S.ow:=by
   rw[how];rcases List.mem_append.1 hf with h | h<;>simp[h]
  obtain⟨h1,h2⟩:=P.own.at_ f hf';refine⟨h1,λb hb=>?_⟩;obtain⟨q1,q2,q3,q4⟩:=h2 b hb;refine⟨q1,q2,λhx=>hx.elim q3 (λh=>?_),q4⟩;rcases List.mem_append.1 hf with h' | h'
  ·exact p3 f h' _ List.mem_cons_self b hb h
  ·exact List.rel_of_pairwise_cons p2 h' b h hb
 ·have hr0:w.ownsRow base e sz v n l:=hr0
  have hs1:1<=sz:=lbl h0
  show(aLm n l).p v _ w
  rcases hr0.2 with⟨rfl,h2⟩ | ⟨g,cap,cur,rfl,_,hg,hnc,_,hcs,htk⟩
  ·have:l=[]:=List.eq_nil_of_length_eq_zero (by rw[hr0.1,h2,Nat.zero_mul])
   subst this;subst h2;exact⟨none,0,rfl,lRf _,rfl,rfl,rfl⟩
  ·refine⟨some (g,0),cap,rfl,hnc,.inr rfl,cur,(e,(0,0)),hg,λi x hx=>?_⟩;have h3:(cur.toList.take (n*sz))[i]?=some x:=by rw[htk];exact hx
   rw[List.getElem?_take]at h3;split at h3
   ·simpa using h3
   ·cases h3
theorem aOj {n0:Nat}{D:Nat->Prop}{o:Oper}{av:AV}{bt:Nat}{cells:List AV}{Kn:List KF}{ow:List OF}(h:Cert c K n0 D S o av (some (.c bt cells)) Kn ow):Cert c K n0 D S o av (some (.d bt cells.length)) Kn ow:=by
 intro X μ a w next Q H hfr hn
 refine h X μ a w next Q H hfr (λX' μ' v w' hp hk=>hn X' μ' v w' ⟨hp.bel,hp.keep,hp.val,?_,hp.sub,hp.new,hp.own⟩ hk)
 obtain⟨m,e1,e2,e3⟩:=hp.blk;refine⟨m,e1,?_,e3⟩;cases m with
 | ext a=>exact e2.elim
 | val v=>exact e2.elim
 | own b=>
  obtain⟨vs,q1,q2⟩:=e2;exact⟨vs,aW q1,q2⟩
theorem fJ (hc:Ctx c P ty nt){all:Array Oper}{i n0:Nat}{K0:List KF}{k:List KI}(o:Oper){av:AV}{bt:Nat}{cells:List AV}
  (h:Goal c K ⟨.dops all (i+1) n0 K0::k,S.put o.dst av (some (.d bt cells.length)),[]⟩)(ho:all[i]?=some o:=by exact rfl)(hg:guardOf all S.sl o=some true:=by exact rfl)(hd:cA nt o.dst=true:=by exact rfl)(hr:fop ty n0 (fl S o) o.op=some ⟨av,some (.c bt cells),[]⟩:=by exact rfl):Goal c K ⟨.dops all i n0 K0::k,S,[]⟩:=by
 have hs:DPath c all n0 K0 k (i+1) (S.put o.dst av (some (.d bt cells.length))) K:=h.so
 refine .mk0 (show DPath c all n0 K0 k i S K from ?_);refine DPath.op (Kn:=[]) (ow:=(fl S o).ow) ho hg (by rw[hc.hnt];exact hd) (aOj (jW (r:=⟨av,some (.c bt cells),[]⟩) (by rw[hc.hty];exact hr) trivial (λt ht=>by simp only[vN,dQ,List.mem_append];exact .inl (eV (by simpa using ht))))) (λ_=>rfl) ?_ hs;rw[show(if bU o then(fl S o).ow else S.ow)=S.ow by unfold fl;split<;>rfl];exact Wk.refl _
theorem aA5 (hc:Ctx c P ty nt){all:Array Oper}{i n0:Nat}{K0:List KF}{k:List KI}{ps:List Ps}(hd:aAu all i=true)(hi:i<=all.size)(hps:kD ty S all (List.range' i (all.size - i))=some ps)(n:Nat)
  (h:Goal c K (run ty nt K n (.ops all all.size::k) (S.setPs ps) [])):Goal c K ⟨.dops all i n0 K0::k,S,[]⟩:=
 .mk0 (DPath.stop hi (.inr (.inl ⟨hd,ps,by rw[hc.hty];exact hps,dX hc n h⟩)))
theorem aA6 (hc:Ctx c P ty nt){all:Array Oper}{i n0:Nat}{K0:List KF}{k:List KI}{ps:List Ps}(m2:Nat)(hd:aAv all i m2=true)(hi:i<=all.size)(h2:m2<=all.size)(hps:kD ty S all (List.range' i (m2 - i))=some ps)(n:Nat)
  (h:Goal c K (run ty nt K n (.ops all m2::k) (S.setPs ps) [])):Goal c K ⟨.dops all i n0 K0::k,S,[]⟩:=
 .mk0 (DPath.stop hi (.inr (.inr (.inr ⟨m2,hd,h2,ps,by rw[hc.hty];exact hps,dX hc n h⟩))))
def bCs (j:Nat):List KI->Bool
 | .dops _ i _ _::_=>i==j
 | _=>false
def aWw (ty:Nat->Option TyI)(nt:Nat)(K:List KF)(j:Nat):Nat->List KI->St->List Obl->Cfg
 | 0,ks,S,ob=>⟨ks,S,ob⟩
 | n+1,ks,S,ob=>if bCs j ks then⟨ks,S,ob⟩else match aJl ty nt K ks S with
  | some r=>aWw ty nt K j n r.ks r.S (match r.ob with | []=>ob | o=>ob++o)
  | none=>⟨ks,S,ob⟩
theorem aI8 (ty:Nat->Option TyI)(nt:Nat)(K:List KF)(j:Nat):∀(n:Nat) (ks:List KI) (S:St) (ob:List Obl),∃m,aWw ty nt K j n ks S ob=run ty nt K m ks S ob
 | 0,ks,S,ob=>⟨0,rfl⟩
 | n+1,ks,S,ob=>by
  simp only[aWw];split
  ·exact⟨0,rfl⟩
  ·split
   ·rename_i r hr;obtain⟨m,hm⟩:=aI8 ty nt K j n r.ks r.S (match r.ob with | []=>ob | o=>ob++o);exact⟨m+1,by simp only[run,hr];exact hm⟩
   ·exact⟨0,rfl⟩
theorem bEh (hc:Ctx c P ty nt)(j n:Nat){ks:List KI}(h:Goal c K (aWw ty nt K j n ks S [])):Goal c K ⟨ks,S,[]⟩:=by
 obtain⟨m,hm⟩:=aI8 ty nt K j n ks S [];rw[hm]at h;exact jC hc m h
theorem aGq (hc:Ctx c P ty nt){all:Array Oper}{i n0:Nat}{K0:List KF}{k:List KI}(hd:tK all i=true)(hi:i<=all.size)(h:Goal c K ⟨.ord all (firstM all.size i)::k,S,[]⟩):Goal c K ⟨.dops all i n0 K0::k,S,[]⟩:=
 .mk0 (DPath.stop hi (.inr (.inr (.inl ⟨hd,h.so⟩))))
theorem cB {all:Array Oper}{L:Array Bool}{k:List KI}(l:List Nat)(hl:Region.ready .any all L=l)(hne:l.isEmpty=false)
  (h:∀i,i∈l->∃o,all[i]?=some o/\o.guard=none/\Goal c K ⟨.ops #[o] 0::.ord all (L.setIfInBounds i true)::k,S,[]⟩):Goal c K ⟨.ord all L::k,S,[]⟩:=by
 refine .mk0 (aE7 (λh0=>?_) (λi hi=>?_))
 ·rw[hl]at h0;subst h0;cases hne
 ·obtain⟨o,h1,h2,h3⟩:=h i (hl▸hi);exact⟨o,h1,h2,h3.so⟩
theorem yL {all:Array Oper}{L:Array Bool}{k:List KI}(hl:Region.ready .any all L=[])(hk:iJ k=true)(h:Goal c K ⟨k,S,[]⟩):Goal c K ⟨.ord all L::k,S,[]⟩:=by
 refine .mk0 (aE7 (λ_=>nP hk h) (λi hi=>?_));rw[hl]at hi;cases hi
end
end Go.Ai
namespace Go.Ai
open Go Go.RowKit
abbrev fN:=List (List ByteArray × Int)
def jK (k:List ByteArray):Value:=.agg (k.map Value.string).toArray
def cO:Nat->fN->List MapEntry
 | _,[]=>[]
 | i,(k,v)::l=>⟨jK k,.int .i64 v,i⟩::cO (i+1) l
def fQ (k:List ByteArray):fN->Nat->Option (Nat × Int)
 | [],_=>none
 | (q,v)::l,i=>if k=q then some (i,v)else fQ k l (i+1)
def gF (es:fN)(k:List ByteArray):Int:=match fQ k es 0 with | some (_,v)=>v | none=>0
def gL (es:fN)(k:List ByteArray):fN:=match fQ k es 0 with | some _=>es | none=>es++[(k,0)]
def lZ (es:fN)(k:List ByteArray):Nat:=match fQ k es 0 with | some (i,_)=>i | none=>es.length
def mL:fN->Nat->Int->fN
 | [],_,_=>[]
 | (k,_)::l,0,v=>(k,v)::l
 | x::l,n+1,v=>x::mL l n v
def fR (k:List ByteArray)(d:Int):fN->fN
 | []=>[(k,d)]
 | (q,v)::l=>if k=q then(q,v+d)::l else(q,v)::fR k d l
theorem kW:∀(l:fN) (i j:Nat),(cO i l)[j]?=(l[j]?).map λx=>⟨jK x.1,.int .i64 x.2,i+j⟩
 | [],i,j=>by simp[cO]
 | (k,v)::l,i,0=>by simp[cO]
 | (k,v)::l,i,j+1=>by
  simp only[cO,List.getElem?_cons_succ,kW l (i+1) j];rw[show i+1+j=i+(j+1) by omega]
theorem aEg:∀(l:fN) (i:Nat),(cO i l).length=l.length
 | [],_=>rfl
 | _::l,i=>by simp[cO,aEg l (i+1)]
theorem aEf:∀(l m:fN) (i:Nat),cO i (l++m)=cO i l++cO (i+l.length) m
 | [],m,i=>by simp[cO]
 | (k,v)::l,m,i=>by
  simp only[List.cons_append,cO,aEf l m (i+1),List.length_cons];rw[show i+1+l.length=i+(l.length+1) by omega]
theorem pF:∀{k:List ByteArray} {l:fN} {i j:Nat} {v:Int},fQ k l i=some (j,v)->i<=j/\j<i+l.length/\l[j - i]?=some (k,v)
 | k,[],i,j,v,h=>by cases h
 | k,(q,u)::l,i,j,v,h=>by
  simp only[fQ]at h;split at h
  ·rename_i e;injection h with h;injection h with h1 h2
   subst h1;subst h2;subst e;simp
  ·obtain⟨h1,h2,h3⟩:=pF h;refine⟨zW,by simp;omega,?_⟩;obtain⟨m,hm⟩:∃m,j - i=m+1:=⟨j - i - 1,zW⟩;rw[hm,List.getElem?_cons_succ,<-h3];congr 1;omega
theorem aEk:∀(k:List ByteArray) (l:fN) (i:Nat),fQ k l i=none->fQ k (l++[(k,0)]) i=some (i+l.length,0)
 | k,[],i,_=>by simp[fQ]
 | k,(q,v)::l,i,h=>by
  simp only[fQ]at h;split at h
  ·cases h
  ·rename_i e;simp only[List.cons_append,fQ,e,if_false,aEk k l (i+1) h,List.length_cons];rw[show i+1+l.length=i+(l.length+1) by omega]
theorem aE8 (es:fN)(k:List ByteArray):lZ es k<(gL es k).length:=by
 unfold lZ gL;cases h:fQ k es 0 with
 | none=>simp
 | some x=>obtain⟨j,v⟩:=x;have:=pF h;simp;omega
theorem aB2 (es:fN)(k:List ByteArray):gF (gL es k) k=gF es k:=by
 unfold gL;cases h:fQ k es 0 with
 | none=>simp only[gF,aEk k es 0 h,h]
 | some x=>rfl
theorem xD:∀(k:List ByteArray) (d:Int) (es:fN) (i:Nat),(match fQ k es i with | some (j,v)=>mL es (j - i) (v+d) | none=>mL (es++[(k,0)]) es.length (0+d))=fR k d es
 | k,d,[],i=>by simp[fQ,mL,fR]
 | k,d,(q,v)::l,i=>by
  by_cases e:k=q
  ·simp only[fQ,e,if_true,fR,Nat.sub_self,mL]
  ·have ih:=xD k d l (i+1)
   simp only[fQ,e,if_false,fR];cases h:fQ k l (i+1)with
   | none=>
    rw[h]at ih;simp only[List.cons_append,List.length_cons,mL]at ih |-;rw[ih]
   | some x=>
    obtain⟨j,u⟩:=x;rw[h]at ih;have:=pF h;simp only at ih |-;rw[show j - i=(j - (i+1))+1 by omega,mL,ih]
theorem aJc (es:fN)(k:List ByteArray)(d:Int):mL (gL es k) (lZ es k) (gF es k+d)=fR k d es:=by
 have:=xD k d es 0
 unfold gL lZ gF;cases h:fQ k es 0 with
 | none=>rw[h]at this;exact this
 | some x=>obtain⟨j,v⟩:=x;rw[h]at this;simpa using this
theorem aJd:∀(l:fN) (n:Nat) (v:Int),(mL l n v).length=l.length
 | [],_,_=>rfl
 | _::_,0,_=>rfl
 | _::l,n+1,v=>by simp[mL,aJd l n v]
theorem aE3:∀(l:fN) (n i:Nat) (v:Int),cO i (mL l n v)=(cO i l).modify n λe=>{e with val:=.int .i64 v}
 | [],n,i,v=>by simp[mL,cO]
 | (k,u)::l,0,i,v=>by simp[mL,cO]
 | (k,u)::l,n+1,i,v=>by simp[mL,cO,aE3 l n (i+1) v]
def iS (n:Nat)(es:fN):Prop:=∀x,x∈es->x.1.length=n
theorem iS.touch {n:Nat}{es:fN}{k:List ByteArray}(h:iS n es)(hk:k.length=n):iS n (gL es k):=by
 unfold gL;split
 ·exact h
 ·intro x hx;rcases List.mem_append.1 hx with e | e
  ·exact h x e
  ·simp at e;subst e;exact hk
theorem iS.add {n:Nat}{k:List ByteArray}{d:Int}(hk:k.length=n):∀{es:fN},iS n es->iS n (fR k d es)
 | [],_=>by intro x hx;simp[fR]at hx;subst hx;exact hk
 | (q,v)::l,h=>by
  have hq:=h (q,v) zA
  have hl:iS n l:=λx hx=>h x (List.mem_cons_of_mem _ hx)
  unfold fR;split
  ·intro x hx;rcases List.mem_cons.1 hx with e | e
   ·subst e;exact hq
   ·exact hl x e
  ·intro x hx;rcases List.mem_cons.1 hx with e | e
   ·subst e;exact hq
   ·exact iS.add hk hl x e
def isStr (P:Program)(t:Nat):Bool:=match P.underlying t with | some (.struct _)=>true | _=>false
theorem aSy {P:Program}{t:Nat}(h:isStr P t=true):∃fs,P.underlying t=some (.struct fs):=by
 unfold isStr at h;split at h
 ·rename_i fs e;exact⟨fs,e⟩
 ·cases h
structure KeyTy (P:Program)(mt kt et n:Nat):Prop where
 map:P.underlying mt=some (.map kt et)
 lv:leaves P 12 kt=some (List.replicate n .s)
 strB:isStr P kt=true
 chk:∀(a:List ByteArray) (b:Bool) (w:World),a.length=n->(Instr.checkKey b 10000 kt (jK a)).run P w=.ok () w
 zero:∀w,(zeroValue et).run P w=.ok (.int .i64 0) w
section
variable {P:Program}{mt kt et n:Nat}
theorem uZ:∀(a:List ByteArray),dG (a.map Value.string)=some (List.replicate a.length .s)
 | []=>rfl
 | x::l=>by simp[dG,rC,uZ l,List.replicate_succ]
theorem sM:∀{a b:List ByteArray},a.map Value.string=b.map Value.string->a=b
 | [],[],_=>rfl
 | [],_::_,h=>by cases h
 | _::_,[],h=>by cases h
 | x::a,y::b,h=>by
  simp only[List.map_cons,List.cons.injEq,Value.string.injEq]at h;rw[h.1,sM h.2]
theorem KeyTy.str (T:KeyTy P mt kt et n):∃fs,P.underlying kt=some (.struct fs):=aSy T.strB
theorem KeyTy.eqv (T:KeyTy P mt kt et n){a b:List ByteArray}(ha:a.length=n)(hb:b.length=n)(w:World):(Op.equal kt (jK a) (jK b)).run P w=.ok (decide (a=b)) w:=by
 obtain⟨fs,hfs⟩:=T.str;have E:=uR (P:=P) 12 9988 kt _ T.lv;obtain⟨r,h1,h2⟩:=E w (jK a) (jK b) (by simp only[Shp,hfs];exact⟨_,rfl⟩) (by simp only[Shp,hfs];exact⟨_,rfl⟩) (by simp only[jK,Value.cells,uZ,ha]) (by simp only[jK,Value.cells,uZ,hb]);have e:r=decide (a=b):=by
  rw[Bool.eq_iff_iff,h2,decide_eq_true_eq];simp only[jK,Value.cells];exact⟨λh=>sM h,λh=>by rw[h]⟩
 rw[<-e];exact h1
theorem KeyTy.asking (T:KeyTy P mt kt et n){k:List ByteArray}(hk:k.length=n)(w:World):∀(l:fN) (i j:Nat),iS n l->(Instr.findAsking kt (jK k) (cO i l) j).run P w=.ok ((fQ k l j).map λx=>(x.1,.int .i64 x.2)) w
 | [],i,j,_=>by simp[cO,Instr.findAsking,fQ]
 | (q,v)::l,i,j,h=>by
  have h1:=h (q,v) zA
  simp only[cO,Instr.findAsking,Sem.run_bind,T.eqv hk h1,Result.andThen_ok,fQ];by_cases e:k=q
  ·simp[e]
  ·simp only[e,decide_false,Bool.false_eq_true,if_false];exact T.asking hk w l (i+1) (j+1) (λx hx=>h x (List.mem_cons_of_mem _ hx))
theorem KeyTy.find (T:KeyTy P mt kt et n){k:List ByteArray}(hk:k.length=n)(w:World){es:fN}(h:iS n es):(Instr.findKey kt (jK k) (cO 0 es)).run P w=.ok ((fQ k es 0).map λx=>(x.1,.int .i64 x.2)) w:=by
 obtain⟨fs,hfs⟩:=T.str;have:=T.asking hk w es 0 0 h;simp only[Instr.findKey,Sem.run_bind,run_underlying hfs,Result.andThen_ok];cases es with
 | nil=>simp[cO,Instr.findNow,fQ]
 | cons x l=>
  obtain⟨q,v⟩:=x;simp only[cO]at this |-;simp only[Instr.findNow,Instr.sameNow];exact this
def sL (w:World)(r:Nat)(es:fN):Prop:=w.heap[r]?=some (.map (cO 0 es).toArray es.length)
theorem KeyTy.look (T:KeyTy P mt kt et n){k:List ByteArray}(hk:k.length=n){w:World}{r:Nat}{es:fN}(h:iS n es)(hb:sL w r es):(Instr.lookup mt (.map (some r)) (jK k) false).run P w=.ok (.int .i64 (gF es k)) w:=by
 have h1:=T.find hk w h
 simp only[Instr.lookup,Sem.run_bind,run_underlying T.map,Result.andThen_ok,MapKept.run_getObj_map hb,Sem.run_pure,T.chk k _ w hk,List.toList_toArray,h1];unfold gF;cases hf:fQ k es 0 with
 | none=>simp[T.zero,Result.andThen]
 | some x=>obtain⟨j,v⟩:=x;simp
theorem xA:∀(m:Nat) (a:List ByteArray),(((a.map Value.string).zip (a.map Value.string)).all λ(x,y)=>Instr.sameBits (m+1) x y)=true
 | m,[]=>rfl
 | m,x::l=>by
  simp only[List.map_cons,List.zip_cons_cons,List.all_cons,xA m l,Bool.and_true];simp only[Instr.sameBits];exact(MapKept.bytes_beq x x).2 rfl
theorem aGs (a:List ByteArray):Instr.sameBits 10000 (jK a) (jK a)=true:=by
 show Instr.sameBits (9999+1) (.agg (a.map Value.string).toArray) (.agg (a.map Value.string).toArray)=true
 simp only[Instr.sameBits,beq_self_eq_true,Bool.true_and];exact xA 9998 a
theorem KeyTy.entry (T:KeyTy P mt kt et n){k:List ByteArray}(hk:k.length=n){w:World}{r:Nat}{es:fN}(h:iS n es)(hb:sL w r es):∃v,(Instr.mapEntry mt (.map (some r)) (jK k)).run P w=.ok (.tuple #[v,.int .i64 (lZ es k)]) {w with heap:=w.heap.setIfInBounds r (.map (cO 0 (gL es k)).toArray (gL es k).length)}:=by
 have h1:=T.find hk w h
 simp only[Instr.mapEntry,Sem.run_bind,run_underlying T.map,Result.andThen_ok,MapKept.run_getObj_map hb,T.chk k _ w hk,List.toList_toArray,h1];unfold lZ gL;cases hf:fQ k es 0 with
 | none=>
  refine⟨.int .i64 0,?_⟩;simp only[Option.map_none,Sem.run_bind,T.zero,Result.andThen_ok,MapKept.run_setObj_map _ hb,Sem.run_pure,goInt];congr 3;simp[aEf,cO]
 | some x=>
  obtain⟨j,v⟩:=x;obtain⟨e1,e2,e3⟩:=pF hf;simp only[Nat.sub_zero,Nat.zero_add]at e2 e3;have hj:(cO 0 es).toArray[j]?=some ⟨jK k,.int .i64 v,j⟩:=by
   rw[List.getElem?_toArray,kW,e3];simp
  have hm:(cO 0 es).toArray.modify j (λe=>{e with key:=jK k})=(cO 0 es).toArray:=by
   apply Array.ext';apply List.ext_getElem?;intro q;simp only[Array.toList_modify,List.getElem?_modify];by_cases hq:j=q
   ·subst hq;have:(cO 0 es)[j]?=some ⟨jK k,.int .i64 v,j⟩:=by simpa using hj
    simp[this]
   ·simp[hq]
  refine⟨.int .i64 v,?_⟩;simp only[Option.map_some,hj,Option.getD_some,Sem.run_bind,Instr.keyThatStays,aGs,if_true,Sem.run_pure,Result.andThen_ok,hm,MapKept.run_setObj_map _ hb,goInt]
theorem aBw {w:World}{r:Nat}{es:fN}(hb:sL w r es){s:Nat}(hs:s<es.length)(v:Int):(Instr.entryStore mt (.map (some r)) (.int .i64 s) (.int .i64 v)).run P w=.ok () {w with heap:=w.heap.setIfInBounds r (.map (cO 0 (mL es s v)).toArray (mL es s v).length)}:=by
 have hf:(cO 0 es).toArray.findIdx? (λe=>(e.born:Int)==(s:Int))=some s:=by
  rw[Array.findIdx?_eq_some_iff_getElem];have hl:=aEg es 0;have hg:∀q (hq:q<(cO 0 es).length),((cO 0 es)[q]).born=q:=λq hq=>by
   have h1:=kW es 0 q
   rw[List.getElem?_eq_getElem hq,List.getElem?_eq_getElem zW]at h1;simp only[Option.map_some,Option.some.injEq]at h1;rw[h1];simp
  refine⟨by simp[hl];exact hs,?_,?_⟩
  ·simp[hg]
  ·intro j hj;simp[hg];omega
 simp only[Instr.entryStore,Sem.run_bind,MapKept.run_getObj_map hb,Result.andThen_ok,asInt,asIntOf,Sem.run_pure,hf,MapKept.run_setObj_map _ hb,aJd];rw[aE3];simp
end
def OF.mp (r:Nat)(es:fN):OF where
 F _ b:=b=r
 p _ w:=sL w r es
 st _ _ w w' _ hk h:=⟨by unfold sL;rw[hk r rfl];exact h,λ_=>Iff.rfl⟩
def OF.it (r m N:Nat)(seen:Array Nat):OF where
 F _ b:=b=r
 p _ w:=w.heap[r]?=some (.mapIter (some m) N seen N)
 st _ _ w w' _ hk h:=⟨by rw[hk r rfl];exact h,λ_=>Iff.rfl⟩
theorem OFr.mp (n r:Nat)(es:fN):OFr n (OF.mp r es):=⟨λ_ _ h=>⟨h,λ_ h=>h⟩⟩
theorem OFr.it (n r m N:Nat)(seen:Array Nat):OFr n (OF.it r m N seen):=⟨λ_ _ h=>⟨h,λ_ h=>h⟩⟩
section
variable {c:Cx}{P:Program}{ty:Nat->Option TyI}{nt:Nat}{K:List KF}{S:St}{X:Nat->Prop}{μ:Mu}{a:Act}{w:World}
theorem qB {v u:Value}(h:aD μ (.o v)=some u):u=v:=by
 simp only[aD]at h;split at h
 ·injection h with h;exact h.symm
 ·cases h
theorem vH {pre post:List OF}{f f':OF}{r:Nat}{w':World}(H:Sim c K S X μ a w)(how:S.ow=pre++f::post)(hF:∀j,f.F μ j↔j=r)(hF':∀j,f'.F μ j↔j=r)(hp:f'.p μ w')(hos:w'.os=w.os)(htp:w'.tape=w.tape)(hou:w'.output=w.output)
  (hsz:w'.heap.size=w.heap.size) (ho:∀j,j≠r->w'.heap[j]?=w.heap[j]?):Sim c K {S with ow:=pre++f'::post} X μ a w':=by
 have P:=H.toP
 have hf0:f∈S.ow:=by rw[how];simp
 obtain⟨r1,r2,r3,r4⟩:=(P.own.at_ f hf0).2 r ((hF r).2 rfl);have hxr:∀b,X b->b≠r:=λb hx e=>r3 (e▸hx);have hap:=P.own.apart;rw[how,List.pairwise_append]at hap;obtain⟨p1,p2,p3⟩:=hap;have aR5:Below c.B.heap.size c.B w':=⟨hos.trans P.bel.os,htp.trans P.bel.tape,hou.trans P.bel.output,by rw[hsz];exact P.bel.size,λk hk=>(ho k zW).trans (P.bel.block k hk)⟩;refine⟨⟨P.dfr,P.size,P.slots,λk blk m hk hm=>?_,P.all,P.inj,λk b hk=>?_,λb hb=>by rw[hsz];exact P.xlt b hb,P.xnew,P.xold,aR5,kC P.kf (λ_ h=>h) (Mu.vle_refl _) (λb hx=>ho b (hxr b hx)),?_⟩,H.dom⟩
 ·exact Blk.ok_keep (Mu.le_refl _) (λ_ h=>h) (λb hx=>ho b (hxr b hx)) (λb e=>ho b (λe'=>r4 k (by rw[hm,e,e']))) (P.heap k blk m hk hm)
 ·obtain⟨q1,q2,q3⟩:=P.loc k b hk;exact⟨q1,q2,zW⟩
 ·refine⟨λg hg=>?_,List.pairwise_append.2 ⟨p1,List.Pairwise.cons (λg hg b hb hb'=>?_) (List.Pairwise.of_cons p2),λg hg h hh b hb hb'=>?_⟩⟩
  ·have other:∀g,g∈S.ow->(∀b,f.F μ b->¬g.F μ b)->g.p μ w'/\∀b,g.F μ b->c.B.heap.size<=b/\b<w'.heap.size/\¬X b/\∀k,μ k≠some (.own b):=λg hg hne=>by
    obtain⟨h1,h2⟩:=P.own.at_ g hg;refine⟨(g.st μ μ w w' (Mu.vle_refl _) (λj hj=>ho j (λe=>hne r ((hF r).2 rfl) (e▸hj))) h1).1,λb hb=>?_⟩;obtain⟨q1,q2,q3,q4⟩:=h2 b hb;exact⟨q1,zW,q3,q4⟩
   rcases List.mem_append.1 hg with e | e
   ·exact other g (by rw[how];simp[e]) (λb hb hb'=>p3 g e f zA b hb' hb)
   ·rcases List.mem_cons.1 e with e | e
    ·subst e;exact⟨hp,λb hb=>by
      have:=(hF' b).1 hb
      subst this;exact⟨r1,zW,r3,r4⟩⟩
    ·exact other g (by rw[how];simp[e]) (λb hb hb'=>List.rel_of_pairwise_cons p2 e b hb hb')
  ·exact List.rel_of_pairwise_cons p2 hg b ((hF b).2 ((hF' b).1 hb)) hb'
  ·rcases List.mem_cons.1 hh with e | e
   ·subst e;exact p3 g hg f zA b hb ((hF b).2 ((hF' b).1 hb'))
   ·exact p3 g hg h (by simp[e]) b hb hb'
theorem tT {f':OF}{o:Obj}(H:Sim c K S X μ a w)(hF':∀j,f'.F μ j↔j=w.heap.size)(hp:f'.p μ (w.alloc o)):Sim c K {S with ow:=f'::S.ow} X μ a (w.alloc o):=by
 have P:=H.toP
 have hsz:(w.alloc o).heap.size=w.heap.size+1:=by show(w.heap.push o).size=_;simp
 have ho:∀j,j<w.heap.size->(w.alloc o).heap[j]?=w.heap[j]?:=λj hj=>Go.RowKit.Below.heap_alloc w o j hj
 have aR5:Below c.B.heap.size c.B (w.alloc o):=⟨P.bel.os,P.bel.tape,P.bel.output,by rw[hsz];have:=P.bel.size;omega,λk hk=>(ho k (by have:=P.bel.size;omega)).trans (P.bel.block k hk)⟩
 refine⟨⟨P.dfr,P.size,P.slots,λk blk m hk hm=>?_,P.all,P.inj,λk b hk=>?_,λb hb=>by rw[hsz];have:=P.xlt b hb;omega,P.xnew,P.xold,aR5,kC P.kf (λ_ h=>h) (Mu.vle_refl _) (λb hx=>ho b (P.xlt b hx)),?_⟩,H.dom⟩
 ·exact Blk.ok_keep (Mu.le_refl _) (λ_ h=>h) (λb hx=>ho b (P.xlt b hx)) (λb e=>ho b (P.loc k b (by rw[hm,e])).2.2) (P.heap k blk m hk hm)
 ·obtain⟨q1,q2,q3⟩:=P.loc k b hk;exact⟨q1,q2,zW⟩
 ·refine⟨λg hg=>?_,List.Pairwise.cons (λg hg b hb hb'=>?_) P.own.apart⟩
  ·rcases List.mem_cons.1 hg with e | e
   ·subst e;exact⟨hp,λb hb=>by
     have:=(hF' b).1 hb
     subst this;exact⟨P.bel.size,zW,λhx=>by have:=P.xlt _ hx;omega,λk hk=>by have:=(P.loc k _ hk).2.2;omega⟩⟩
   ·obtain⟨h1,h2⟩:=P.own.at_ g e;refine⟨(g.st μ μ w _ (Mu.vle_refl _) (λj hj=>ho j (h2 j hj).2.1) h1).1,λb hb=>?_⟩;obtain⟨q1,q2,q3,q4⟩:=h2 b hb;exact⟨q1,zW,q3,q4⟩
  ·have:=(hF' b).1 hb
   subst this;have:=((P.own.at_ g hg).2 _ hb').2.1;omega
theorem xE (H:Sim c K S X μ a w){d:Option Nat}(hd:cA c.nt d=true){av:AV}{v:Value}(hv:aD μ av=some v):Sim c K (S.put d av none) X μ (a.put d v) w:=by
 have:=lV (Kn:=[]) H hd (cN.same H.toP.own hv) (λf hf=>by cases hf)
 simpa[St.put]using this
theorem aE2 (hc:Ctx c P ty nt){all:Array Oper}{i:Nat}{k:List KI}(o:Oper)(ho:all[i]?=some o)(hg:guardOf all S.sl o=some true)(hd:cA nt o.dst=true){mt:Nat}{M:Nat->fN->OF}(hM:∀r es,M r es=OF.mp r es)(hop:o.op=.makeMap mt none)
  (h:∀r,Goal c K ⟨.ops all (i+1)::k,S.putO o.dst (.o (.map (some r))) none (M r []::S.ow),[]⟩):Goal c K ⟨.ops all i::k,S,[]⟩:=by
 refine sT hc o ho hg (ι:=Nat) (K':=λ_=>K) (S':=λr=>S.putO o.dst (.o (.map (some r))) none (M r []::S.ow)) (p:=λ_=>True) (λX μ a w H=>?_) (λr _=>h r);refine⟨w.heap.size,.map (some w.heap.size),w.alloc (.map #[] 0),X,μ,trivial,?_,?_⟩
 ·simp[execOp,hop,Instr.makeMap]
 ·rw[hM];have H1:=tT (f':=OF.mp w.heap.size []) (o:=.map #[] 0) H (λj=>Iff.rfl) (by show(w.alloc _).heap[w.heap.size]?=_;rw[heap_alloc_new];rfl);exact xE H1 (by rw[hc.hnt];exact hd) (av:=.o (.map (some w.heap.size))) rfl
theorem aNv (hc:Ctx c P ty nt){all:Array Oper}{i:Nat}{k:List KI}(o:Oper)(ho:all[i]?=some o)(hg:guardOf all S.sl o=some true)(hd:cA nt o.dst=true){mt kt et n r:Nat}(T:KeyTy P mt kt et n){x y:Operand}{kav:AV}{ks:List ByteArray}{es:fN}(pre:List OF){post:List OF}{M:Nat->fN->OF}(hM:∀r es,M r es=OF.mp r es)(hop:o.op=.lookup mt x y false)
  (hx:fE S.sl x=some (.o (.map (some r)))) (hy:fE S.sl y=some kav) (hk:aD iN kav=some (jK ks)) (hn:ks.length=n) (hes:iS n es) (how:S.ow=pre++M r es::post) (z:Int) (hz:z=gF es ks)
  (h:Goal c K ⟨.ops all (i+1)::k,S.put o.dst (.i .i64 (.v z)) none,[]⟩):Goal c K ⟨.ops all i::k,S,[]⟩:=by
 refine aNy hc o ho hg hd (.i .i64 (.v z)) (λX μ a w H=>?_) h;have e1:=aG H.toP hx (λ_ _=>trivial);have e2:=aG H.toP hy (λ_ _=>trivial);rw[eK hk]at e2;injection e2 with e2
 have e1:=(qB e1).symm
 rw[hM]at how;have hm:sL w r es:=(H.toP.own.at_ (OF.mp r es) (by rw[how];simp)).1;refine⟨.int .i64 z,?_,rfl⟩;subst hz;simp only[execOp,hop,<-e1,<-e2,T.look hn hes hm,Sem.run_bind,Result.andThen_ok,Sem.run_pure]
theorem aIb {w:World}{r:Nat}{o o':Obj}(h:w.heap[r]?=some o):({w with heap:=w.heap.setIfInBounds r o'}:World).heap[r]?=some o':=by
 have:=(Array.getElem?_eq_some_iff.1 h).1
 simp[this]
theorem zT {w:World}{r j:Nat}{o':Obj}(h:j≠r):({w with heap:=w.heap.setIfInBounds r o'}:World).heap[j]?=w.heap[j]?:=
 Array.getElem?_setIfInBounds_ne (λe=>h e.symm)
theorem aCs (hc:Ctx c P ty nt){all:Array Oper}{i:Nat}{k:List KI}(o:Oper)(ho:all[i]?=some o)(hg:guardOf all S.sl o=some true)(hd:cA nt o.dst=true){mt kt et n r:Nat}(T:KeyTy P mt kt et n){x y:Operand}{kav:AV}{ks:List ByteArray}{es:fN}(pre:List OF){post:List OF}{M:Nat->fN->OF}(hM:∀r es,M r es=OF.mp r es)(hop:o.op=.mapEntry mt x y)
  (hx:fE S.sl x=some (.o (.map (some r)))) (hy:fE S.sl y=some kav) (hk:aD iN kav=some (jK ks)) (hn:ks.length=n) (hes:iS n es) (how:S.ow=pre++M r es::post) {es':fN} {st:Nat} (h1:es'=gL es ks) (h2:st=lZ es ks)
  (h:∀v,Goal c K ⟨.ops all (i+1)::k,S.putO o.dst (.t [.q v,.i .i64 (.n st)]) none (pre++M r es'::post),[]⟩):Goal c K ⟨.ops all i::k,S,[]⟩:=by
 refine sT hc o ho hg (ι:=Value) (K':=λ_=>K) (S':=λv=>S.putO o.dst (.t [.q v,.i .i64 (.n st)]) none (pre++M r es'::post)) (p:=λ_=>True) (λX μ a w H=>?_) (λv _=>h v);have e1:=aG H.toP hx (λ_ _=>trivial);have e2:=aG H.toP hy (λ_ _=>trivial);rw[eK hk]at e2;injection e2 with e2
 have e1:=(qB e1).symm
 simp only[hM]at how |-;have hm:sL w r es:=(H.toP.own.at_ (OF.mp r es) (by rw[how];simp)).1;obtain⟨v,hv⟩:=T.entry hn hes hm;subst h1;subst h2;refine⟨v,.tuple #[v,.int .i64 (lZ es ks)],{w with heap:=w.heap.setIfInBounds r (.map (cO 0 (gL es ks)).toArray (gL es ks).length)},X,μ,trivial,?_,?_⟩
 rotate_left
 ·have H1:=vH (f':=OF.mp r (gL es ks)) H how (λj=>Iff.rfl) (λj=>Iff.rfl) (w':={w with heap:=w.heap.setIfInBounds r (.map (cO 0 (gL es ks)).toArray (gL es ks).length)}) (aIb hm) rfl rfl rfl zA (λj hj=>zT hj)
  exact xE H1 (by rw[hc.hnt];exact hd) (av:=.t [.q v,.i .i64 (.n (lZ es ks))]) (v:=.tuple #[v,.int .i64 (lZ es ks)]) rfl
 ·simp only[execOp,hop,<-e1,<-e2,hv,Sem.run_bind,Result.andThen_ok,Sem.run_pure]
theorem wZ (hc:Ctx c P ty nt){all:Array Oper}{i:Nat}{k:List KI}(o:Oper)(ho:all[i]?=some o)(hg:guardOf all S.sl o=some true)(hd:o.dst=none){mt r st:Nat}{x y z:Operand}{e:IE}{es:fN}(pre:List OF){post:List OF}{M:Nat->fN->OF}(hM:∀r es,M r es=OF.mp r es)(hop:o.op=.entryStore mt x y z)
  (hx:fE S.sl x=some (.o (.map (some r)))) (hy:fE S.sl y=some (.i .i64 (.n st))) (hz:fE S.sl z=some (.i .i64 e)) (hst:st<es.length) (how:S.ow=pre++M r es::post) {es':fN} (h1:es'=mL es st e.den)
  (h:Goal c K ⟨.ops all (i+1)::k,{S with ow:=pre++M r es'::post},[]⟩):Goal c K ⟨.ops all i::k,S,[]⟩:=by
 refine aTs hc o ho hg hd (λX μ a w H=>?_) h;have e1:=aG H.toP hx (λ_ _=>trivial);have e2:=bX (aG H.toP hy (λ_ _=>trivial));have e3:=bX (aG H.toP hz (λ_ _=>trivial));have e1:=(qB e1).symm;simp only[hM]at how |-;have hm:sL w r es:=(H.toP.own.at_ (OF.mp r es) (by rw[how];simp)).1;subst h1;refine⟨{w with heap:=w.heap.setIfInBounds r (.map (cO 0 (mL es st e.den)).toArray (mL es st e.den).length)},X,μ,?_,vH (f':=OF.mp r (mL es st e.den)) H how (λj=>Iff.rfl) (λj=>Iff.rfl) (w':={w with heap:=w.heap.setIfInBounds r (.map (cO 0 (mL es st e.den)).toArray (mL es st e.den).length)}) (aIb hm) rfl rfl rfl zA (λj hj=>zT hj)⟩;simp only[execOp,hop,<-e1,e2,e3,IE.den,aBw hm hst,Sem.run_bind,Result.andThen_ok,Sem.run_pure]
theorem aNx (hc:Ctx c P ty nt){all:Array Oper}{i:Nat}{k:List KI}(o:Oper)(ho:all[i]?=some o)(hg:guardOf all S.sl o=some true)(hd:cA nt o.dst=true){mt kt et n r:Nat}(T:KeyTy P mt kt et n){x:Operand}{es:fN}(pre:List OF){post:List OF}{M:Nat->fN->OF}(hM:∀r es,M r es=OF.mp r es){I:Nat->Nat->Nat->Array Nat->OF}(hI:∀a b c d,I a b c d=OF.it a b c d)(hop:o.op=.range mt x)
  (hx:fE S.sl x=some (.o (.map (some r)))) (how:S.ow=pre++M r es::post)
  (h:∀q,Goal c K ⟨.ops all (i+1)::k,S.putO o.dst (.o (.pointer (some ⟨q,0,none⟩))) none (I q r es.length #[]::S.ow),[]⟩):Goal c K ⟨.ops all i::k,S,[]⟩:=by
 refine sT hc o ho hg (ι:=Nat) (K':=λ_=>K) (S':=λq=>S.putO o.dst (.o (.pointer (some ⟨q,0,none⟩))) none (I q r es.length #[]::S.ow)) (p:=λ_=>True) (λX μ a w H=>?_) (λq _=>h q);have e1:=aG H.toP hx (λ_ _=>trivial);have e1:=(qB e1).symm;have aDh:=how;rw[hM]at aDh;have hm:sL w r es:=(H.toP.own.at_ (OF.mp r es) (by rw[aDh];simp)).1;refine⟨w.heap.size,.pointer (some ⟨w.heap.size,0,none⟩),w.alloc (.mapIter (some r) es.length #[] es.length),X,μ,trivial,by simp only[execOp,hop,<-e1,run_range_map w mt kt et r _ _ T.map hm,Sem.run_bind,Result.andThen_ok,Sem.run_pure],?_⟩;rw[hI];have H1:=tT (f':=OF.it w.heap.size r es.length #[]) (o:=.mapIter (some r) es.length #[] es.length) H (λj=>Iff.rfl) (heap_alloc_new w _);exact xE H1 (by rw[hc.hnt];exact hd) (av:=.o (.pointer (some ⟨w.heap.size,0,none⟩))) rfl
theorem aO1 {es:fN}{seen:Array Nat}(h:(leftOf (cO 0 es).toArray seen).size=0):∀j,j<es.length->j∈seen:=by
 intro j hj;have h1:=kW es 0 j;rw[List.getElem?_eq_getElem hj]at h1;simp only[Option.map_some,Nat.zero_add]at h1;have h2:leftOf (cO 0 es).toArray seen=#[]:=Array.eq_empty_of_size_eq_zero h;unfold leftOf at h2;rw[Array.filter_eq_empty_iff]at h2;have:=h2 _ (by
  have:=List.mem_of_getElem? h1
  simpa using this)
 simpa using this
theorem aO2 {es:fN}{seen:Array Nat}{e:MapEntry}(h:e∈(leftOf (cO 0 es).toArray seen).toList):∃j k v,es[j]?=some (k,v)/\j∉seen/\e=⟨jK k,.int .i64 v,j⟩:=by
 unfold leftOf at h;simp only[Array.toList_filter,List.mem_filter]at h;obtain⟨j,hj⟩:=List.getElem?_of_mem h.1;simp only[kW,Nat.zero_add]at hj;cases hx:es[j]? with
 | none=>rw[hx]at hj;cases hj
 | some x=>
  rw[hx]at hj;simp only[Option.map_some,Option.some.injEq]at hj;refine⟨j,x.1,x.2,hx,?_,hj.symm⟩;have:=h.2;rw[<-hj]at this;simpa using this
theorem aTr (hc:Ctx c P ty nt){all:Array Oper}{i:Nat}{k:List KI}(o:Oper)(ho:all[i]?=some o)(hg:guardOf all S.sl o=some true)(hd:cA nt o.dst=true){r q:Nat}{x:Operand}{es:fN}{seen:Array Nat}{M:Nat->fN->OF}(hM:∀r es,M r es=OF.mp r es){I:Nat->Nat->Nat->Array Nat->OF}(hI:∀a b c d,I a b c d=OF.it a b c d)(hop:o.op=.next x false)
  (hx:fE S.sl x=some (.o (.pointer (some ⟨q,0,none⟩)))) (pre:List OF) {post:List OF} (how:S.ow=pre++I q r es.length seen::post) (oV:M r es∈S.ow)
  (h0:(∀j,j<es.length->j∈seen)->Goal c K ⟨.ops all (i+1)::k,S.put o.dst (.t [.b (.l false)]) none,[]⟩)
  (h1:∀j ks v,es[j]?=some (ks,v)->j∉seen->Goal c K ⟨.ops all (i+1)::k,S.putO o.dst (.t [.b (.l true),.q (jK ks),.i .i64 (.v v)]) none (pre++I q r es.length (seen.push j)::post),[]⟩):Goal c K ⟨.ops all i::k,S,[]⟩:=by
 refine sT hc o ho hg (ι:=Option (Nat × List ByteArray × Int)) (K':=λ_=>K)
  (S':=λz=>match z with | none=>S.put o.dst (.t [.b (.l false)]) none | some (j,ks,v)=>S.putO o.dst (.t [.b (.l true),.q (jK ks),.i .i64 (.v v)]) none (pre++I q r es.length (seen.push j)::post))
  (p:=λz=>match z with | none=>∀j,j<es.length->j∈seen | some (j,ks,v)=>es[j]?=some (ks,v)/\j∉seen) (λX μ a w H=>?_) (λz hz=>?_)
 rotate_left
 ·cases z with
  | none=>exact h0 hz
  | some z=>obtain⟨j,ks,v⟩:=z;exact h1 j ks v hz.1 hz.2
 have e1:=aG H.toP hx (λ_ _=>trivial)
 have e1:=(qB e1).symm
 rw[hM]at oV;simp only[hI]at how |-;have hm:sL w r es:=(H.toP.own.at_ (OF.mp r es) oV).1;have hit:w.heap[q]?=some (.mapIter (some r) es.length seen es.length):=(H.toP.own.at_ (OF.it q r es.length seen) (by rw[how];simp)).1;rcases run_next_at (P:=P) w o.type q r es.length es.length seen (cO 0 es).toArray es.length hit hm (λy hy=>by
   obtain⟨j,hj⟩:=List.getElem?_of_mem hy;simp only[List.toList_toArray,kW,Nat.zero_add]at hj;cases hx:es[j]? with
   | none=>rw[hx]at hj;cases hj
   | some z=>
    rw[hx]at hj;simp only[Option.map_some,Option.some.injEq]at hj;rw[<-hj];exact(List.getElem?_eq_some_iff.1 hx).1) (lRf _)with⟨hl,aKu⟩ | ⟨e,he,w1,hw1,aKu⟩
 ·refine⟨none,.tuple #[.bool false],w,X,μ,aO1 hl,by simp only[execOp,hop,<-e1,aKu,Sem.run_bind,Result.andThen_ok,Sem.run_pure],?_⟩;exact xE H (by rw[hc.hnt];exact hd) (av:=.t [.b (.l false)]) rfl
 ·obtain⟨j,ks,v,hj,hns,rfl⟩:=aO2 he;refine⟨some (j,ks,v),.tuple #[.bool true,jK ks,.int .i64 v],ChangeMaps.setBlock w1 q (.mapIter (some r) es.length (seen.push j) es.length),X,μ,⟨hj,hns⟩,by simp only[execOp,hop,<-e1,aKu,Sem.run_bind,Result.andThen_ok,Sem.run_pure],?_⟩;have hh:w1.heap=w.heap:=by rcases hw1 with rfl | rfl<;>rfl
  have H1:=vH (f':=OF.it q r es.length (seen.push j)) H how (λj=>Iff.rfl) (λj=>Iff.rfl) (w':=ChangeMaps.setBlock w1 q (.mapIter (some r) es.length (seen.push j) es.length)) (by
    show(w1.heap.setIfInBounds q _)[q]?=_
    have:=(Array.getElem?_eq_some_iff.1 hit).1
    rw[hh];simp[this])
   (by rcases hw1 with rfl | rfl<;>rfl) (by rcases hw1 with rfl | rfl<;>rfl) (by rcases hw1 with rfl | rfl<;>rfl) (by show(w1.heap.setIfInBounds q _).size=_;rw[hh];simp) (λj' hj'=>by
    show(w1.heap.setIfInBounds q _)[j']?=_
    rw[hh];exact Array.getElem?_setIfInBounds_ne (λe=>hj' e.symm))
  exact xE H1 (by rw[hc.hnt];exact hd) (av:=.t [.b (.l true),.q (jK ks),.i .i64 (.v v)]) rfl
theorem aH5 (es:fN):(((cO 0 es).toArray).toList.map (·.born)).Nodup:=by
 have:∀(l:fN) (i:Nat),(cO i l).map (·.born)=List.range' i l.length:=by
  intro l;induction l with
  | nil=>intro i;rfl
  | cons x l ih=>intro i;obtain⟨k,v⟩:=x;simp[cO,ih,List.range'_succ]
 rw[List.toList_toArray,this];exact List.nodup_range'
theorem aBn (μ:Mu):∀(l:List ByteArray),aF μ (l.map λs=>AV.s (.v s))=some (l.map Value.string)
 | []=>rfl
 | x::l=>by simp only[List.map_cons,aF,aD,aBn μ l,SE.den]
theorem aNu (hc:Ctx c P ty nt){all:Array Oper}{i:Nat}{k:List KI}(o:Oper)(ho:all[i]?=some o)(hg:guardOf all S.sl o=some true)(hd:cA nt o.dst=true){r q j:Nat}{x:Operand}{es:fN}{seen:Array Nat}{ks:List ByteArray}{v:Int}{M:Nat->fN->OF}(hM:∀r es,M r es=OF.mp r es){I:Nat->Nat->Nat->Array Nat->OF}(hI:∀a b c d,I a b c d=OF.it a b c d)(hop:o.op=.entry x)
  (hx:fE S.sl x=some (.o (.pointer (some ⟨q,0,none⟩)))) (hit:I q r es.length (seen.push j)∈S.ow) (oV:M r es∈S.ow) (hj:es[j]?=some (ks,v))
  (h:Goal c K ⟨.ops all (i+1)::k,S.put o.dst (.t [.g (ks.map λs=>.s (.v s)),.i .i64 (.v v)]) none,[]⟩):Goal c K ⟨.ops all i::k,S,[]⟩:=by
 refine aNy hc o ho hg hd _ (λX μ a w H=>?_) h;have e1:=aG H.toP hx (λ_ _=>trivial);have e1:=(qB e1).symm;rw[hM]at oV;rw[hI]at hit;have hm:sL w r es:=(H.toP.own.at_ _ oV).1;have hit:w.heap[q]?=some (.mapIter (some r) es.length (seen.push j) es.length):=(H.toP.own.at_ _ hit).1;have he:(⟨jK ks,.int .i64 v,j⟩:MapEntry)∈(cO 0 es).toArray.toList:=by
  have:=kW es 0 j
  rw[hj]at this;have:=List.mem_of_getElem? this;simpa using this
 have:=run_entry_at (P:=P) w q r es.length seen (cO 0 es).toArray es.length ⟨jK ks,.int .i64 v,j⟩ hit hm he (aH5 es)
 refine⟨.tuple #[jK ks,.int .i64 v],?_,?_⟩
 ·simp only[execOp,hop,<-e1,this,Sem.run_bind,Result.andThen_ok,Sem.run_pure]
 ·simp only[aD,aF,aBn,IE.den];rfl
end
end Go.Ai
