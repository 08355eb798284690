/- Part 16: lemmas for the particulars laws -/
import Derived.Test.YtafimpgfbgigeaaGreatDoorPh14
set_option linter.all false
namespace Go.Ai
open Go Go.RowKit
section
variable {c:Cx}{P:Program}{ty:Nat->Option TyI}{nt:Nat}{K:List KF}{S:St}
theorem bF1 {ks:List KI}(d:Nat){av:AV}(av':AV)(hp:match ks with | .cal ..::_=>false | .dcal ..::_=>false | _=>true)(hl:look S.sl d=some av)(he:∀μ,aD μ av=aD μ av')
  (h:Goal c K ⟨ks,{S with sl:=(d,av')::S.sl},[]⟩):Goal c K ⟨ks,S,[]⟩:=
 .mk0 (yU (S':={S with sl:=(d,av')::S.sl}) hp ⟨rfl,rfl,λu b hb=>by
  by_cases e:d=u
  ·subst e;rw[bK]at hb;injection hb with hb;subst hb;exact⟨av,hl,he⟩
  ·rw[bE e]at hb;exact⟨b,hb,λ_=>rfl⟩⟩ h.so)
def aX6 (n:Nat)(xs:List Value):VF where
 p v X w:=∃(a:Option (Nat × Nat)) (cap:Nat),v=.slice (a.map λx=>⟨x.1,x.2,none⟩) n cap/\n<=cap/\match a with
  | none=>n=0/\cap=0/\xs=[]
  | some (b,o)=>X b/\∃cs,∃ty:Nat × Nat × Nat,w.heap[b]?=some (.cells cs ty.1 ty.2)/\∀i x,xs[i]?=some x->cs[o+i]?=some x
 st v X X' w w' hs hw h:=by
  obtain⟨a,cap,h1,h2,h3⟩:=h;refine⟨a,cap,h1,h2,?_⟩;match a,h3 with
  | none,h3=>exact h3
  | some (b,o),⟨h3,cs,ty,h4,h5⟩=>exact⟨hs _ h3,cs,ty,by rw[hw _ h3];exact h4,h5⟩
def dR (n:Nat)(l:List ByteArray):VF:=aX6 n (l.map Value.string)
structure RowV where
 f:Nat->ByteArray
 cap:Nat
theorem jO {ks:List KI}(d:Nat){av:AV}(N M:Nat)(l:List ByteArray)(hM:M=l.length)(hp:jT ks=true)(hl:look S.sl d=some av)(hr:∀X μ a w v,Sim c K S X μ a w->aD μ av=some v->(dR N l).p v X w)
  (h:∀f cap,(∀i x,l[i]?=some x->f i=x)->N<=cap->Goal c K ⟨ks,{S with sl:=(d,.sl S.hp.length 0 (.n N) cap)::S.sl,hp:=S.hp++[.xs M f]},[]⟩):Goal c K ⟨ks,S,[]⟩:=by
 refine jD (ι:=RowV) (K':=λ_=>K) (S':=λx=>{S with sl:=(d,.sl S.hp.length 0 (.n N) x.cap)::S.sl,hp:=S.hp++[.xs M x.f]}) (p:=λx=>(∀i y,l[i]?=some y->x.f i=y)/\N<=x.cap) hp ?_ (λx hx=>h x.f x.cap hx.1 hx.2);intro X μ a w H;obtain⟨v,hv,hs⟩:=H.toP.slots d av trivial hl;obtain⟨ad,cap,e1,e2,e3⟩:=hr X μ a w v H hv;subst hM;have hok:(Blk.xs l.length (λi=>l.getD i default)).ok X (μ.upd S.hp.length (.ext ad)) w (.ext ad):=by
  match ad,e3 with
  | none,e3=>have:=e3.2.2;simp at this;simp[Blk.ok,this]
  | some (b,o),⟨q1,cs,ty,q2,q3⟩=>exact⟨q1,cs,ty,q2,λi hi=>by rw[q3 i (.string l[i]) (by simp[hi])];simp[hi]⟩
 refine⟨⟨λi=>l.getD i default,cap⟩,X,μ.upd S.hp.length (.ext ad),⟨λi y hy=>by simp[List.getD_eq_getElem?_getD,hy],e2⟩,?_⟩;have H1:=sB H (blk:=.xs l.length (λi=>l.getD i default)) (m:=.ext ad) (λb e=>by cases e) hok;refine jW (av:=av) H1 hl ?_;rw[iN (Mu.le_upd (H.dom _ (lRf _))) av v hv];have hz:(0:Int)<=(IE.n N).den:=by simp[IE.den]
 refine(iU (len:=.n N) (a:=ad) (by simp[atS,Mu.upd_same,MV.atS]) hz (λe=>?_)).trans ?_
 rotate_left
 ·rw[e1];simp[IE.den]
 ·subst e;simp only at e3;simp[IE.den,e3.1,e3.2.1]
def OF.rv (v:Value)(base e sz n:Nat)(xs:List Value):OF where
 F _ b:=v.ownBlock=some b
 p _ w:=w.ownsRow base e sz v n xs
 st _ _ w w' _ hk h:=by
  refine⟨⟨h.1,?_⟩,λ_=>Iff.rfl⟩;rcases h.2 with hn | ⟨g,cap,cur,rfl,hb,hg,hr⟩
  ·exact .inl hn
  ·exact .inr ⟨g,cap,cur,rfl,hb,by rw[hk g (by simp[Value.ownBlock])];exact hg,hr⟩
theorem OFr.rv (m:Nat)(v:Value)(base e sz n:Nat)(xs:List Value):OFr m (OF.rv v base e sz n xs):=⟨λ_ _ h=>⟨h,λ_ h=>h⟩⟩
theorem aCd {P:Program}{w:World}(base:Nat)(t ty e:TypeId)(i:TypeInfo)(z:Value)(sz bytes:Nat)(ht:P.underlying t=some (.slice e))(hi:P.info? e=some i)(hz:i.zero=some z)
  (oK:i.size=sz) (hby:i.bytes=bytes) (hzs:z.cells.size=sz) (h0:0<sz) (v:Value) (n:Nat) (xs:List Value) (fG:w.ownsRow base e sz v n xs)
  (ad:Addr) (m c':Nat) (news:List Value) (hl:news.length=m*sz) (xW:∀j u,news[j]?=some u->w.cell? (ad.add j)=some u) (h1:∀u∈news,u.oneCell'=true)
  (h63:n+m<=maxLen) (wB:(n+m)*bytes<=140737488355328) (aTm:base<=w.heap.size):
  ∃v' w',(Builtin.append_ #[t,t] ty #[v,.slice (some ad) m c']).run P w=.ok v' w'/\w'.ownsRow base e sz v' (n+m) (xs++news)/\w.grownBy w' v.ownBlock/\(v'.ownBlock=v.ownBlock\/v'.ownBlock=some w.heap.size):=by
 obtain⟨v',w',hr,h2,h3,h4⟩:=run_append_own (P:=P) w base t ty e i z sz bytes ht hi hz oK hby hzs h0 v n xs fG ad m c' news hl xW h1 h63 wB aTm;refine⟨v',w',hr,h2,h3,?_⟩;have bHu:n+m<=9223372036854775807:=by simpa[maxLen]using h63
 rcases fG.2 with⟨rfl,rfl⟩ | ⟨g,cap,cur,rfl,hbg,hg,hnc,hcm,hcs,bFd⟩
 ·by_cases hm:m=0
  ·left;rw[h4.2 ⟨rfl,hm⟩]
  ·have hr':=run_append_nil (P:=P) w t ty e i z ht hi hz ad m c' news (by rw[oK];exact hl) xW zW zW (by rw[hby];have hb:=wB;simp only[Nat.zero_add]at hb;omega)
   rw[hr']at hr;injection hr with hr _;subst hr;exact .inr rfl
 ·by_cases aOx:n+m<=cap
  ·have hr':=run_append_room (P:=P) w t ty e i ht hi g n cap cur hg ad m c' news (by rw[oK];exact hl) xW h1 aOx (by rw[oK,hl,hcs,<-Nat.add_mul];exact Nat.mul_le_mul_right _ aOx)
   rw[hr']at hr;injection hr with hr _;subst hr;exact .inl rfl
  ·have holds:∀j u,xs[j]?=some u->w.cell? ((⟨g,0,none⟩:Addr).add j)=some u:=fG.cells (g:=g) rfl
   have hr':=run_append_grow (P:=P) w t ty e i z ht hi hz ⟨g,0,none⟩ n cap xs (by rw[oK];exact fG.1) holds ad m c' news (by rw[oK];exact hl) xW zW zW (by rw[hby];exact growslice_fits zW wB)
   rw[hr']at hr;injection hr with hr _;subst hr;exact .inr rfl
variable {X:Nat->Prop}{μ:Mu}{a:Act}{w:World}
theorem bC3 {d:Option Nat}(hd:cM c.nt d=true){ow':List OF}{e sz:Nat}{a':Option Addr}{n' aU:Nat}{l':List Value}{w':World}{r:Option Nat}
  (H:Sim c K S X μ a w) (hg:w.grownBy w' r) (lG:w'.ownsRow c.B.heap.size e sz (.slice a' n' aU) n' l')
  (pA:∀f,f∈ow'->f∈S.ow) (hap:ow'.Pairwise λf g=>∀b,f.F μ b->¬g.F μ b) (hr:∀b,r=some b->∃f,f∈S.ow/\f.F μ b) (hr':∀f,f∈ow'->∀b,r=some b->¬f.F μ b)
  (tJ:∀b,(Value.slice a' n' aU).ownBlock=some b->r=some b\/w.heap.size<=b):
  Sim c K (S.putO d (.xs a' n' aU) none (OF.rv (.slice a' n' aU) c.B.heap.size e sz n' l'::ow')) X μ (a.put d (.slice a' n' aU)) w':=by
 have P:=H.toP
 have hF:∀f,f∈S.ow->∀b,f.F μ b->c.B.heap.size<=b/\b<w.heap.size/\¬X b/\∀k,μ k≠some (.own b):=λf hf=>(P.own.at_ f hf).2
 have hB:c.B.heap.size<=w.heap.size:=P.bel.size
 have aBg:∀b,(Value.slice a' n' aU).ownBlock=some b->(∃f,f∈S.ow/\f.F μ b/\r=some b)\/w.heap.size<=b:=by
  intro b hb;rcases tJ b hb with h | h
  ·obtain⟨f,h1,h2⟩:=hr b h;exact .inl ⟨f,h1,h2,h⟩
  ·exact .inr h
 have hlt:∀b,(Value.slice a' n' aU).ownBlock=some b->b<w'.heap.size:=λb hb=>(World.ownsRow.lt lG b hb).2
 refine(mQ (Kn:=[]) H hd (av:=.xs a' n' aU) (nb:=none) (ow:=OF.rv (.slice a' n' aU) c.B.heap.size e sz n' l'::ow') (v:=.slice a' n' aU) (X':=X) (μ':=μ) (w':=w') ⟨below_grown hg hB (λb hb=>?_),λb hb hnf=>?_,rfl,rfl,λ_ h=>h,λ_ h=>.inl h,?_⟩ (λf hf=>by cases hf))
 ·obtain⟨f,h1,h2⟩:=hr b hb;exact(hF f h1 b h2).1
 ·refine hg.block b hb (λe=>?_);obtain⟨f,h1,h2⟩:=hr b e.symm;exact hnf f h1 h2
 ·refine⟨λf hf=>?_,List.Pairwise.cons (λg hg' b hb hb'=>?_) hap⟩
  ·rcases List.mem_cons.1 hf with e' | e'
   ·subst e';refine⟨lG,λb hb=>?_⟩;have hb:(Value.slice a' n' aU).ownBlock=some b:=hb;rcases aBg b hb with⟨f,h1,h2,_⟩ | e'
    ·obtain⟨q1,q2,q3,q4⟩:=hF f h1 b h2;exact⟨q1,hlt b hb,q3,q4⟩
    ·exact⟨lTr hB e',hlt _ hb,λhx=>by have:=P.xlt _ hx;omega,λk hk=>by have:=(P.loc k _ hk).2.2;omega⟩
   ·have h0:=pA f e'
    obtain⟨h1,h2⟩:=P.own.at_ f h0;refine⟨(f.st μ μ w w' (Mu.vle_refl _) (λk hk=>hg.block k (h2 k hk).2.1 (λe2=>hr' f e' k e2.symm hk)) h1).1,λb hb=>?_⟩;obtain⟨q1,q2,q3,q4⟩:=h2 b hb;exact⟨q1,Nat.lt_of_lt_of_le q2 hg.size,q3,q4⟩
  ·have hb:(Value.slice a' n' aU).ownBlock=some b:=hb
   rcases aBg b hb with⟨f,h1,h2,h3⟩ | e'
   ·exact hr' g hg' b h3 hb'
   ·have:=(hF g (pA g hg') b hb').2.1;omega
theorem bX (hc:Ctx c P ty nt){all:Array Oper}{i:Nat}{k:List KI}(o:Oper)(ho:all[i]?=some o)(hg:guardOf all S.sl o=some true)(hd:cM nt o.dst=true){t e bt j n cap:Nat}{x y:Operand}{a0:Option Addr}{ti ei:TyI}{xs news:List Value}{cells:List AV}{pre post:List OF}{bytes sz m:Nat}{G:Option Addr->Nat->Nat->List Value->OF}(hG:∀a n cap l,G a n cap l=OF.rv (.slice a n cap) c.B.heap.size e sz n l)
  (hop:o.op=.call {callee:=.builtin .append,args:=#[x,y],argTypes:=#[t,t]}) (hx:fW S.sl x=some (.xs a0 n cap)) (hy:fW S.sl y=some (.sl j 0 (.l (m:Int)) m)) (hm:Nat.ble 1 m=true) (hj:S.hp[j]?=some (.c bt cells)) (iW:aF hJ cells=some news) (mA:cells.all AV.one=true) (hlen:cells.length=m*sz) (h0:Nat.ble 1 sz=true) (how:S.ow=pre++G a0 n cap xs::post)
  (hti:ty t=some ti) (hk:ti.kind=.slice e sz) (hei:ty e=some ei) (hzs:ei.zero.length=sz)  (hle:(n+m)*bytes<=140737488355328) (h63:n+m<=9223372036854775807)
  (h:∀a' n' aU l',n'=n+m->l'=xs++news->Goal c K ⟨.ops all (i+1)::k,S.putO o.dst (.xs a' n' aU) none (G a' n' aU l'::(pre++post)),[]⟩)(hby:(P.info? e).map (·.bytes)=some bytes:=by kernel_rfl):Goal c K ⟨.ops all i::k,S,[]⟩:=by
 refine vM hc o ho hg (ι:=RowZ) (K':=λ_=>K) (S':=λz=>S.putO o.dst (.xs z.a (n+m) z.cap) none (G z.a (n+m) z.cap (xs++news)::(pre++post))) (p:=λ_=>True) (λX μ a w H=>?_) (λz _=>h z.a (n+m) z.cap _ rfl rfl);have P':=H.toP;have hm1:1<=m:=lbl hm;have hs1:1<=sz:=lbl h0;rw[hG]at how;have e1:=nF (aH H.toP hx (λ_ _=>trivial));obtain⟨b,o1,hb1,e2⟩:=oH (aH H.toP hy (λ_ _=>trivial)) (by simp only[IE.den];omega);simp only[IE.den]at e2;obtain⟨mv,hv1,hv2⟩:=yD hb1;have hok:=P'.heap j _ mv hj hv1;match mv,hv2,hok,hv1 with
 | .own b',hv2,hok,hv1=>
  simp only[MV.at,Option.some.injEq,Prod.mk.injEq]at hv2;obtain⟨rfl,rfl⟩:=hv2;obtain⟨vs,hvs,aA4⟩:=hok;rw[cW iW]at hvs;injection hvs with hvs
  subst hvs;have T:=c.tok t ti (by rw[hc.hty];exact hti);have hu:=T.und;rw[hk]at hu;obtain⟨u1,tj,u2,u3⟩:=hu;obtain⟨tj',z,h1,h2,h3,h4,h5⟩:=(c.tok e ei (by rw[hc.hty];exact hei)).info;rw[u2]at h1;injection h1 with h1;subst h1
  have hzs:z.cells.size=sz:=by have:=bC h4;rw[hzs]at this;simpa using this
  have hb2:tj.bytes=bytes:=by rw[<-hc.hP,u2]at hby;simpa using hby
  have hf0:OF.rv (.slice a0 n cap) c.B.heap.size e sz n xs∈S.ow:=by rw[how];simp
  obtain⟨hr0,hr1⟩:=P'.own.at_ _ hf0;have hr0:w.ownsRow c.B.heap.size e sz (.slice a0 n cap) n xs:=hr0;have hnl:news.length=m*sz:=by rw[bC iW,hlen]
  obtain⟨v',w',q1,q2,q3,q4⟩:=aCd (P:=c.P) c.B.heap.size t o.type e tj z sz bytes u1 u2 h3 u3 hb2 hzs zW _ _ _ hr0 ⟨b',0+0,none⟩ m m news hnl (λq u hq=>by
    simp[add_eq,World.cell?,aA4,hq]) (uN mA iW) (by simpa[maxLen]using h63) hle P'.bel.size
  have hv':∃a' aU,v'=.slice a' (n+m) aU:=by
   rcases q2.2 with⟨h6,h7⟩ | ⟨g,aU,cur,h6,_⟩
   ·omega
   ·exact⟨_,_,h6⟩
  obtain⟨a',aU,rfl⟩:=hv';refine⟨⟨a',aU⟩,.slice a' (n+m) aU,w',X,μ,trivial,?_,?_⟩
  ·rw[<-hc.hP];simp only[execOp,hop,resolve,invoke,builtin,Sem.run_bind,Sem.run_pure,Result.andThen_ok,List.map_toArray,List.map_cons,List.map_nil,e1,e2];rw[Int.toNat_natCast,q1];rfl
  ·have hap:=P'.own.apart
   rw[how,List.pairwise_append]at hap;obtain⟨p1,p2,p3⟩:=hap;simp only[hG];have pA:∀f,f∈pre++post->f∈S.ow:=λf hf=>by
    rw[how];rcases List.mem_append.1 hf with h | h
    ·simp[h]
    ·simp[h]
   refine bC3 (r:=(Value.slice a0 n cap).ownBlock) (by rw[hc.hnt];exact hd) H q3 q2 pA (List.pairwise_append.2 ⟨p1,List.Pairwise.of_cons p2,λf hf g hg=>p3 f hf g (List.mem_cons_of_mem _ hg)⟩) (λb hb=>⟨_,hf0,hb⟩) (λf hf b hb hb'=>?_) (λb hb=>?_)
   ·rcases List.mem_append.1 hf with h | h
    ·exact p3 f h _ List.mem_cons_self b hb' hb
    ·exact List.rel_of_pairwise_cons p2 h b hb hb'
   ·rcases q4 with h6 | h6
    ·left;rw[<-h6];exact hb
    ·right;rw[h6]at hb;injection hb with hb;exact Nat.le_of_eq hb
theorem gH {ks:List KI}{e sz:Nat}{G:Option Addr->Nat->Nat->List Value->OF}(hG:∀a n cap l,G a n cap l=OF.rv (.slice a n cap) c.B.heap.size e sz n l)
  (h:Goal c K ⟨ks,{S with ow:=G none 0 0 []::S.ow},[]⟩)(hp:okc ks=true:=by exact rfl):Goal c K ⟨ks,S,[]⟩:=by
 rw[hG]at h;refine pN hp (λX μ a w H=>?_) h rfl;have P:=H.toP;refine⟨X,μ,⟨P.dfr,P.size,P.slots,P.heap,P.all,P.inj,P.loc,P.xlt,P.xnew,P.xold,P.bel,P.kf,?_⟩,H.dom⟩;refine⟨λf hf=>?_,List.Pairwise.cons (λg hg b hb=>?_) P.own.apart⟩
 ·rcases List.mem_cons.1 hf with e | e
  ·subst e;exact⟨World.ownsRow_nil _ _ _ _,λb hb=>by cases hb⟩
  ·exact P.own.at_ f e
 ·cases hb
theorem fL {ks:List KI}{v:Value}{base e sz n:Nat}{l:List Value}{g:OF}{pre post:List OF}(hg:g=OF.rv v base e sz n l)(h:Goal c (KF.cst v (aX6 n l)::K) ⟨ks,{S with ow:=pre++post},[]⟩)(h0:Nat.ble 1 sz=true:=by exact rfl)(hp:okc ks=true:=by exact rfl)(how:S.ow=pre++g::post:=by exact rfl):Goal c K ⟨ks,S,[]⟩:=by
 refine pN hp (λX μ a w H=>?_) h rfl;have P:=H.toP;rw[hg]at how;have hf0:OF.rv v base e sz n l∈S.ow:=by rw[how];simp
 obtain⟨hr0,hr1⟩:=P.own.at_ _ hf0;have hap:=P.own.apart;rw[how,List.pairwise_append]at hap;obtain⟨p1,p2,p3⟩:=hap;have hr1:∀b,v.ownBlock=some b->c.B.heap.size<=b/\b<w.heap.size/\¬X b/\∀k,μ k≠some (.own b):=hr1;let X':Nat->Prop:=λb=>X b\/v.ownBlock=some b;have pA:∀b,X b->X' b:=λb h=>Or.inl h;have hX:∀b,X' b->X b\/v.ownBlock=some b:=λb h=>h;refine⟨X',μ,tU (S:={S with ow:=pre++post}) (f:=KF.cst v (aX6 n l)) ⟨⟨P.dfr,P.size,P.slots,λk blk m hk hm=>Blk.ok_congr (λ_=>rfl) pA (P.heap k blk m hk hm),P.all,P.inj,λk b hk=>?_,λb hb=>(hX b hb).elim (P.xlt b) (λh=>(hr1 b h).2.1),λb hb=>(hX b hb).elim (P.xnew b) (λh=>Or.inr (hr1 b h).1),λb hb=>pA b (P.xold b hb),P.bel,lH P.kf pA (Mu.vle_refl _) (λ_ _=>rfl),?_⟩,H.dom⟩ ?_⟩
 ·obtain⟨q1,q2,q3⟩:=P.loc k b hk;exact⟨q1,λhb=>hb.elim q2 (λh=>(hr1 b h).2.2.2 k hk),q3⟩
 ·refine⟨λf hf=>?_,List.pairwise_append.2 ⟨p1,List.Pairwise.of_cons p2,λf hf g hg=>p3 f hf g (List.mem_cons_of_mem _ hg)⟩⟩;have hf':f∈S.ow:=by
   rw[how];rcases List.mem_append.1 hf with h | h<;>simp[h]
  obtain⟨h1,h2⟩:=P.own.at_ f hf';refine⟨h1,λb hb=>?_⟩;obtain⟨q1,q2,q3,q4⟩:=h2 b hb;refine⟨q1,q2,λhx=>hx.elim q3 (λh=>?_),q4⟩;rcases List.mem_append.1 hf with h' | h'
  ·exact p3 f h' _ List.mem_cons_self b hb h
  ·exact List.rel_of_pairwise_cons p2 h' b h hb
 ·have hr0:w.ownsRow base e sz v n l:=hr0
  have hs1:1<=sz:=lbl h0
  show(aX6 n l).p v _ w
  rcases hr0.2 with⟨rfl,h2⟩ | ⟨g,cap,cur,rfl,_,hg,hnc,_,hcs,htk⟩
  ·have:l=[]:=List.eq_nil_of_length_eq_zero (by rw[hr0.1,h2,Nat.zero_mul])
   subst this;subst h2;exact⟨none,0,rfl,lRf _,rfl,rfl,rfl⟩
  ·refine⟨some (g,0),cap,rfl,hnc,.inr rfl,cur,(e,(0,0)),hg,λi x hx=>?_⟩;have h3:(cur.toList.take (n*sz))[i]?=some x:=by rw[htk];exact hx
   rw[List.getElem?_take]at h3;split at h3
   ·simpa using h3
   ·cases h3
theorem aP2 {n0:Nat}{D:Nat->Prop}{o:Oper}{av:AV}{bt:Nat}{cells:List AV}{Kn:List KF}{ow:List OF}(h:Cert c K n0 D S o av (some (.c bt cells)) Kn ow):Cert c K n0 D S o av (some (.d bt cells.length)) Kn ow:=by
 intro X μ a w next Q H hfr hn
 refine h X μ a w next Q H hfr (λX' μ' v w' hp hk=>hn X' μ' v w' ⟨hp.bel,hp.keep,hp.val,?_,hp.sub,hp.new,hp.own⟩ hk)
 obtain⟨m,e1,e2,e3⟩:=hp.blk;refine⟨m,e1,?_,e3⟩;cases m with
 | ext a=>exact e2.elim
 | val v=>exact e2.elim
 | own b=>
  obtain⟨vs,q1,q2⟩:=e2;exact⟨vs,bC q1,q2⟩
theorem fR (hc:Ctx c P ty nt){all:Array Oper}{i n0:Nat}{K0:List KF}{k:List KI}(o:Oper){av:AV}{bt:Nat}{cells:List AV}
  (h:Goal c K ⟨.dops all (i+1) n0 K0::k,S.put o.dst av (some (.d bt cells.length)),[]⟩)(ho:all[i]?=some o:=by exact rfl)(hg:guardOf all S.sl o=some true:=by exact rfl)(hd:cM nt o.dst=true:=by exact rfl)(hr:fop ty n0 (fl S o) o.op=some ⟨av,some (.c bt cells),[]⟩:=by exact rfl):Goal c K ⟨.dops all i n0 K0::k,S,[]⟩:=by
 have hs:DPath c all n0 K0 k (i+1) (S.put o.dst av (some (.d bt cells.length))) K:=h.so
 refine .mk0 (show DPath c all n0 K0 k i S K from ?_);refine DPath.op (Kn:=[]) (ow:=(fl S o).ow) ho hg (by rw[hc.hnt];exact hd) (aP2 (lA (r:=⟨av,some (.c bt cells),[]⟩) (by rw[hc.hty];exact hr) trivial (λt ht=>by simp only[xL,eG,List.mem_append];exact .inl (fV (by simpa using ht))))) (λ_=>rfl) ?_ hs;rw[show(if cF o then(fl S o).ow else S.ow)=S.ow by unfold fl;split<;>rfl];exact Wk.refl _
theorem uR (hc:Ctx c P ty nt){all:Array Oper}{i n0:Nat}{K0:List KF}{k:List KI}{ps:List Ps}(hd:aBt all i=true)(hi:i<=all.size)(hps:lI ty S all (List.range' i (all.size - i))=some ps)(n:Nat)
  (h:Goal c K (run ty nt K n (.ops all all.size::k) (S.setPs ps) [])):Goal c K ⟨.dops all i n0 K0::k,S,[]⟩:=
 .mk0 (DPath.stop hi (.inr (.inl ⟨hd,ps,by rw[hc.hty];exact hps,dX hc n h⟩)))
theorem aYa (hc:Ctx c P ty nt){all:Array Oper}{i n0:Nat}{K0:List KF}{k:List KI}{ps:List Ps}(m2:Nat)(hd:aBu all i m2=true)(hi:i<=all.size)(h2:m2<=all.size)(hps:lI ty S all (List.range' i (m2 - i))=some ps)(n:Nat)
  (h:Goal c K (run ty nt K n (.ops all m2::k) (S.setPs ps) [])):Goal c K ⟨.dops all i n0 K0::k,S,[]⟩:=
 .mk0 (DPath.stop hi (.inr (.inr (.inr ⟨m2,hd,h2,ps,by rw[hc.hty];exact hps,dX hc n h⟩))))
def bEf (j:Nat):List KI->Bool
 | .dops _ i _ _::_=>i==j
 | _=>false
def aX7 (ty:Nat->Option TyI)(nt:Nat)(K:List KF)(j:Nat):Nat->List KI->St->List Obl->Cfg
 | 0,ks,S,ob=>⟨ks,S,ob⟩
 | n+1,ks,S,ob=>if bEf j ks then⟨ks,S,ob⟩else match aK9 ty nt K ks S with
  | some r=>aX7 ty nt K j n r.ks r.S (match r.ob with | []=>ob | o=>ob++o)
  | none=>⟨ks,S,ob⟩
theorem aKv (ty:Nat->Option TyI)(nt:Nat)(K:List KF)(j:Nat):∀(n:Nat) (ks:List KI) (S:St) (ob:List Obl),∃m,aX7 ty nt K j n ks S ob=run ty nt K m ks S ob
 | 0,ks,S,ob=>⟨0,rfl⟩
 | n+1,ks,S,ob=>by
  simp only[aX7];split
  ·exact⟨0,rfl⟩
  ·split
   ·rename_i r hr;obtain⟨m,hm⟩:=aKv ty nt K j n r.ks r.S (match r.ob with | []=>ob | o=>ob++o);exact⟨m+1,by simp only[run,hr];exact hm⟩
   ·exact⟨0,rfl⟩
theorem aZg (hc:Ctx c P ty nt)(j n:Nat){ks:List KI}(h:Goal c K (aX7 ty nt K j n ks S [])):Goal c K ⟨ks,S,[]⟩:=by
 obtain⟨m,hm⟩:=aKv ty nt K j n ks S [];rw[hm]at h;exact iC hc m h
theorem aB5 (hc:Ctx c P ty nt){all:Array Oper}{i n0:Nat}{K0:List KF}{k:List KI}(hd:uJ all i=true)(hi:i<=all.size)(h:Goal c K ⟨.ord all (firstM all.size i)::k,S,[]⟩):Goal c K ⟨.dops all i n0 K0::k,S,[]⟩:=
 .mk0 (DPath.stop hi (.inr (.inr (.inl ⟨hd,h.so⟩))))
theorem bU {all:Array Oper}{L:Array Bool}{k:List KI}(l:List Nat)(hl:Region.ready .any all L=l)(hne:l.isEmpty=false)
  (h:∀i,i∈l->∃o,all[i]?=some o/\o.guard=none/\Goal c K ⟨.ops #[o] 0::.ord all (L.setIfInBounds i true)::k,S,[]⟩):Goal c K ⟨.ord all L::k,S,[]⟩:=by
 refine .mk0 (aGl (λh0=>?_) (λi hi=>?_))
 ·rw[hl]at h0;subst h0;cases hne
 ·obtain⟨o,h1,h2,h3⟩:=h i (hl▸hi);exact⟨o,h1,h2,h3.so⟩
theorem wK {all:Array Oper}{L:Array Bool}{k:List KI}(hl:Region.ready .any all L=[])(hk:jT k=true)(h:Goal c K ⟨k,S,[]⟩):Goal c K ⟨.ord all L::k,S,[]⟩:=by
 refine .mk0 (aGl (λ_=>oO hk h) (λi hi=>?_));rw[hl]at hi;cases hi
end
end Go.Ai
namespace Go.Ai
open Go Go.Proofs Go.Num
theorem aQ1 {v:Value}{X:Nat->Prop}{w:World}{l:List Int}(hb:l.length<=2^40)(hX:∀b,X b->b<w.heap.size)(hv:(mY .u32 l).p v X w):Fn PP 163 [v] X w (trimF v l):=by
 obtain⟨R,hRR⟩:=nm (trimF v l);obtain⟨K,hK⟩:=nm ([KF.cst v (mY .u32 l)]);rw[<-hRR];refine bJ mixed tok [.q v] (K:=K) Tryz.func163 rfl rfl (lbl rfl) rfl hX (by subst hK;simp;exact hv) λc hc hR=>?_;refine aVg 0 .u32 l rfl rfl (λX μ a w H=>H.toP.cst (by simp[hK])) λf N cap ad hN hf dJ hv0=>?_;obtain⟨K1,hK1⟩:=nm (KF.ext 0 ad::K);show Goal c (KF.ext 0 ad::K) _
 rw[<-hK1];have kfo:lT 1 K1 K1:=by subst hK1;subst hK;exact⟨⟨.head _,KFr.ext zW _⟩,⟨.tail _ (.head _),KFr.cst _ _ _⟩,trivial⟩
 apply zN hc;cbv;let ι:={m:Nat//m<=N/\fA (l.take m)=fA l};let I:ι->St:=λx=>⟨[(0,.sl 0 0 (.n x.1) cap)],[.xi .u32 N f],[]⟩
 let x0:ι:=⟨N,lRf _,by rw[hN,List.take_length]⟩
 refine zU 1 (S':=I x0) (K':=K1) zL kfo trivial ?_;refine bW hc I (λx=>x.1) x0 100 ?_;rintro p ⟨m,hm,ht⟩ hy;have done:l.take m=fA l->∀X μ a w v S,Sim c K1 S X μ a w->S.hp[0]?=some (.xi .u32 N f)->aD μ (.sl 0 0 (.n m) cap)=some v->R.p v X w:=by
  intro h2 X μ a w v S H hk hv;rw[hRR];refine⟨?_,?_⟩
  rotate_left
  ·have h3:μ 0=some (.ext ad):=H.toP.kf (KF.ext 0 ad) (by rw[hK1];exact .head _)
   obtain⟨a',q1,q2,_⟩:=pH hv;simp only[atS,h3,Option.bind_some,MV.atS,Option.some.injEq]at q1;subst q1;rw[q2,hv0,<-h2];have hm':(IE.n m).den.toNat=(l.take m).length:=by simp[IE.den];omega
   rw[hm'];simp[aQz]
  rw[<-h2];exact H.toP.row hk hv (by simp[IE.den];omega) (λi x hx=>by
   rw[List.getElem?_take]at hx;split at hx
   ·simpa using hf i x hx
   ·cases hx) (by simp;omega) (by simp;omega)
 cbv;refine cG 6 rfl rfl 100 (λh=>?_) (λh=>?_)
 ·have h:0<m:=by simpa[BE.den,IE.den]using h
  obtain⟨q,rfl⟩:∃q,m=q+1:=⟨m - 1,zW⟩;have hq:l[q]?=some l[q]:=zA;have hfq:=hf q _ hq;have htk:l.take (q+1)=l.take q++[l[q]]:=by rw[List.take_add_one,hq];rfl
  cbv;refine aP hc ⟨?_,?_,?_,trivial⟩ ?_
  ·show _/\_;simp only[lo,hi,IE.den];omega
  ·show _/\_;simp only[IE.den];omega
  ·show _<=_;simp only[IE.den,aY];omega
  refine aE rfl 100 (λh3=>?_) (λh3=>?_)
  ·have h3:l[q]=0:=by
    have:=of_decide_eq_true h3
    simp only[IE.den,aY]at this;rw[<-hfq,<-this];congr 1;omega
   cbv;refine aP hc ⟨?_,?_,trivial⟩ ?_
   ·show _/\_;simp only[lo,hi,IE.den];omega
   ·show _/\_;simp only[IE.den];omega
   refine zU 1 (S':=I ⟨q,zW,by rw[<-ht,htk,h3,wQ]⟩) (K':=K1) ⟨⟨_,rfl,rfl,λμ=>?_⟩,trivial⟩ kfo trivial (hy _ (Nat.lt_succ_self q));have e:((IE.n (q+1)).sub (IE.l 1)).den=(IE.n q).den:=by simp only[IE.den];omega
   simp only[aD,e]
  ·have h3:l[q]≠0:=by
    intro e;have h4:=of_decide_eq_false h3;refine h4 ?_;simp only[IE.den,aY];rw[<-e,<-hfq];congr 1;omega
   cbv;refine bB hc hR rfl (λX μ a w v H hv=>done ?_ X μ a w v _ H rfl hv);rw[<-ht,htk,aEi h3]
 ·have h:m=0:=by
   have:=of_decide_eq_false h
   simp only[IE.den]at this;omega
  cbv;refine bB hc hR rfl (λX μ a w v H hv=>done ?_ X μ a w v _ H rfl hv);rw[<-ht,h];rfl
theorem aQ2 {v:Value}{X:Nat->Prop}{w:World}{l:List Int}(hb:l.length<=2^40)(hX:∀b,X b->b<w.heap.size)(hv:(mY .u32 l).p v X w):Fn PP 163 [v] X w (mY .u32 (fA l)):=
 (aQ1 hb hX hv).mono λ_ _ _ h=>h.1
theorem gQ {v:Value}{X:Nat->Prop}{w:World}{l:List Int}(hl:Wd l)(hb:l.length<=2^40)(hX:∀b,X b->b<w.heap.size)(hv:(mY .u32 l).p v X w):Fn PP 163 [v] X w (aI (val l).toNat):=by
 have:=aQ2 hb hX hv
 rwa [oV hl]at this
theorem mG:aB PP 163:=zK
theorem qE:aB PP 96:=zK
theorem aAj {X:Nat->Prop}{w:World}{x:Int}(hX:∀b,X b->b<w.heap.size)(h0:0<=x)(h1:x<4294967296):Fn PP 96 [.int .u32 x] X w (aI x.toNat):=by
 obtain⟨R,hRR⟩:=nm (aI x.toNat);rw[<-hRR];refine bJ mixed tok [.i .u32 (.v x)] (K:=[]) Tryz.func96 rfl rfl (lbl rfl) rfl hX (λf hf=>by cases hf) λc hc hR=>?_;apply zN hc;cbv;refine aP hc ⟨?_,?_,?_,trivial⟩ ?_
 ·show _≠_;simp[IE.den]
 ·show _≠_;simp[IE.den]
 ·show _/\_;simp only[lo,hi,IE.den,Int.tdiv_eq_ediv_of_nonneg h0];omega
 refine aAl 0 .u32 rfl rfl rfl λf hf=>?_;have f0:=hf 0 _ rfl;have f1:=hf 1 _ rfl;have e1:x.tmod 1000000000=x%1000000000:=Int.tmod_eq_emod_of_nonneg h0;have e2:x.tdiv 1000000000=x/1000000000:=Int.tdiv_eq_ediv_of_nonneg h0;simp only[IE.den,e1,e2]at f0 f1;have hl:Wd [x%1000000000,x/1000000000]:=Wd.mk zW (Wd.mk zW Wd.nil);have hv:val [x%1000000000,x/1000000000]=x:=by simp only[val];omega
 cbv;refine eB (R:=R) hc mG (λn0 D X μ a w aK H aG=>?_) 100 ?_
 ·obtain⟨v,rfl,hv'⟩:=bN aG;have h3:=H.row (l:=[x%1000000000,x/1000000000]) rfl hv' rfl (λi y hy=>by
   match i,hy with
   | 0,hy=>simp at hy;subst hy;exact f0
   | 1,hy=>simp at hy;subst hy;exact f1) (lRf _) (lRf _)
  have:=gQ hl zA H.xlt h3
  rw[hv]at this;rw[hRR];exact this
 cbv;exact bB hc hR rfl (λX μ a w v H hv=>H.toP.val (k:=1) (.head _) hv)
theorem pR:aB PP 97:=zK
theorem aKh {v u:Value}{X:Nat->Prop}{w:World}{n m:Nat}(hbn:(aC n).length<=2^40)(hbm:(aC m).length<=2^40)(hX:∀b,X b->b<w.heap.size)(hv:(aI n).p v X w)(hu:(aI m).p u X w):
  Fn PP 97 [v,u] X w (eE (.int .i64 (bD n m))):=by
 obtain⟨R,hRR⟩:=nm (eE (.int .i64 (bD n m)));obtain⟨K,hK⟩:=nm ([KF.cst v (aI n),KF.cst u (aI m)]);rw[<-hRR];have lO:∀{av:AV} {z:Int} {X μ v w},aD μ av=some v->(aD μ av=some (.int .i64 z))->z=bD n m->R.p v X w:=by
  intro av z X μ v w h1 h2 h3;rw[h2]at h1;injection h1 with h1
  rw[hRR,<-h1,h3];rfl
 refine bJ mixed tok [.q v,.q u] (K:=K) Tryz.func97 rfl rfl (lbl rfl) rfl hX (by subst hK;simp;exact⟨hv,hu⟩) λc hc hR=>?_;refine dE 0 .u32 (aC n) rfl rfl (λX μ a w v' H hv'=>cD H (by simp[hK]) hv') λf N cap hN hf dJ=>?_;refine dE 1 .u32 (aC m) rfl rfl (λX μ a w v' H hv'=>cD H (by simp[hK]) hv') λf' M aU hM hf' gY=>?_;apply zN hc;cbv;refine aE rfl 100 (λh=>?_) (λh=>?_)
 ·have h:(N:Int)≠(M:Int):=BE.eq_f (BE.not_t h)
  have h:(aC n).length≠(aC m).length:=zW
  have hlen:=aJg h
  have hle:∀z:Int,bD N M=z->z=bD n m:=λz hz=>by rw[<-hz,hN,hM];exact hlen
  have hlt:(N:Int)<(M:Int)->(-1:Int)=bD n m:=λh=>hle _ (by unfold bD;rw[if_pos h])
  have hgt:¬(N:Int)<(M:Int)->(1:Int)=bD n m:=λh'=>hle _ (by unfold bD;rw[if_neg h',if_pos zW])
  cbv;refine aE rfl 100 (λh2=>?_) (λh2=>?_)
  ·have h2:=hlt (BE.lt_t h2)
   cbv;exact bB hc hR rfl (λX μ a w v H hv=>lO hv rfl h2)
  ·have h2:=hgt (BE.lt_f h2)
   cbv;exact bB hc hR rfl (λX μ a w v H hv=>lO hv rfl h2)
 ·have h:(N:Int)=(M:Int):=BE.eq_t (BE.not_f h)
  have h:M=N:=zW
  subst h;cbv;refine aP hc ⟨?_,trivial⟩ ?_
  ·show _/\_;simp only[lo,hi,IE.den];omega
  let ι:={k:Nat//k<=M/\(aC n).drop k=(aC m).drop k}
  let I:ι->St:=λx=>⟨[(0,.sl 0 0 (.n M) cap),(1,.sl 1 0 (.n M) aU),(5,.i .i64 (.sub (.n x.1) (.l 1)))],[.xi .u32 M f,.xi .u32 M f'],[]⟩
  let x0:ι:=⟨M,lRf _,by rw[List.drop_of_length_le zW,List.drop_of_length_le zW]⟩
  refine zU 2 (S':=I x0) (K':=K) zL (by subst hK;exact⟨⟨.head _,KFr.cst _ _ _⟩,⟨.tail _ (.head _),KFr.cst _ _ _⟩,trivial⟩) trivial ?_;refine bW hc I (λx=>x.1) x0 100 ?_;rintro p ⟨k,hk,hd⟩ hy;cbv;refine aE rfl 100 (λh=>?_) (λh=>?_)
  ·have h:(0:Int)<=(k:Int) - 1:=BE.le_t h
   obtain⟨q,rfl⟩:∃q,k=q+1:=⟨k - 1,zW⟩;have hq:q<(aC n).length:=zW;have hq':q<(aC m).length:=zW;have gq:=hf q (aC n)[q] zA;have gq':=hf' q (aC m)[q] zA;have hwn:=bG n (aC n)[q] (List.getElem_mem _);have hwm:=bG m (aC m)[q] (List.getElem_mem _);have hix:aY 0 ((IE.n (q+1)).sub (IE.l 1)).den 1 0=q:=by simp only[aY,IE.den];omega
   cbv;have o1:(Obl.ltE ((IE.n (q+1)).sub (IE.l 1)) (IE.n M)).ok:=by show _/\_;simp only[IE.den];omega
   have o2:(Obl.ix 0 ((IE.n (q+1)).sub (IE.l 1)) 1 0 1 M).ok:=by show _<=_;rw[hix];omega
   refine aP hc ⟨o1,o2,o1,o2,trivial⟩ ?_;have aJu:(aC n)[q]≠(aC m)[q]->bD (aC n)[q] (aC m)[q]=bD n m:=λh=>by
    rw[aJh (bG n) (bG m) (List.getElem?_eq_getElem hq) (List.getElem?_eq_getElem hq') hd h,cS,cS]
   refine zE ?_;cbv;refine aE rfl 100 (λh=>?_) (λh=>?_)
   ·have h:f (aY 0 ((IE.n (q+1)).sub (IE.l 1)).den 1 0)<f' (aY 0 ((IE.n (q+1)).sub (IE.l 1)).den 1 0):=BE.lt_t h
    rw[hix,gq,gq']at h;have hz:(-1:Int)=bD n m:=by rw[<-aJu zW];unfold bD;rw[if_pos h]
    cbv;exact bB hc hR rfl (λX μ a w v H hv=>lO hv rfl hz)
   have h1:¬f (aY 0 ((IE.n (q+1)).sub (IE.l 1)).den 1 0)<f' (aY 0 ((IE.n (q+1)).sub (IE.l 1)).den 1 0):=BE.lt_f h
   rw[hix,gq,gq']at h1;clear h;cbv;refine aP hc ⟨o1,o2,o1,o2,trivial⟩ ?_;refine zE ?_;cbv;refine aE rfl 100 (λh=>?_) (λh=>?_)
   ·have h:f' (aY 0 ((IE.n (q+1)).sub (IE.l 1)).den 1 0)<f (aY 0 ((IE.n (q+1)).sub (IE.l 1)).den 1 0):=BE.lt_t h
    rw[hix,gq,gq']at h;have hz:(1:Int)=bD n m:=by rw[<-aJu zW];unfold bD;rw[if_neg h1,if_pos h]
    cbv;exact bB hc hR rfl (λX μ a w v H hv=>lO hv rfl hz)
   ·have h:¬f' (aY 0 ((IE.n (q+1)).sub (IE.l 1)).den 1 0)<f (aY 0 ((IE.n (q+1)).sub (IE.l 1)).den 1 0):=BE.lt_f h
    rw[hix,gq,gq']at h;have h:(aC n)[q]=(aC m)[q]:=zW;cbv;refine aP hc ⟨?_,trivial⟩ ?_
    ·show _/\_;simp only[lo,hi,IE.den];omega
    refine zU 2 (S':=I ⟨q,zW,by rw[List.drop_eq_getElem_cons hq,List.drop_eq_getElem_cons hq',hd,h]⟩) (K':=K) ⟨zS,zS,⟨_,rfl,rfl,λμ=>?_⟩,trivial⟩ (by subst hK;exact⟨⟨.head _,KFr.cst _ _ _⟩,⟨.tail _ (.head _),KFr.cst _ _ _⟩,trivial⟩) trivial (hy _ (Nat.lt_succ_self q));have e:(((IE.n (q+1)).sub (IE.l 1)).sub (IE.l 1)).den=((IE.n q).sub (IE.l 1)).den:=by simp only[IE.den];omega
    simp only[aD,e]
  ·have h:¬(0:Int)<=(k:Int) - 1:=BE.le_f h
   have h0:k=0:=zW
   subst h0;cbv;refine bB hc hR rfl (λX μ a w v H hv=>lO hv rfl ?_);have:n=m:=aJo (by simpa using hd);subst this;simp[bD,IE.den]
theorem aXu {a b:Nat}(h:a<=b):(1000000000:Int)^a<=1000000000^b:=by
 have e:∀k:Nat,(1000000000:Int)^k=((1000000000^k:Nat):Int):=λk=>zA
 rw[e,e];exact Int.ofNat_le.2 (Nat.pow_le_pow_right zV h)
theorem aWm:aB PP 169:=zK
theorem bFq {v u:Value}{X:Nat->Prop}{w:World}{n m:Nat}(hbn:(aC n).length<2^39)(hbm:(aC m).length<2^39)(hX:∀b,X b->b<w.heap.size)(hv:(aI n).p v X w)(hu:(aI m).p u X w):
  Fn PP 169 [v,u] X w (aI (n+m)):=by
 obtain⟨R,hRR⟩:=nm (aI (n+m));obtain⟨K,hK⟩:=nm ([KF.cst v (aI n),KF.cst u (aI m)]);rw[<-hRR];refine bJ mixed tok [.q v,.q u] (K:=K) Tryz.func169 rfl rfl (lbl rfl) rfl hX (by subst hK;simp;exact⟨hv,hu⟩) λc hc hR=>?_;refine dE 0 .u32 (aC n) rfl rfl (λX μ a w v' H hv'=>cD H (by simp[hK]) hv') λf N cap hN hf dJ=>?_;refine dE 1 .u32 (aC m) rfl rfl (λX μ a w v' H hv'=>cD H (by simp[hK]) hv') λf' M aU hM hf' gY=>?_;have hfw:∀i,i<N->f i=(aC n).getD i 0:=λi hi=>by
  have:=List.getElem?_eq_getElem (l:=aC n) (i:=i) zW
  rw[hf i _ this,List.getD_eq_getElem?_getD,this];rfl
 have aDg:∀i,i<M->f' i=(aC m).getD i 0:=λi hi=>by
  have:=List.getElem?_eq_getElem (l:=aC m) (i:=i) zW
  rw[hf' i _ this,List.getD_eq_getElem?_getD,this];rfl
 have hge:∀i,N<=i->(aC n).getD i 0=0:=λi hi=>by rw[List.getD_eq_getElem?_getD,List.getElem?_eq_none zW];rfl
 have aTs:∀i,M<=i->(aC m).getD i 0=0:=λi hi=>by rw[List.getD_eq_getElem?_getD,List.getElem?_eq_none zW];rfl
 have hNb:N<2^39:=zW
 have hMb:M<2^39:=zW
 have kf:lT 2 K K:=by subst hK;exact⟨⟨.head _,KFr.cst _ _ _⟩,⟨.tail _ (.head _),KFr.cst _ _ _⟩,trivial⟩
 apply zN hc;cbv;obtain⟨G,hG⟩:∃G:Option Addr->Nat->Nat->List Int->OF,∀a n cap l,G a n cap l=OF.row (.slice a n cap) c.B.heap.size 145 .u32 l:=⟨λa n cap l=>OF.row (.slice a n cap) c.B.heap.size 145 .u32 l,λ_ _ _ _=>rfl⟩;have kof:∀a i cp out,aCb 2 [G a i cp out]:=λa i cp out=>⟨by rw[hG];exact OFr.row _ _ _ _ _ _,trivial⟩
 refine tT hG rfl ?_;cbv;let ι:={x:Nat × Option Addr × Nat × List Int × Int//Mrg n m 1 x.1 x.2.2.2.1 x.2.2.2.2/\x.1<=max N M+1};let I:ι->St:=λx=>⟨[(0,.sl 0 0 (.n N) cap),(1,.sl 1 0 (.n M) aU),(5,.xs x.1.2.1 x.1.1 x.1.2.2.1),(6,.i .u32 (.v x.1.2.2.2.2)),(7,.i .i64 (.n x.1.1))],[.xi .u32 N f,.xi .u32 M f'],[G x.1.2.1 x.1.1 x.1.2.2.1 x.1.2.2.2.1]⟩
 let x0:ι:=⟨(0,none,0,[],0),Mrg.init (.inl rfl),Nat.zero_le _⟩
 refine zU 2 (S':=I x0) (K':=K) zL kf (kof _ _ _ _) ?_;refine bW hc I (λx=>max N M+1 - x.1.1) x0 100 ?_;rintro pp ⟨⟨i,a,cp,out,cr⟩,hM',hi⟩ hy;have hcr:=hM'.c;have hlen:=hM'.len;simp only at hM' hi hcr hlen;have hga:=bA (bG n) i;have hgb:=bA (bG m) i;obtain⟨ga,iM⟩:=nm ((aC n).getD i 0);obtain⟨gb,mN⟩:=nm ((aC m).getD i 0);rw[<-iM]at hga;rw[<-mN]at hgb;obtain⟨x,hx⟩:=nm (cr+ga+gb);have hxb:x=cr+(aC n).getD i 0+1*(aC m).getD i 0:=by rw[hx,iM,mN];omega
 have aTr:0<=cr/\cr<=1:=zW
 have hx0:0<=x/\x<2000000001:=zW
 have cQ:=hM'.step hxb
 obtain⟨w0,hw0⟩:=nm (x%1000000000);obtain⟨c0,hc0⟩:=nm (x/1000000000);rw[<-hw0,<-hc0]at cQ;have ew0:x.tmod 1000000000=w0:=by rw[hw0,Int.tmod_eq_emod_of_nonneg hx0.1]
 have ec0:x.tdiv 1000000000=c0:=by rw[hc0,Int.tdiv_eq_ediv_of_nonneg hx0.1]
 have hix:aY 0 (IE.n i).den 1 0=i:=by simp only[aY,IE.den];omega
 have g1:i<N->(IE.fn f 0 (.n i) 1 0).den=ga:=λh=>by show f (aY 0 (IE.n i).den 1 0)=ga;rw[hix,hfw i h,iM]
 have g2:i<M->(IE.fn f' 0 (.n i) 1 0).den=gb:=λh=>by show f' (aY 0 (IE.n i).den 1 0)=gb;rw[hix,aDg i h,mN]
 have z1:¬i<N->ga=0:=λh=>by rw[iM,hge i zW]
 have z2:¬i<M->gb=0:=λh=>by rw[mN,aTs i zW]
 have o1:i<N->(Obl.ltE (IE.n i) (IE.n N)).ok:=λh=>by show _/\_;simp only[IE.den];omega
 have o2:i<N->(Obl.ix 0 (IE.n i) 1 0 1 N).ok:=λh=>by show _<=_;rw[hix];omega
 have o1':i<M->(Obl.ltE (IE.n i) (IE.n M)).ok:=λh=>by show _/\_;simp only[IE.den];omega
 have o2':i<M->(Obl.ix 0 (IE.n i) 1 0 1 M).ok:=λh=>by show _<=_;rw[hix];omega
 have cU:∀(e:IE) (z:Int),e.den=z->0<=z/\z<=4294967295->(Obl.inR .u32 e).ok:=λe z he hz=>by show _/\_;rw[he];exact hz
 have rg1:0<=ga/\ga<=4294967295:=zW
 have rg2:0<=gb/\gb<=4294967295:=zW
 have rx1:0<=cr+ga/\cr+ga<=4294967295:=zW
 have rx2:0<=cr+gb/\cr+gb<=4294967295:=zW
 have rx:0<=x/\x<=4294967295:=zW
 have rc:0<=c0/\c0<=4294967295:=zW
 have nz:(Obl.nz (IE.l 1000000000)).ok:=by show _≠_;simp[IE.den]
 have bJd:i<=2^40:=zW
 have hlb:(out.length+1)*4<=140737488355328:=zW
 have qO:out.length+1<=9223372036854775807:=zW
 have q6:-9223372036854775808<=(i:Int)+1/\(i:Int)+1<=9223372036854775807:=zW
 have hin:∀n',n'=out.length+1->(i:Int)+1=(n':Int):=λn' h=>zW
 have hni:out.length+1=i+1:=zW
 have aA6:i<N\/i<M\/0<cr->∀n',n'=out.length+1->n'<=max N M+1/\max N M+1 - n'<max N M+1 - i:=λh n' hn'=>by
  have hin:i<max N M+1:=by
   rcases h with h | h | h
   ·omega
   ·omega
   ·rcases Nat.lt_or_ge i (max N M+1)with h1 | h1
    ·exact h1
    ·exfalso
     have hl:=hM'.last zW zW
     have hv1:=kG (bG n)
     have hv2:=kG (bG m)
     rw[cS]at hv1 hv2;have hv0:=cL hM'.wd;have e1:(1000000000:Int)^(aC n).length<=1000000000^(max N M):=aXu zW;have e2:(1000000000:Int)^(aC m).length<=1000000000^(max N M):=aXu zW;have e3:(1000000000:Int)^(max N M+1)<=1000000000^i:=aXu zW;have e4:(1000000000:Int)^i*1<=1000000000^i*cr:=Int.mul_le_mul_of_nonneg_left zW (Int.pow_nonneg zV);have e5:(1000000000:Int)^(max N M+1)=1000000000^(max N M)*1000000000:=Int.pow_succ _ _;have e6:(0:Int)<1000000000^(max N M):=Int.pow_pos zV;rw[Int.one_mul]at hl;omega
  omega
 have lO:¬i<N->¬i<M->¬0<cr->(val out).toNat=n+m:=λh1 h2 h3=>by
  have hl:=hM'.last zW zW
  rw[show cr=0 by omega]at hl;omega
 have hlo:out.length<=2^40:=zW
 cbv;refine cG 13 rfl rfl 100 (λh=>?_) (λh=>?_)
 ·have hA:i<N:=Int.ofNat_lt.1 (BE.lt_t h)
  cbv;refine aE rfl 100 (λh=>?_) (λh=>?_)
  ·skip
   have ra1:=cU (.add (.v cr) (.fn f 0 (.n i) 1 0)) _ (by show cr+(IE.fn f 0 (.n i) 1 0).den=cr+ga;rw[g1 hA]) rx1;have pa1:=o1 hA;have pa2:=o2 hA
   cbv;refine zO ?_;refine aE rfl 100 (λh=>?_) (λh=>?_)
   ·skip
    have hB:i<M:=Int.ofNat_lt.1 (BE.lt_t h)
    have ex:(IE.den (.add (.add (.v cr) (.fn f 0 (.n i) 1 0)) (.fn f' 0 (.n i) 1 0)))=x:=by show((cr+(IE.fn f 0 (.n i) 1 0).den)+(IE.fn f' 0 (.n i) 1 0).den)=x;rw[hx,g1 hA,g2 hB]
    have er:(IE.den (.rem (.add (.add (.v cr) (.fn f 0 (.n i) 1 0)) (.fn f' 0 (.n i) 1 0)) (.l 1000000000)))=w0:=by show(IE.den (.add (.add (.v cr) (.fn f 0 (.n i) 1 0)) (.fn f' 0 (.n i) 1 0))).tmod 1000000000=w0;rw[ex,ew0]
    have eq:(IE.den (.quo (.add (.add (.v cr) (.fn f 0 (.n i) 1 0)) (.fn f' 0 (.n i) 1 0)) (.l 1000000000)))=c0:=by show(IE.den (.add (.add (.v cr) (.fn f 0 (.n i) 1 0)) (.fn f' 0 (.n i) 1 0))).tdiv 1000000000=c0;rw[ex,ec0]
    have rq:=cU _ _ eq rc
    have rr:=cU _ _ ex rx;have p1:=o1' hB;have p2:=o2' hB
    have hmx:=λn' h=>(aA6 (.inl hA) n' h).1
    have hms:=λn' h=>(aA6 (.inl hA) n' h).2
    cbv;refine zO ?_;refine fK hc _ rfl rfl rfl hG rfl rfl rfl rfl rfl rfl rfl rfl rfl cJ hlb qO (λa' n' aU l' hn' hl'=>?_);have hl':l'=out++[w0]:=hl'.trans (congrArg (λz=>out++[z]) er);apply zN hc;cbv;refine aP hc (by repeat (first | exact trivial | exact q6 | refine⟨by first | assumption | exact q6,?_⟩)) ?_;exact zU 2 (S':=I ⟨(n',a',aU,l',c0),by rw[hn',hl',hni];exact cQ,hmx n' hn'⟩) (K':=K) ⟨zS,zS,zS,zI rfl rfl eq,zI rfl rfl (hin n' hn'),trivial⟩ kf (kof _ _ _ _) (hy _ (hms n' hn'))
   ·skip
    have hB:¬i<M:=λh'=>BE.lt_f h (Int.ofNat_lt.2 h')
    have ex:(IE.den (.add (.v cr) (.fn f 0 (.n i) 1 0)))=x:=by show(cr+(IE.fn f 0 (.n i) 1 0).den)=x;rw[hx,g1 hA,z2 hB];omega
    have er:(IE.den (.rem (.add (.v cr) (.fn f 0 (.n i) 1 0)) (.l 1000000000)))=w0:=by show(IE.den (.add (.v cr) (.fn f 0 (.n i) 1 0))).tmod 1000000000=w0;rw[ex,ew0]
    have eq:(IE.den (.quo (.add (.v cr) (.fn f 0 (.n i) 1 0)) (.l 1000000000)))=c0:=by show(IE.den (.add (.v cr) (.fn f 0 (.n i) 1 0))).tdiv 1000000000=c0;rw[ex,ec0]
    have rq:=cU _ _ eq rc
    have hmx:=λn' h=>(aA6 (.inl hA) n' h).1
    have hms:=λn' h=>(aA6 (.inl hA) n' h).2
    cbv;refine zO ?_;refine fK hc _ rfl rfl rfl hG rfl rfl rfl rfl rfl rfl rfl rfl rfl cJ hlb qO (λa' n' aU l' hn' hl'=>?_);have hl':l'=out++[w0]:=hl'.trans (congrArg (λz=>out++[z]) er);apply zN hc;cbv;refine aP hc (by repeat (first | exact trivial | exact q6 | refine⟨by first | assumption | exact q6,?_⟩)) ?_;exact zU 2 (S':=I ⟨(n',a',aU,l',c0),by rw[hn',hl',hni];exact cQ,hmx n' hn'⟩) (K':=K) ⟨zS,zS,zS,zI rfl rfl eq,zI rfl rfl (hin n' hn'),trivial⟩ kf (kof _ _ _ _) (hy _ (hms n' hn'))
  ·exact absurd (Int.ofNat_lt.2 hA) (BE.lt_f h)
 ·have hA:¬i<N:=λh'=>BE.lt_f h (Int.ofNat_lt.2 h')
  cbv;refine cG 19 rfl rfl 100 (λh=>?_) (λh=>?_)
  ·have hB:i<M:=Int.ofNat_lt.1 (BE.lt_t h)
   cbv;refine aE rfl 100 (λh=>?_) (λh=>?_)
   ·exact absurd (Int.ofNat_lt.1 (BE.lt_t h)) hA
   ·skip
    cbv;refine aE rfl 100 (λh=>?_) (λh=>?_)
    ·skip
     have ex:(IE.den (.add (.v cr) (.fn f' 0 (.n i) 1 0)))=x:=by show(cr+(IE.fn f' 0 (.n i) 1 0).den)=x;rw[hx,z1 hA,g2 hB];omega
     have er:(IE.den (.rem (.add (.v cr) (.fn f' 0 (.n i) 1 0)) (.l 1000000000)))=w0:=by show(IE.den (.add (.v cr) (.fn f' 0 (.n i) 1 0))).tmod 1000000000=w0;rw[ex,ew0]
     have eq:(IE.den (.quo (.add (.v cr) (.fn f' 0 (.n i) 1 0)) (.l 1000000000)))=c0:=by show(IE.den (.add (.v cr) (.fn f' 0 (.n i) 1 0))).tdiv 1000000000=c0;rw[ex,ec0]
     have rq:=cU _ _ eq rc
     have rr:=cU _ _ ex rx;have p1:=o1' hB;have p2:=o2' hB
     have hmx:=λn' h=>(aA6 (.inr (.inl hB)) n' h).1
     have hms:=λn' h=>(aA6 (.inr (.inl hB)) n' h).2
     cbv;refine zO ?_;refine fK hc _ rfl rfl rfl hG rfl rfl rfl rfl rfl rfl rfl rfl rfl cJ hlb qO (λa' n' aU l' hn' hl'=>?_);have hl':l'=out++[w0]:=hl'.trans (congrArg (λz=>out++[z]) er);apply zN hc;cbv;refine aP hc (by repeat (first | exact trivial | exact q6 | refine⟨by first | assumption | exact q6,?_⟩)) ?_;exact zU 2 (S':=I ⟨(n',a',aU,l',c0),by rw[hn',hl',hni];exact cQ,hmx n' hn'⟩) (K':=K) ⟨zS,zS,zS,zI rfl rfl eq,zI rfl rfl (hin n' hn'),trivial⟩ kf (kof _ _ _ _) (hy _ (hms n' hn'))
    ·exfalso
     exact BE.lt_f h (Int.ofNat_lt.2 hB)
  ·have hB:¬i<M:=λh'=>BE.lt_f h (Int.ofNat_lt.2 h')
   cbv;refine aE rfl 100 (λh=>?_) (λh=>?_)
   ·have hC:0<cr:=BE.lt_t h
    cbv;refine aE rfl 100 (λh=>?_) (λh=>?_)
    ·exact absurd (Int.ofNat_lt.1 (BE.lt_t h)) hA
    ·skip
     cbv;refine aE rfl 100 (λh=>?_) (λh=>?_)
     ·exfalso
      exact hB (Int.ofNat_lt.1 (BE.lt_t h))
     ·skip
      have ex:(IE.den (.v cr))=x:=by show cr=x;rw[hx,z1 hA,z2 hB];omega
      have er:(IE.den (.rem (.v cr) (.l 1000000000)))=w0:=by show(IE.den (.v cr)).tmod 1000000000=w0;rw[ex,ew0]
      have eq:(IE.den (.quo (.v cr) (.l 1000000000)))=c0:=by show(IE.den (.v cr)).tdiv 1000000000=c0;rw[ex,ec0]
      have rq:=cU _ _ eq rc
      have hmx:=λn' h=>(aA6 (.inr (.inr hC)) n' h).1
      have hms:=λn' h=>(aA6 (.inr (.inr hC)) n' h).2
      cbv;refine zO ?_;refine fK hc _ rfl rfl rfl hG rfl rfl rfl rfl rfl rfl rfl rfl rfl cJ hlb qO (λa' n' aU l' hn' hl'=>?_);have hl':l'=out++[w0]:=hl'.trans (congrArg (λz=>out++[z]) er);apply zN hc;cbv;refine aP hc (by repeat (first | exact trivial | exact q6 | refine⟨by first | assumption | exact q6,?_⟩)) ?_;exact zU 2 (S':=I ⟨(n',a',aU,l',c0),by rw[hn',hl',hni];exact cQ,hmx n' hn'⟩) (K':=K) ⟨zS,zS,zS,zI rfl rfl eq,zI rfl rfl (hin n' hn'),trivial⟩ kf (kof _ _ _ _) (hy _ (hms n' hn'))
   ·have hC:¬0<cr:=BE.lt_f h
    have he:=lO hA hB hC
    have hwd:=hM'.wd
    cbv;refine oA (hG _ _ _ _) ?_;cbv;refine eB (R:=R) hc mG (λn0 D X μ a w aK H aG=>?_) 100 ?_
    ·obtain⟨v1,rfl,h1⟩:=bN aG;simp only[aD]at h1;injection h1 with h1
     rw[<-h1,hRR,<-he];exact gQ hwd hlo H.xlt (H.cst (.head _))
    cbv;exact bB hc hR rfl (λX μ a w v H hv=>H.toP.val (k:=2) (R:=R) (.head _) hv)
theorem aI3:aB PP 170:=zK
theorem aUq {v u:Value}{X:Nat->Prop}{w:World}{n m:Nat}(hnm:m<=n)(hbn:(aC n).length<2^39)(hX:∀b,X b->b<w.heap.size)(hv:(aI n).p v X w)(hu:(aI m).p u X w):
  Fn PP 170 [v,u] X w (aI (n - m)):=by
 obtain⟨R,hRR⟩:=nm (aI (n - m));have hlm:=bS hnm;obtain⟨K,hK⟩:=nm ([KF.cst v (aI n),KF.cst u (aI m)]);rw[<-hRR];refine bJ mixed tok [.q v,.q u] (K:=K) Tryz.func170 rfl rfl (lbl rfl) rfl hX (by subst hK;simp;exact⟨hv,hu⟩) λc hc hR=>?_;refine dE 0 .u32 (aC n) rfl rfl (λX μ a w v' H hv'=>cD H (by simp[hK]) hv') λf N cap hN hf dJ=>?_;refine dE 1 .u32 (aC m) rfl rfl (λX μ a w v' H hv'=>cD H (by simp[hK]) hv') λf' M aU hM hf' gY=>?_;have hfw:∀i,i<N->f i=(aC n).getD i 0:=λi hi=>by
  have:=List.getElem?_eq_getElem (l:=aC n) (i:=i) zW
  rw[hf i _ this,List.getD_eq_getElem?_getD,this];rfl
 have aDg:∀i,i<M->f' i=(aC m).getD i 0:=λi hi=>by
  have:=List.getElem?_eq_getElem (l:=aC m) (i:=i) zW
  rw[hf' i _ this,List.getD_eq_getElem?_getD,this];rfl
 have hge:∀i,N<=i->(aC n).getD i 0=0:=λi hi=>by rw[List.getD_eq_getElem?_getD,List.getElem?_eq_none zW];rfl
 have aTs:∀i,M<=i->(aC m).getD i 0=0:=λi hi=>by rw[List.getD_eq_getElem?_getD,List.getElem?_eq_none zW];rfl
 have hNb:N<2^39:=zW
 have hMb:M<2^39:=zW
 have kf:lT 2 K K:=by subst hK;exact⟨⟨.head _,KFr.cst _ _ _⟩,⟨.tail _ (.head _),KFr.cst _ _ _⟩,trivial⟩
 apply zN hc;cbv;obtain⟨G,hG⟩:∃G:Option Addr->Nat->Nat->List Int->OF,∀a n cap l,G a n cap l=OF.row (.slice a n cap) c.B.heap.size 145 .u32 l:=⟨λa n cap l=>OF.row (.slice a n cap) c.B.heap.size 145 .u32 l,λ_ _ _ _=>rfl⟩;have kof:∀a i cp out,aCb 2 [G a i cp out]:=λa i cp out=>⟨by rw[hG];exact OFr.row _ _ _ _ _ _,trivial⟩
 refine tT hG rfl ?_;cbv;let ι:={x:Nat × Option Addr × Nat × List Int × Int//Mrg n m (-1) x.1 x.2.2.2.1 x.2.2.2.2/\x.1<=N};let I:ι->St:=λx=>⟨[(0,.sl 0 0 (.n N) cap),(1,.sl 1 0 (.n M) aU),(5,.xs x.1.2.1 x.1.1 x.1.2.2.1),(6,.i .i64 (.sub (.l 0) (.v x.1.2.2.2.2))),(7,.i .i64 (.n x.1.1))],[.xi .u32 N f,.xi .u32 M f'],[G x.1.2.1 x.1.1 x.1.2.2.1 x.1.2.2.2.1]⟩
 let x0:ι:=⟨(0,none,0,[],0),Mrg.init (.inr rfl),Nat.zero_le _⟩
 refine zU 2 (S':=I x0) (K':=K) zL kf (kof _ _ _ _) ?_;refine bW hc I (λx=>N - x.1.1) x0 100 ?_;rintro pp ⟨⟨i,a,cp,out,cr⟩,hM',hiN⟩ hy;have hcr:=hM'.c;have hlen:=hM'.len;simp only at hM' hiN hcr hlen;have hga:=bA (bG n) i;have hgb:=bA (bG m) i;obtain⟨ga,iM⟩:=nm ((aC n).getD i 0);obtain⟨gb,mN⟩:=nm ((aC m).getD i 0);rw[<-iM]at hga;rw[<-mN]at hgb;obtain⟨x,hx⟩:=nm (cr+ga - gb);have hxb:x=cr+(aC n).getD i 0+(-1)*(aC m).getD i 0:=by rw[hx,iM,mN];omega
 have aTr:-1<=cr/\cr<=0:=zW
 have hx0:-1000000000<=x/\x<1000000000:=zW
 have cQ:=hM'.step hxb
 have aHs:x<0->x%1000000000=x+1000000000/\x/1000000000=-1:=λh=>zW
 have aAg:¬x<0->x%1000000000=x/\x/1000000000=0:=λh=>zW
 have hix:aY 0 (IE.n i).den 1 0=i:=by simp only[aY,IE.den];omega
 have g1:i<N->(IE.fn f 0 (.n i) 1 0).den=ga:=λh=>by show f (aY 0 (IE.n i).den 1 0)=ga;rw[hix,hfw i h,iM]
 have g2:i<M->(IE.fn f' 0 (.n i) 1 0).den=gb:=λh=>by show f' (aY 0 (IE.n i).den 1 0)=gb;rw[hix,aDg i h,mN]
 have z2:¬i<M->gb=0:=λh=>by rw[mN,aTs i zW]
 have o1:i<N->(Obl.ltE (IE.n i) (IE.n N)).ok:=λh=>by show _/\_;simp only[IE.den];omega
 have o2:i<N->(Obl.ix 0 (IE.n i) 1 0 1 N).ok:=λh=>by show _<=_;rw[hix];omega
 have o1':i<M->(Obl.ltE (IE.n i) (IE.n M)).ok:=λh=>by show _/\_;simp only[IE.den];omega
 have o2':i<M->(Obl.ix 0 (IE.n i) 1 0 1 M).ok:=λh=>by show _<=_;rw[hix];omega
 have cU:∀(k:IntKind) (e:IE) (z:Int),e.den=z->lo k<=z/\z<=hi k->(Obl.inR k e).ok:=λk e z he hz=>by show _/\_;rw[he];exact hz
 have r0:lo .i64<=ga/\ga<=hi .i64:=by simp only[lo,hi];omega
 have r1:lo .i64<=cr+ga/\cr+ga<=hi .i64:=by simp only[lo,hi];omega
 have r2:lo .i64<=gb/\gb<=hi .i64:=by simp only[lo,hi];omega
 have r3:lo .i64<=x/\x<=hi .i64:=by simp only[lo,hi];omega
 have r4:lo .i64<=x+1000000000/\x+1000000000<=hi .i64:=by simp only[lo,hi];omega
 have r5:x<0->lo .u32<=x+1000000000/\x+1000000000<=hi .u32:=λh=>by simp only[lo,hi];omega
 have r6:¬x<0->lo .u32<=x/\x<=hi .u32:=λh=>by simp only[lo,hi];omega
 have hlb:(out.length+1)*4<=140737488355328:=zW
 have qO:out.length+1<=9223372036854775807:=zW
 have q6:lo .i64<=(i:Int)+1/\(i:Int)+1<=hi .i64:=by simp only[lo,hi];omega
 have hin:∀n',n'=out.length+1->(i:Int)+1=(n':Int):=λn' h=>zW
 have hni:out.length+1=i+1:=zW
 have hmx:i<N->∀n',n'=out.length+1->n'<=N:=λh n' hn'=>zW
 have hms:i<N->∀n',n'=out.length+1->N - n'<N - i:=λh n' hn'=>zW
 have lO:¬i<N->(val out).toNat=n - m:=λh1=>by
  obtain⟨d1,d2,_⟩:=hM'.done zW zW;have:=d2 zW;omega
 have hlo:out.length<=2^40:=zW
 cbv;refine aE rfl 100 (λh=>?_) (λh=>?_)
 ·have hA:i<N:=Int.ofNat_lt.1 (BE.lt_t h)
  have e0:(IE.sub (.fn f 0 (.n i) 1 0) (.sub (.l 0) (.v cr))).den=cr+ga:=by show(IE.fn f 0 (.n i) 1 0).den - (0 - cr)=_;rw[g1 hA];omega
  have p0:=cU .i64 _ _ (g1 hA) r0
  have p1:=cU .i64 _ _ e0 r1
  have p2:=o1 hA
  have p3:=o2 hA
  have q6':(Obl.inR .i64 (.add (.n i) (.l 1))).ok:=q6
  have hmx:=hmx hA
  have hms:=hms hA
  cbv;refine zO ?_;refine aE rfl 100 (λh=>?_) (λh=>?_)
  ·skip
   have hB:i<M:=Int.ofNat_lt.1 (BE.lt_t h)
   have ex:(IE.den (.sub (.sub (.fn f 0 (.n i) 1 0) (.sub (.l 0) (.v cr))) (.fn f' 0 (.n i) 1 0)))=x:=by show(IE.den (.sub (.fn f 0 (.n i) 1 0) (.sub (.l 0) (.v cr)))) - (IE.fn f' 0 (.n i) 1 0).den=x;rw[e0,g2 hB,hx]
   have p4:=o1' hB;have p5:=o2' hB;have p6:=cU .i64 _ _ (g2 hB) r2;have p7:=cU .i64 _ _ ex r3
   cbv;refine zO ?_;refine aE rfl 100 (λh=>?_) (λh=>?_)
   ·have hx2:x<0:=by have:=BE.lt_t h;rwa [ex]at this
    have hs:=cQ
    rw[(aHs hx2).1,(aHs hx2).2]at hs;have ew:(IE.den (.add (.sub (.sub (.fn f 0 (.n i) 1 0) (.sub (.l 0) (.v cr))) (.fn f' 0 (.n i) 1 0)) (.l 1000000000)))=x+1000000000:=by show(IE.den (.sub (.sub (.fn f 0 (.n i) 1 0) (.sub (.l 0) (.v cr))) (.fn f' 0 (.n i) 1 0)))+1000000000=_;rw[ex]
    have p8:=cU .i64 _ _ ew r4;have p9:=cU .u32 _ _ ew (r5 hx2)
    cbv;refine zO ?_;refine fK hc _ rfl rfl rfl hG rfl rfl rfl rfl rfl rfl rfl rfl rfl cJ hlb qO (λa' n' aU l' hn' hl'=>?_);have hl':l'=out++[x+1000000000]:=hl'.trans (congrArg (λz=>out++[z]) ew);apply zN hc;cbv;refine zO ?_;exact zU 2 (S':=I ⟨(n',a',aU,l',-1),by rw[hn',hl',hni];exact hs,hmx n' hn'⟩) (K':=K) ⟨zS,zS,zS,zS,zI rfl rfl (hin n' hn'),trivial⟩ kf (kof _ _ _ _) (hy _ (hms n' hn'))
   ·have hx2:¬x<0:=by have:=BE.lt_f h;rwa [ex]at this
    have hs:=cQ
    rw[(aAg hx2).1,(aAg hx2).2]at hs;have ew:(IE.den (.sub (.sub (.fn f 0 (.n i) 1 0) (.sub (.l 0) (.v cr))) (.fn f' 0 (.n i) 1 0)))=x:=ex;have p9:=cU .u32 _ _ ew (r6 hx2);cbv;refine zO ?_;refine fK hc _ rfl rfl rfl hG rfl rfl rfl rfl rfl rfl rfl rfl rfl cJ hlb qO (λa' n' aU l' hn' hl'=>?_);have hl':l'=out++[x]:=hl'.trans (congrArg (λz=>out++[z]) ew);apply zN hc;cbv;refine zO ?_;exact zU 2 (S':=I ⟨(n',a',aU,l',0),by rw[hn',hl',hni];exact hs,hmx n' hn'⟩) (K':=K) ⟨zS,zS,zS,zS,zI rfl rfl (hin n' hn'),trivial⟩ kf (kof _ _ _ _) (hy _ (hms n' hn'))
  ·skip
   have hB:¬i<M:=λh'=>BE.lt_f h (Int.ofNat_lt.2 h')
   have ex:(IE.den (.sub (.fn f 0 (.n i) 1 0) (.sub (.l 0) (.v cr))))=x:=by rw[e0,hx,z2 hB];omega
   cbv;refine aE rfl 100 (λh=>?_) (λh=>?_)
   ·have hx2:x<0:=by have:=BE.lt_t h;rwa [ex]at this
    have hs:=cQ
    rw[(aHs hx2).1,(aHs hx2).2]at hs;have ew:(IE.den (.add (.sub (.fn f 0 (.n i) 1 0) (.sub (.l 0) (.v cr))) (.l 1000000000)))=x+1000000000:=by show(IE.den (.sub (.fn f 0 (.n i) 1 0) (.sub (.l 0) (.v cr))))+1000000000=_;rw[ex]
    have p8:=cU .i64 _ _ ew r4;have p9:=cU .u32 _ _ ew (r5 hx2)
    cbv;refine zO ?_;refine fK hc _ rfl rfl rfl hG rfl rfl rfl rfl rfl rfl rfl rfl rfl cJ hlb qO (λa' n' aU l' hn' hl'=>?_);have hl':l'=out++[x+1000000000]:=hl'.trans (congrArg (λz=>out++[z]) ew);apply zN hc;cbv;refine zO ?_;exact zU 2 (S':=I ⟨(n',a',aU,l',-1),by rw[hn',hl',hni];exact hs,hmx n' hn'⟩) (K':=K) ⟨zS,zS,zS,zS,zI rfl rfl (hin n' hn'),trivial⟩ kf (kof _ _ _ _) (hy _ (hms n' hn'))
   ·have hx2:¬x<0:=by have:=BE.lt_f h;rwa [ex]at this
    have hs:=cQ
    rw[(aAg hx2).1,(aAg hx2).2]at hs;have ew:(IE.den (.sub (.fn f 0 (.n i) 1 0) (.sub (.l 0) (.v cr))))=x:=ex;have p9:=cU .u32 _ _ ew (r6 hx2);cbv;refine zO ?_;refine fK hc _ rfl rfl rfl hG rfl rfl rfl rfl rfl rfl rfl rfl rfl cJ hlb qO (λa' n' aU l' hn' hl'=>?_);have hl':l'=out++[x]:=hl'.trans (congrArg (λz=>out++[z]) ew);apply zN hc;cbv;refine zO ?_;exact zU 2 (S':=I ⟨(n',a',aU,l',0),by rw[hn',hl',hni];exact hs,hmx n' hn'⟩) (K':=K) ⟨zS,zS,zS,zS,zI rfl rfl (hin n' hn'),trivial⟩ kf (kof _ _ _ _) (hy _ (hms n' hn'))
 ·have hA:¬i<N:=λh'=>BE.lt_f h (Int.ofNat_lt.2 h')
  have he:=lO hA
  have hwd:=hM'.wd
  cbv;refine oA (hG _ _ _ _) ?_;cbv;refine eB (R:=R) hc mG (λn0 D X μ a w aK H aG=>?_) 100 ?_
  ·obtain⟨v1,rfl,h1⟩:=bN aG;simp only[aD]at h1;injection h1 with h1
   rw[<-h1,hRR,<-he];exact gQ hwd hlo H.xlt (H.cst (.head _))
  cbv;exact bB hc hR rfl (λX μ a w v H hv=>H.toP.val (k:=2) (R:=R) (.head _) hv)
theorem aYr:aB PP 200:=zK
theorem oby {v:Value}{X:Nat->Prop}{w:World}{n m:Nat}(hm0:0<m)(hm1:m<1000000000)(hbn:(aC n).length<=2^39)(hX:∀b,X b->b<w.heap.size)(hv:(aI n).p v X w):
  Fn PP 200 [v,.int .u32 (m:Int)] X w (jG (aI (n/m)) (eE (.int .u32 (n%m:Nat)))):=by
 have hmI:0<(m:Int)/\(m:Int)<1000000000:=zW
 obtain⟨R1,hR1⟩:=nm (aI (n/m));obtain⟨R2,hR2⟩:=nm (eE (.int .u32 (n%m:Nat)));obtain⟨R,hRR⟩:=nm (jG (aI (n/m)) (eE (.int .u32 (n%m:Nat))));obtain⟨K,hK⟩:=nm ([KF.cst v (aI n)]);rw[<-hRR];refine bJ mixed tok [.q v,.i .u32 (.n m)] (K:=K) Tryz.func200 rfl rfl (lbl rfl) rfl hX (by subst hK;simp;exact hv) λc hc hR=>?_;refine dE 0 .u32 (aC n) rfl rfl (λX μ a w v' H hv'=>cD H (by simp[hK]) hv') λf N cap hN hf dJ=>?_;have hfw:∀i,i<N->f i=(aC n).getD i 0:=λi hi=>by
  have:=List.getElem?_eq_getElem (l:=aC n) (i:=i) zW
  rw[hf i _ this,List.getD_eq_getElem?_getD,this];rfl
 have hbN:N<=2^39:=zW
 have kf:∀q,lT q K K:=λq=>by subst hK;exact⟨⟨.head _,KFr.cst _ _ _⟩,trivial⟩
 have cU:∀(kd:IntKind) (e:IE) (z:Int),e.den=z->lo kd<=z/\z<=hi kd->(Obl.inR kd e).ok:=λkd e z he hz=>by show _/\_;rw[he];exact hz
 have q0:(Obl.inR .i64 ((IE.n N).sub (IE.l 1))).ok:=cU _ _ ((N:Int) - 1) rfl zX
 apply zN hc;cbv;refine rZ hc _ .u32 cJ ?_ ?_ ?_ (λT z hT hz=>?_)
 ·simp only[IE.den];omega
 ·simp only[IE.den];omega
 ·simp only[IE.den];omega
 have hT:T=N:=by simp only[IE.den]at hT;omega
 subst hT;have hz0:z=List.replicate (aC n).length 0:=by rw[hz,hN]
 have dv0:Dv n m T z 0:=by rw[hz0,hN];exact Dv.init zW
 apply zN hc;cbv;refine aP hc ⟨q0,trivial⟩ ?_;let ι:={x:Nat × List Int × Int//Dv n m x.1 x.2.1 x.2.2/\x.1<=T};let I:ι->St:=λx=>⟨[(0,.sl 0 0 (.n T) cap),(1,.i .u32 (.n m)),(6,.sl 1 0 (.n T) T),(7,.i .u64 (.v x.1.2.2)),(8,.i .i64 (.sub (.n x.1.1) (.l 1)))],[.xi .u32 T f,.r 145 .u32 x.1.2.1],[]⟩
 let x0:ι:=⟨(T,z,0),dv0,lRf _⟩
 refine zU 2 (S':=I x0) (K':=K) zL (kf _) trivial ?_;refine bW hc I (λx=>x.1.1) x0 100 ?_;rintro p ⟨⟨k,out,rest⟩,hD,hk⟩ hy;simp only at hD hk;have hlen:=hD.len;have hrs:=hD.r;cbv;refine aE rfl 100 (λh=>?_) (λh=>?_)
 ·have h:(0:Int)<=(k:Int) - 1:=BE.le_t h
  obtain⟨q,hq⟩:∃q,q+1=k:=⟨k - 1,zW⟩;have hqT:q<T:=zW;have hqk:q<k:=zW;have hga:=bA (bG n) q;obtain⟨ga,iM⟩:=nm ((aC n).getD q 0);rw[<-iM]at hga;obtain⟨x,hx⟩:=nm (rest*1000000000+ga);obtain⟨x',hx'⟩:=nm (x/(m:Int));obtain⟨r',hr'⟩:=nm (x%(m:Int));obtain⟨hst,hb1,hb2⟩:=Dv.step (x:=x) (q:=q) (by rw[hq];exact hD) hmI.2 zW (by rw[hx,iM]);rw[<-hx']at hst hb1 hb2;rw[<-hr']at hst;have hxb:0<=x/\x<=1000000000000000000:=zW;have hix:aY 0 ((IE.n k).sub (IE.l 1)).den 1 0=q:=by simp only[aY,IE.den];omega
  have g1:(IE.fn f 0 ((IE.n k).sub (IE.l 1)) 1 0).den=ga:=by show f (aY 0 ((IE.n k).sub (IE.l 1)).den 1 0)=ga;rw[hix,hfw q hqT,iM]
  have m1:((IE.v rest).mul (IE.l 1000000000)).den=rest*1000000000:=rfl
  have a1:(((IE.v rest).mul (IE.l 1000000000)).add (IE.fn f 0 ((IE.n k).sub (IE.l 1)) 1 0)).den=x:=by show rest*1000000000+(IE.fn f 0 ((IE.n k).sub (IE.l 1)) 1 0).den=x;rw[g1,hx]
  have d1:((((IE.v rest).mul (IE.l 1000000000)).add (IE.fn f 0 ((IE.n k).sub (IE.l 1)) 1 0)).quo (IE.n m)).den=x':=by
   show(((IE.v rest).mul (IE.l 1000000000)).add (IE.fn f 0 ((IE.n k).sub (IE.l 1)) 1 0)).den.tdiv (m:Int)=x'
   rw[a1,Int.tdiv_eq_ediv_of_nonneg hxb.1,hx']
  have r1:((((IE.v rest).mul (IE.l 1000000000)).add (IE.fn f 0 ((IE.n k).sub (IE.l 1)) 1 0)).rem (IE.n m)).den=r':=by
   show(((IE.v rest).mul (IE.l 1000000000)).add (IE.fn f 0 ((IE.n k).sub (IE.l 1)) 1 0)).den.tmod (m:Int)=r'
   rw[a1,Int.tmod_eq_emod_of_nonneg hxb.1,hr']
  have p1:=cU .u64 _ _ m1 zX
  have p2:(Obl.ltE ((IE.n k).sub (IE.l 1)) (IE.n T)).ok:=by show _/\_;simp only[IE.den];omega
  have p3:(Obl.ix 0 ((IE.n k).sub (IE.l 1)) 1 0 1 T).ok:=by show _<=_;rw[hix];omega
  have p4:=cU .u64 _ _ g1 zX
  have p5:=cU .u64 _ _ a1 zX
  have nzm:(Obl.nz (IE.n m)).ok:=by show(m:Int)≠0;omega
  have pm:(Obl.inR .u64 (.n m)).ok:=cU _ _ (m:Int) rfl zX
  have p6:=cU .u64 _ _ d1 zX
  have p7:=cU .u32 _ _ d1 zX
  have hlt:aY 0 ((IE.n k).sub (IE.l 1)).den 1 0<out.length:=by rw[hix,hlen];omega
  have p8:(Obl.inR .i64 (((IE.n k).sub (IE.l 1)).sub (IE.l 1))).ok:=cU _ _ ((k:Int) - 1 - 1) rfl zX
  have s1:(((IE.n k).sub (IE.l 1)).sub (IE.l 1)).den=((IE.n q).sub (IE.l 1)).den:=by simp only[IE.den];omega
  have bBu:q<=T:=zW
  cbv;refine zO ?_;refine jV hc _ (r:=(1,145,.u32,out,aY 0 ((IE.n k).sub (IE.l 1)).den 1 0,((((IE.v rest).mul (IE.l 1000000000)).add (IE.fn f 0 ((IE.n k).sub (IE.l 1)) 1 0)).quo (IE.n m)))) hlt (λl' hl'=>?_);have hl':l'=out.set q x':=by rw[hl',<-hix,<-d1]
  have hst:Dv n m q l' r':=by rw[hl'];exact hst
  apply zN hc;cbv;refine zO ?_;refine zU 2 (S':=I ⟨(q,l',r'),hst,bBu⟩) (K':=K) ⟨zS,zS,zS,zI rfl rfl r1,zI rfl rfl s1,trivial⟩ (kf _) trivial (hy _ hqk)
 ·have h:¬(0:Int)<=(k:Int) - 1:=BE.le_f h
  have hk0:k=0:=zW
  have hD:Dv n m 0 out rest:=by rw[<-hk0];exact hD
  obtain⟨e1,e2⟩:=hD.done;have hlb:out.length<=2^40:=zW;have lQ:out.length=T:=by rw[hlen,hN]
  have hrm:=Int.lt_trans hrs.2 hmI.2
  have pr:(Obl.inR .u32 (.v rest)).ok:=cU _ _ rest rfl (by simp only[lo,hi];exact⟨hrs.1,zW⟩)
  have hr2:rest=((n%m:Nat):Int):=by rw[<-e2];exact(Int.toNat_of_nonneg hrs.1).symm
  cbv;refine qV 1 rfl (λg N' hN' hg=>?_);refine eB (R:=R1) hc mG (λn0 D X μ a w aK H aG=>?_) 100 ?_
  ·obtain⟨v1,rfl,h1⟩:=bN aG;have h2:=H.row (l:=out) rfl h1 (by rw[lQ];rfl) (λj y hj=>by rw[Nat.zero_add];exact hg j y hj) zW zW;rw[hR1,<-e1];exact gQ hD.wd hlb H.xlt h2
  cbv;refine zO ?_;refine bB hc hR rfl (λX μ a w v H hv=>?_);simp only[aD]at hv;split at hv
  ·rename_i vs hvs;injection hv with hv
   obtain⟨v1,v2,rfl,h1,h2⟩:=bI hvs;have k1:=H.toP.val (k:=2) (R:=R1) (.head _) h1;simp only[aD,IE.den]at h2;injection h2 with h2
   rw[hRR,<-hv];exact⟨v1,v2,rfl,by rw[hR1]at k1;exact k1,by rw[<-h2,hr2];rfl⟩
  ·cases hv
end Go.Ai
