/- Part 8 of the proof: garboardlaw17.FloatMirrors returns true, where what it reads is of bulk at most 1048576. -/
import Derived.Maps.RangeRun
import Derived.Test.YtmnancfboococaaGreatDoorPm6
set_option linter.all false
namespace Go.Ai
open Go Go.RowKit
section
variable {c:Cx}{P:Program}{ty:Nat→Option TyI}{nt:Nat}{K:List KF}{S:St}
theorem bC2 {ks:List KI}(d:Nat){av:AV}(av':AV)(hp:match ks with | .cal ..::_=>false | .dcal ..::_=>false | _=>true)(hl:look S.sl d=some av)(he:∀μ,aC μ av=aC μ av')
  (h:Goal c K ⟨ks,{S with sl:=(d,av')::S.sl},[]⟩):Goal c K ⟨ks,S,[]⟩:=
 .mk0 (wK (S':={S with sl:=(d,av')::S.sl}) hp ⟨rfl,rfl,fun u b hb=>by
  by_cases e:d=u
  ·subst e;rw[bF]at hb;injection hb with hb;subst hb;exact⟨av,hl,he⟩
  ·rw[bA e]at hb;exact⟨b,hb,fun _=>rfl⟩⟩ h.so)
def aVl (n:Nat)(xs:List Value):VF where
 p v X w:=∃(a:Option (Nat × Nat)) (cap:Nat),v=.slice (a.map fun x=>⟨x.1,x.2,none⟩) n cap∧n≤cap∧match a with
  | none=>n=0∧cap=0∧xs=[]
  | some (b,o)=>X b∧∃cs,∃ty:Nat × Nat × Nat,w.heap[b]?=some (.cells cs ty.1 ty.2)∧∀i x,xs[i]?=some x→cs[o+i]?=some x
 st v X X' w w' hs hw h:=by
  obtain⟨a,cap,h1,h2,h3⟩:=h;refine⟨a,cap,h1,h2,?_⟩
  match a,h3 with
  | none,h3=>exact h3
  | some (b,o),⟨h3,cs,ty,h4,h5⟩=>exact⟨hs _ h3,cs,ty,by rw[hw _ h3];exact h4,h5⟩
def rowS (n:Nat)(l:List ByteArray):VF:=aVl n (l.map Value.string)
structure RowV where
 f:Nat→ByteArray
 cap:Nat
theorem iB {ks:List KI}(d:Nat){av:AV}(N M:Nat)(l:List ByteArray)(hM:M=l.length)(hp:iO ks=true)(hl:look S.sl d=some av)(hr:∀X μ a w v,Sim c K S X μ a w→aC μ av=some v→(rowS N l).p v X w)
  (h:∀f cap,(∀i x,l[i]?=some x→f i=x)→N≤cap→Goal c K ⟨ks,{S with sl:=(d,.sl S.hp.length 0 (.n N) cap)::S.sl,hp:=S.hp++[.xs M f]},[]⟩):Goal c K ⟨ks,S,[]⟩:=by
 refine gO (ι:=RowV) (K':=fun _=>K) (S':=fun x=>{S with sl:=(d,.sl S.hp.length 0 (.n N) x.cap)::S.sl,hp:=S.hp++[.xs M x.f]}) (p:=fun x=>(∀i y,l[i]?=some y→x.f i=y)∧N≤x.cap) hp ?_ (fun x hx=>h x.f x.cap hx.1 hx.2);intro X μ a w H;obtain⟨v,hv,hs⟩:=H.toP.slots d av trivial hl;obtain⟨ad,cap,e1,e2,e3⟩:=hr X μ a w v H hv;subst hM;have hok:(Blk.xs l.length (fun i=>l.getD i default)).ok X (μ.upd S.hp.length (.ext ad)) w (.ext ad):=by
  match ad,e3 with
  | none,e3=>have:=e3.2.2;simp at this;simp[Blk.ok,this]
  | some (b,o),⟨q1,cs,ty,q2,q3⟩=>exact⟨q1,cs,ty,q2,fun i hi=>by rw[q3 i (.string l[i]) (by simp[hi])];simp[hi]⟩
 refine⟨⟨fun i=>l.getD i default,cap⟩,X,μ.upd S.hp.length (.ext ad),⟨fun i y hy=>by simp[List.getD_eq_getElem?_getD,hy],e2⟩,?_⟩;have H1:=pY H (blk:=.xs l.length (fun i=>l.getD i default)) (m:=.ext ad) (fun b e=>by cases e) hok
 refine iC (av:=av) H1 hl ?_;rw[gK (Mu.le_upd (H.dom _ (lRf _))) av v hv];have hz:(0:Int)≤(IE.n N).den:=by simp[IE.den]
 refine(gU (len:=.n N) (a:=ad) (by simp[atS,Mu.upd_same,MV.atS]) hz (fun e=>?_)).trans ?_
 rotate_left
 ·rw[e1];simp[IE.den]
 ·subst e;simp only at e3;simp[IE.den,e3.1,e3.2.1]
def OF.rv (v:Value)(base e sz n:Nat)(xs:List Value):OF where
 F _ b:=v.ownBlock=some b
 p _ w:=w.ownsRow base e sz v n xs
 st _ _ w w' _ hk h:=by
  refine⟨⟨h.1,?_⟩,fun _=>Iff.rfl⟩
  rcases h.2 with hn | ⟨g,cap,cur,rfl,hb,hg,hr⟩
  ·exact .inl hn
  ·exact .inr ⟨g,cap,cur,rfl,hb,by rw[hk g (by simp[Value.ownBlock])];exact hg,hr⟩
theorem OFr.rv (m:Nat)(v:Value)(base e sz n:Nat)(xs:List Value):OFr m (OF.rv v base e sz n xs):=⟨fun _ _ h=>⟨h,fun _ h=>h⟩⟩
theorem aAf {P:Program}{w:World}(base:Nat)(t ty e:TypeId)(i:TypeInfo)(z:Value)(sz bytes:Nat)(ht:P.underlying t=some (.slice e))(hi:P.info? e=some i)(hz:i.zero=some z)
  (mL:i.size=sz) (hby:i.bytes=bytes) (hzs:z.cells.size=sz) (h0:0<sz) (v:Value) (n:Nat) (xs:List Value) (dW:w.ownsRow base e sz v n xs)
  (ad:Addr) (m c':Nat) (news:List Value) (hl:news.length=m*sz) (vH:∀j u,news[j]?=some u→w.cell? (ad.add j)=some u) (h1:∀u∈news,u.oneCell'=true)
  (h63:n+m≤maxLen) (tS:(n+m)*bytes≤140737488355328) (aQ8:base≤w.heap.size):
  ∃v' w',(Builtin.append_ #[t,t] ty #[v,.slice (some ad) m c']).run P w=.ok v' w'∧w'.ownsRow base e sz v' (n+m) (xs++news)∧w.grownBy w' v.ownBlock∧(v'.ownBlock=v.ownBlock∨v'.ownBlock=some w.heap.size):=by
 obtain⟨v',w',hr,h2,h3,h4⟩:=run_append_own (P:=P) w base t ty e i z sz bytes ht hi hz mL hby hzs h0 v n xs dW ad m c' news hl vH h1 h63 tS aQ8;refine⟨v',w',hr,h2,h3,?_⟩;have bEq:n+m≤9223372036854775807:=by simpa[maxLen]using h63
 rcases dW.2 with⟨rfl,rfl⟩ | ⟨g,cap,cur,rfl,hbg,hg,hnc,hcm,hcs,bCg⟩
 ·by_cases hm:m=0
  ·left;rw[h4.2 ⟨rfl,hm⟩]
  ·have hr':=run_append_nil (P:=P) w t ty e i z ht hi hz ad m c' news (by rw[mL];exact hl) vH (by omega) (by omega) (by rw[hby];have hb:=tS;simp only[Nat.zero_add]at hb;omega)
   rw[hr']at hr;injection hr with hr _;subst hr;exact .inr rfl
 ·by_cases aMd:n+m≤cap
  ·have hr':=run_append_room (P:=P) w t ty e i ht hi g n cap cur hg ad m c' news (by rw[mL];exact hl) vH h1 aMd (by rw[mL,hl,hcs,←Nat.add_mul];exact Nat.mul_le_mul_right _ aMd)
   rw[hr']at hr;injection hr with hr _;subst hr;exact .inl rfl
  ·have holds:∀j u,xs[j]?=some u→w.cell? ((⟨g,0,none⟩:Addr).add j)=some u:=dW.cells (g:=g) rfl
   have hr':=run_append_grow (P:=P) w t ty e i z ht hi hz ⟨g,0,none⟩ n cap xs (by rw[mL];exact dW.1) holds ad m c' news (by rw[mL];exact hl) vH (by omega) (by omega) (by rw[hby];exact growslice_fits (by omega) tS)
   rw[hr']at hr;injection hr with hr _;subst hr;exact .inr rfl
variable {X:Nat→Prop}{μ:Mu}{a:Act}{w:World}
theorem bAc {d:Option Nat}(hd:cF c.nt d=true){ow':List OF}{e sz:Nat}{a':Option Addr}{n' aZ:Nat}{l':List Value}{w':World}{r:Option Nat}
  (H:Sim c K S X μ a w) (hg:w.grownBy w' r) (iW:w'.ownsRow c.B.heap.size e sz (.slice a' n' aZ) n' l')
  (nI:∀f,f∈ow'→f∈S.ow) (hap:ow'.Pairwise fun f g=>∀b,f.F μ b→¬g.F μ b) (hr:∀b,r=some b→∃f,f∈S.ow∧f.F μ b) (hr':∀f,f∈ow'→∀b,r=some b→¬f.F μ b)
  (rF:∀b,(Value.slice a' n' aZ).ownBlock=some b→r=some b∨w.heap.size≤b):
  Sim c K (S.putO d (.xs a' n' aZ) none (OF.rv (.slice a' n' aZ) c.B.heap.size e sz n' l'::ow')) X μ (a.put d (.slice a' n' aZ)) w':=by
 have P:=H.toP
 have hF:∀f,f∈S.ow→∀b,f.F μ b→c.B.heap.size≤b∧b<w.heap.size∧¬X b∧∀k,μ k≠some (.own b):=fun f hf=>(P.own.at_ f hf).2
 have hB:c.B.heap.size≤w.heap.size:=P.bel.size
 have yU:∀b,(Value.slice a' n' aZ).ownBlock=some b→(∃f,f∈S.ow∧f.F μ b∧r=some b)∨w.heap.size≤b:=by
  intro b hb
  rcases rF b hb with h | h
  ·obtain⟨f,h1,h2⟩:=hr b h;exact .inl ⟨f,h1,h2,h⟩
  ·exact .inr h
 have hlt:∀b,(Value.slice a' n' aZ).ownBlock=some b→b<w'.heap.size:=fun b hb=>(World.ownsRow.lt iW b hb).2
 refine(lB (Kn:=[]) H hd (av:=.xs a' n' aZ) (nb:=none) (ow:=OF.rv (.slice a' n' aZ) c.B.heap.size e sz n' l'::ow') (v:=.slice a' n' aZ) (X':=X) (μ':=μ) (w':=w') ⟨below_grown hg hB (fun b hb=>?_),fun b hb hnf=>?_,rfl,rfl,fun _ h=>h,fun _ h=>.inl h,?_⟩ (fun f hf=>by cases hf))
 ·obtain⟨f,h1,h2⟩:=hr b hb;exact(hF f h1 b h2).1
 ·refine hg.block b hb (fun e=>?_);obtain⟨f,h1,h2⟩:=hr b e.symm;exact hnf f h1 h2
 ·refine⟨fun f hf=>?_,List.Pairwise.cons (fun g hg' b hb hb'=>?_) hap⟩
  ·rcases List.mem_cons.1 hf with e' | e'
   ·subst e';refine⟨iW,fun b hb=>?_⟩;have hb:(Value.slice a' n' aZ).ownBlock=some b:=hb
    rcases yU b hb with⟨f,h1,h2,_⟩ | e'
    ·obtain⟨q1,q2,q3,q4⟩:=hF f h1 b h2;exact⟨q1,hlt b hb,q3,q4⟩
    ·exact⟨lTr hB e',hlt _ hb,fun hx=>by have:=P.xlt _ hx;omega,fun k hk=>by have:=(P.loc k _ hk).2.2;omega⟩
   ·have h0:=nI f e'
    obtain⟨h1,h2⟩:=P.own.at_ f h0;refine⟨(f.st μ μ w w' (Mu.vle_refl _) (fun k hk=>hg.block k (h2 k hk).2.1 (fun e2=>hr' f e' k e2.symm hk)) h1).1,fun b hb=>?_⟩;obtain⟨q1,q2,q3,q4⟩:=h2 b hb;exact⟨q1,Nat.lt_of_lt_of_le q2 hg.size,q3,q4⟩
  ·have hb:(Value.slice a' n' aZ).ownBlock=some b:=hb
   rcases yU b hb with⟨f,h1,h2,h3⟩ | e'
   ·exact hr' g hg' b h3 hb'
   ·have:=(hF g (nI g hg') b hb').2.1;omega
theorem bN (hc:Ctx c P ty nt){all:Array Oper}{i:Nat}{k:List KI}(o:Oper)(ho:all[i]?=some o)(hg:guardOf all S.sl o=some true)(hd:cF nt o.dst=true){t e bt j n cap:Nat}{x y:Operand}{a0:Option Addr}{ti ei:TyI}{xs news:List Value}{cells:List AV}{pre post:List OF}{bytes sz m:Nat}{G:Option Addr→Nat→Nat→List Value→OF}(hG:∀a n cap l,G a n cap l=OF.rv (.slice a n cap) c.B.heap.size e sz n l)
  (hop:o.op=.call {callee:=.builtin .append,args:=#[x,y],argTypes:=#[t,t]}) (hx:fG S.sl x=some (.xs a0 n cap)) (hy:fG S.sl y=some (.sl j 0 (.l (m:Int)) m)) (hm:Nat.ble 1 m=true) (hj:S.hp[j]?=some (.c bt cells)) (gX:aH iJ cells=some news) (mJ:cells.all AV.one=true) (hlen:cells.length=m*sz) (h0:Nat.ble 1 sz=true) (how:S.ow=pre++G a0 n cap xs::post)
  (hti:ty t=some ti) (hk:ti.kind=.slice e sz) (hei:ty e=some ei) (hzs:ei.zero.length=sz) (hby:(P.info? e).map (·.bytes)=some bytes) (hle:(n+m)*bytes≤140737488355328) (h63:n+m≤9223372036854775807)
  (h:∀a' n' aZ l',n'=n+m→l'=xs++news→Goal c K ⟨.ops all (i+1)::k,S.putO o.dst (.xs a' n' aZ) none (G a' n' aZ l'::(pre++post)),[]⟩):Goal c K ⟨.ops all i::k,S,[]⟩:=by
 refine tG hc o ho hg (ι:=RowZ) (K':=fun _=>K) (S':=fun z=>S.putO o.dst (.xs z.a (n+m) z.cap) none (G z.a (n+m) z.cap (xs++news)::(pre++post))) (p:=fun _=>True) (fun X μ a w H=>?_) (fun z _=>h z.a (n+m) z.cap _ rfl rfl);have P':=H.toP
 have hm1:1≤m:=lbl hm
 have hs1:1≤sz:=lbl h0
 rw[hG]at how;have e1:=lI (aI H.toP hx (fun _ _=>trivial))
 obtain⟨b,o1,hb1,e2⟩:=mG (aI H.toP hy (fun _ _=>trivial)) (by simp only[IE.den];omega);simp only[IE.den]at e2;obtain⟨mv,hv1,hv2⟩:=vS hb1;have hok:=P'.heap j _ mv hj hv1
 match mv,hv2,hok,hv1 with
 | .own b',hv2,hok,hv1=>
  simp only[MV.at,Option.some.injEq,Prod.mk.injEq]at hv2;obtain⟨rfl,rfl⟩:=hv2;obtain⟨vs,hvs,sZ⟩:=hok;rw[cS gX]at hvs;injection hvs with hvs
  subst hvs;have T:=c.tok t ti (by rw[hc.hty];exact hti)
  have hu:=T.und
  rw[hk]at hu;obtain⟨u1,tj,u2,u3⟩:=hu;obtain⟨tj',z,h1,h2,h3,h4,h5⟩:=(c.tok e ei (by rw[hc.hty];exact hei)).info;rw[u2]at h1;injection h1 with h1;subst h1
  have hzs:z.cells.size=sz:=by have:=aY h4;rw[hzs]at this;simpa using this
  have hb2:tj.bytes=bytes:=by rw[←hc.hP,u2]at hby;simpa using hby
  have hf0:OF.rv (.slice a0 n cap) c.B.heap.size e sz n xs∈S.ow:=by rw[how];simp
  obtain⟨hr0,hr1⟩:=P'.own.at_ _ hf0;have hr0:w.ownsRow c.B.heap.size e sz (.slice a0 n cap) n xs:=hr0
  have hnl:news.length=m*sz:=by rw[aY gX,hlen]
  obtain⟨v',w',q1,q2,q3,q4⟩:=aAf (P:=c.P) c.B.heap.size t o.type e tj z sz bytes u1 u2 h3 u3 hb2 hzs (by omega) _ _ _ hr0 ⟨b',0+0,none⟩ m m news hnl (fun q u hq=>by
    simp[add_eq,World.cell?,sZ,hq]) (sJ mJ gX) (by simpa[maxLen]using h63) hle P'.bel.size
  have hv':∃a' aZ,v'=.slice a' (n+m) aZ:=by
   rcases q2.2 with⟨h6,h7⟩ | ⟨g,aZ,cur,h6,_⟩
   ·omega
   ·exact⟨_,_,h6⟩
  obtain⟨a',aZ,rfl⟩:=hv';refine⟨⟨a',aZ⟩,.slice a' (n+m) aZ,w',X,μ,trivial,?_,?_⟩
  ·rw[←hc.hP];simp only[execOp,hop,resolve,invoke,builtin,Sem.run_bind,Sem.run_pure,Result.andThen_ok,List.map_toArray,List.map_cons,List.map_nil,e1,e2];rw[Int.toNat_natCast,q1]
   rfl
  ·have hap:=P'.own.apart
   rw[how,List.pairwise_append]at hap;obtain⟨p1,p2,p3⟩:=hap;simp only[hG];have nI:∀f,f∈pre++post→f∈S.ow:=fun f hf=>by
    rw[how]
    rcases List.mem_append.1 hf with h | h
    ·simp[h]
    ·simp[h]
   refine bAc (r:=(Value.slice a0 n cap).ownBlock) (by rw[hc.hnt];exact hd) H q3 q2 nI (List.pairwise_append.2 ⟨p1,List.Pairwise.of_cons p2,fun f hf g hg=>p3 f hf g (List.mem_cons_of_mem _ hg)⟩) (fun b hb=>⟨_,hf0,hb⟩) (fun f hf b hb hb'=>?_) (fun b hb=>?_)
   ·rcases List.mem_append.1 hf with h | h
    ·exact p3 f h _ List.mem_cons_self b hb' hb
    ·exact List.rel_of_pairwise_cons p2 h b hb hb'
   ·rcases q4 with h6 | h6
    ·left;rw[←h6];exact hb
    ·right;rw[h6]at hb;injection hb with hb;exact Nat.le_of_eq hb
theorem eQ {ks:List KI}{e sz:Nat}{G:Option Addr→Nat→Nat→List Value→OF}(hG:∀a n cap l,G a n cap l=OF.rv (.slice a n cap) c.B.heap.size e sz n l)(hp:okc ks=true)
  (h:Goal c K ⟨ks,{S with ow:=G none 0 0 []::S.ow},[]⟩):Goal c K ⟨ks,S,[]⟩:=by
 rw[hG]at h;refine nV hp (fun X μ a w H=>?_) h rfl;have P:=H.toP
 refine⟨X,μ,⟨P.dfr,P.size,P.slots,P.heap,P.all,P.inj,P.loc,P.xlt,P.xnew,P.xold,P.bel,P.kf,?_⟩,H.dom⟩;refine⟨fun f hf=>?_,List.Pairwise.cons (fun g hg b hb=>?_) P.own.apart⟩
 ·rcases List.mem_cons.1 hf with e | e
  ·subst e;exact⟨World.ownsRow_nil _ _ _ _,fun b hb=>by cases hb⟩
  ·exact P.own.at_ f e
 ·cases hb
theorem eC {ks:List KI}{v:Value}{base e sz n:Nat}{l:List Value}{g:OF}{pre post:List OF}(hg:g=OF.rv v base e sz n l)(h0:Nat.ble 1 sz=true)(hp:okc ks=true)(how:S.ow=pre++g::post)(h:Goal c (KF.cst v (aVl n l)::K) ⟨ks,{S with ow:=pre++post},[]⟩):Goal c K ⟨ks,S,[]⟩:=by
 refine nV hp (fun X μ a w H=>?_) h rfl;have P:=H.toP
 rw[hg]at how;have hf0:OF.rv v base e sz n l∈S.ow:=by rw[how];simp
 obtain⟨hr0,hr1⟩:=P.own.at_ _ hf0;have hap:=P.own.apart
 rw[how,List.pairwise_append]at hap;obtain⟨p1,p2,p3⟩:=hap;have hr1:∀b,v.ownBlock=some b→c.B.heap.size≤b∧b<w.heap.size∧¬X b∧∀k,μ k≠some (.own b):=hr1
 let X':Nat→Prop:=fun b=>X b∨v.ownBlock=some b
 have nI:∀b,X b→X' b:=fun b h=>Or.inl h
 have hX:∀b,X' b→X b∨v.ownBlock=some b:=fun b h=>h
 refine⟨X',μ,pZ (S:={S with ow:=pre++post}) (f:=KF.cst v (aVl n l)) ⟨⟨P.dfr,P.size,P.slots,fun k blk m hk hm=>Blk.ok_congr (fun _=>rfl) nI (P.heap k blk m hk hm),P.all,P.inj,fun k b hk=>?_,fun b hb=>(hX b hb).elim (P.xlt b) (fun h=>(hr1 b h).2.1),fun b hb=>(hX b hb).elim (P.xnew b) (fun h=>Or.inr (hr1 b h).1),fun b hb=>nI b (P.xold b hb),P.bel,jT P.kf nI (Mu.vle_refl _) (fun _ _=>rfl),?_⟩,H.dom⟩ ?_⟩
 ·obtain⟨q1,q2,q3⟩:=P.loc k b hk;exact⟨q1,fun hb=>hb.elim q2 (fun h=>(hr1 b h).2.2.2 k hk),q3⟩
 ·refine⟨fun f hf=>?_,List.pairwise_append.2 ⟨p1,List.Pairwise.of_cons p2,fun f hf g hg=>p3 f hf g (List.mem_cons_of_mem _ hg)⟩⟩;have hf':f∈S.ow:=by
   rw[how]
   rcases List.mem_append.1 hf with h | h<;>simp[h]
  obtain⟨h1,h2⟩:=P.own.at_ f hf';refine⟨h1,fun b hb=>?_⟩;obtain⟨q1,q2,q3,q4⟩:=h2 b hb;refine⟨q1,q2,fun hx=>hx.elim q3 (fun h=>?_),q4⟩
  rcases List.mem_append.1 hf with h' | h'
  ·exact p3 f h' _ List.mem_cons_self b hb h
  ·exact List.rel_of_pairwise_cons p2 h' b h hb
 ·have hr0:w.ownsRow base e sz v n l:=hr0
  have hs1:1≤sz:=lbl h0
  show(aVl n l).p v _ w
  rcases hr0.2 with⟨rfl,h2⟩ | ⟨g,cap,cur,rfl,_,hg,hnc,_,hcs,htk⟩
  ·have:l=[]:=List.eq_nil_of_length_eq_zero (by rw[hr0.1,h2,Nat.zero_mul])
   subst this;subst h2;exact⟨none,0,rfl,lRf _,rfl,rfl,rfl⟩
  ·refine⟨some (g,0),cap,rfl,hnc,.inr rfl,cur,(e,(0,0)),hg,fun i x hx=>?_⟩;have h3:(cur.toList.take (n*sz))[i]?=some x:=by rw[htk];exact hx
   rw[List.getElem?_take]at h3;split at h3
   ·simpa using h3
   ·cases h3
theorem aNn {n0:Nat}{D:Nat→Prop}{o:Oper}{av:AV}{bt:Nat}{cells:List AV}{Kn:List KF}{ow:List OF}(h:Cert c K n0 D S o av (some (.c bt cells)) Kn ow):Cert c K n0 D S o av (some (.d bt cells.length)) Kn ow:=by
 intro X μ a w next Q H hfr hn
 refine h X μ a w next Q H hfr (fun X' μ' v w' hp hk=>hn X' μ' v w' ⟨hp.bel,hp.keep,hp.val,?_,hp.sub,hp.new,hp.own⟩ hk)
 obtain⟨m,e1,e2,e3⟩:=hp.blk;refine⟨m,e1,?_,e3⟩;cases m with
 | ext a=>exact e2.elim
 | val v=>exact e2.elim
 | own b=>
  obtain⟨vs,q1,q2⟩:=e2;exact⟨vs,aY q1,q2⟩
theorem fM (hc:Ctx c P ty nt){all:Array Oper}{i n0:Nat}{K0:List KF}{k:List KI}(o:Oper)(ho:all[i]?=some o)(hg:guardOf all S.sl o=some true)(hd:cF nt o.dst=true){av:AV}{bt:Nat}{cells:List AV}(hr:fop ty n0 (fl S o) o.op=some ⟨av,some (.c bt cells),[]⟩)
  (h:Goal c K ⟨.dops all (i+1) n0 K0::k,S.put o.dst av (some (.d bt cells.length)),[]⟩):Goal c K ⟨.dops all i n0 K0::k,S,[]⟩:=by
 have hs:DPath c all n0 K0 k (i+1) (S.put o.dst av (some (.d bt cells.length))) K:=h.so
 refine .mk0 (show DPath c all n0 K0 k i S K from ?_);refine DPath.op (Kn:=[]) (ow:=(fl S o).ow) ho hg (by rw[hc.hnt];exact hd) (aNn (jN (r:=⟨av,some (.c bt cells),[]⟩) (by rw[hc.hty];exact hr) trivial (fun t ht=>by simp only[uV,dO,List.mem_append];exact .inl (fA (by simpa using ht))))) (fun _=>rfl) ?_ hs;rw[show(if bZ o then(fl S o).ow else S.ow)=S.ow by unfold fl;split<;>rfl];exact Wk.refl _
theorem aFs (hc:Ctx c P ty nt){all:Array Oper}{i n0:Nat}{K0:List KF}{k:List KI}{ps:List Ps}(hd:zP all i=true)(hi:i≤all.size)(hps:jU ty S all (List.range' i (all.size - i))=some ps)(n:Nat)
  (h:Goal c K (run ty nt K n (.ops all all.size::k) (S.setPs ps) [])):Goal c K ⟨.dops all i n0 K0::k,S,[]⟩:=
 .mk0 (DPath.stop hi (.inr (.inl ⟨hd,ps,by rw[hc.hty];exact hps,dP hc n h⟩)))
theorem aAb (hc:Ctx c P ty nt){all:Array Oper}{i n0:Nat}{K0:List KF}{k:List KI}{ps:List Ps}(m2:Nat)(hd:zQ all i m2=true)(hi:i≤all.size)(h2:m2≤all.size)(hps:jU ty S all (List.range' i (m2 - i))=some ps)(n:Nat)
  (h:Goal c K (run ty nt K n (.ops all m2::k) (S.setPs ps) [])):Goal c K ⟨.dops all i n0 K0::k,S,[]⟩:=
 .mk0 (DPath.stop hi (.inr (.inr (.inr ⟨m2,hd,h2,ps,by rw[hc.hty];exact hps,dP hc n h⟩))))
def bBj (j:Nat):List KI→Bool
 | .dops _ i _ _::_=>i==j
 | _=>false
def aVm (ty:Nat→Option TyI)(nt:Nat)(K:List KF)(j:Nat):Nat→List KI→St→List Obl→Cfg
 | 0,ks,S,ob=>⟨ks,S,ob⟩
 | n+1,ks,S,ob=>if bBj j ks then⟨ks,S,ob⟩else match aIp ty nt K ks S with
  | some r=>aVm ty nt K j n r.ks r.S (match r.ob with | []=>ob | o=>ob++o)
  | none=>⟨ks,S,ob⟩
theorem aId (ty:Nat→Option TyI)(nt:Nat)(K:List KF)(j:Nat):∀(n:Nat) (ks:List KI) (S:St) (ob:List Obl),∃m,aVm ty nt K j n ks S ob=run ty nt K m ks S ob
 | 0,ks,S,ob=>⟨0,rfl⟩
 | n+1,ks,S,ob=>by
  simp only[aVm];split
  ·exact⟨0,rfl⟩
  ·split
   ·rename_i r hr;obtain⟨m,hm⟩:=aId ty nt K j n r.ks r.S (match r.ob with | []=>ob | o=>ob++o);exact⟨m+1,by simp only[run,hr];exact hm⟩
   ·exact⟨0,rfl⟩
theorem bC1 (hc:Ctx c P ty nt)(j n:Nat){ks:List KI}(h:Goal c K (aVm ty nt K j n ks S [])):Goal c K ⟨ks,S,[]⟩:=by
 obtain⟨m,hm⟩:=aId ty nt K j n ks S [];rw[hm]at h;exact jA hc m h
theorem aFr (hc:Ctx c P ty nt){all:Array Oper}{i n0:Nat}{K0:List KF}{k:List KI}(hd:sD all i=true)(hi:i≤all.size)(h:Goal c K ⟨.ord all (firstM all.size i)::k,S,[]⟩):Goal c K ⟨.dops all i n0 K0::k,S,[]⟩:=
 .mk0 (DPath.stop hi (.inr (.inr (.inl ⟨hd,h.so⟩))))
theorem bV {all:Array Oper}{L:Array Bool}{k:List KI}(l:List Nat)(hl:Region.ready .any all L=l)(hne:l.isEmpty=false)
  (h:∀i,i∈l→∃o,all[i]?=some o∧o.guard=none∧Goal c K ⟨.ops #[o] 0::.ord all (L.setIfInBounds i true)::k,S,[]⟩):Goal c K ⟨.ord all L::k,S,[]⟩:=by
 refine .mk0 (aEa (fun h0=>?_) (fun i hi=>?_))
 ·rw[hl]at h0;subst h0;cases hne
 ·obtain⟨o,h1,h2,h3⟩:=h i (hl▸hi);exact⟨o,h1,h2,h3.so⟩
theorem xU {all:Array Oper}{L:Array Bool}{k:List KI}(hl:Region.ready .any all L=[])(hk:iO k=true)(h:Goal c K ⟨k,S,[]⟩):Goal c K ⟨.ord all L::k,S,[]⟩:=by
 refine .mk0 (aEa (fun _=>mQ hk h) (fun i hi=>?_));rw[hl]at hi;cases hi
end
end Go.Ai
namespace Go.Ai
open Go Go.RowKit
abbrev eV:=List (List ByteArray × Int)
def iY (k:List ByteArray):Value:=.agg (k.map Value.string).toArray
def cI:Nat→eV→List MapEntry
 | _,[]=>[]
 | i,(k,v)::l=>⟨iY k,.int .i64 v,i⟩::cI (i+1) l
def fF (k:List ByteArray):eV→Nat→Option (Nat × Int)
 | [],_=>none
 | (q,v)::l,i=>if k=q then some (i,v)else fF k l (i+1)
def fT (es:eV)(k:List ByteArray):Int:=match fF k es 0 with | some (_,v)=>v | none=>0
def fY (es:eV)(k:List ByteArray):eV:=match fF k es 0 with | some _=>es | none=>es++[(k,0)]
def lF (es:eV)(k:List ByteArray):Nat:=match fF k es 0 with | some (i,_)=>i | none=>es.length
def lN:eV→Nat→Int→eV
 | [],_,_=>[]
 | (k,_)::l,0,v=>(k,v)::l
 | x::l,n+1,v=>x::lN l n v
def fH (k:List ByteArray)(d:Int):eV→eV
 | []=>[(k,d)]
 | (q,v)::l=>if k=q then(q,v+d)::l else(q,v)::fH k d l
theorem kH:∀(l:eV) (i j:Nat),(cI i l)[j]?=(l[j]?).map fun x=>⟨iY x.1,.int .i64 x.2,i+j⟩
 | [],i,j=>by simp[cI]
 | (k,v)::l,i,0=>by simp[cI]
 | (k,v)::l,i,j+1=>by
  simp only[cI,List.getElem?_cons_succ,kH l (i+1) j];rw[show i+1+j=i+(j+1) by omega]
theorem aDj:∀(l:eV) (i:Nat),(cI i l).length=l.length
 | [],_=>rfl
 | _::l,i=>by simp[cI,aDj l (i+1)]
theorem aDi:∀(l m:eV) (i:Nat),cI i (l++m)=cI i l++cI (i+l.length) m
 | [],m,i=>by simp[cI]
 | (k,v)::l,m,i=>by
  simp only[List.cons_append,cI,aDi l m (i+1),List.length_cons];rw[show i+1+l.length=i+(l.length+1) by omega]
theorem oK:∀{k:List ByteArray} {l:eV} {i j:Nat} {v:Int},fF k l i=some (j,v)→i≤j∧j<i+l.length∧l[j - i]?=some (k,v)
 | k,[],i,j,v,h=>by cases h
 | k,(q,u)::l,i,j,v,h=>by
  simp only[fF]at h;split at h
  ·rename_i e;injection h with h;injection h with h1 h2
   subst h1;subst h2;subst e;simp
  ·obtain⟨h1,h2,h3⟩:=oK h;refine⟨by omega,by simp;omega,?_⟩;obtain⟨m,hm⟩:∃m,j - i=m+1:=⟨j - i - 1,by omega⟩;rw[hm,List.getElem?_cons_succ,←h3]
   congr 1;omega
theorem aDo:∀(k:List ByteArray) (l:eV) (i:Nat),fF k l i=none→fF k (l++[(k,0)]) i=some (i+l.length,0)
 | k,[],i,_=>by simp[fF]
 | k,(q,v)::l,i,h=>by
  simp only[fF]at h;split at h
  ·cases h
  ·rename_i e;simp only[List.cons_append,fF,e,if_false,aDo k l (i+1) h,List.length_cons];rw[show i+1+l.length=i+(l.length+1) by omega]
theorem aEb (es:eV)(k:List ByteArray):lF es k<(fY es k).length:=by
 unfold lF fY;cases h:fF k es 0 with
 | none=>simp
 | some x=>obtain⟨j,v⟩:=x;have:=oK h;simp;omega
theorem aA6 (es:eV)(k:List ByteArray):fT (fY es k) k=fT es k:=by
 unfold fY;cases h:fF k es 0 with
 | none=>simp only[fT,aDo k es 0 h,h]
 | some x=>rfl
theorem wG:∀(k:List ByteArray) (d:Int) (es:eV) (i:Nat),(match fF k es i with | some (j,v)=>lN es (j - i) (v+d) | none=>lN (es++[(k,0)]) es.length (0+d))=fH k d es
 | k,d,[],i=>by simp[fF,lN,fH]
 | k,d,(q,v)::l,i=>by
  by_cases e:k=q
  ·simp only[fF,e,if_true,fH,Nat.sub_self,lN]
  ·have ih:=wG k d l (i+1)
   simp only[fF,e,if_false,fH];cases h:fF k l (i+1)with
   | none=>
    rw[h]at ih;simp only[List.cons_append,List.length_cons,lN]at ih ⊢;rw[ih]
   | some x=>
    obtain⟨j,u⟩:=x;rw[h]at ih;have:=oK h
    simp only at ih ⊢;rw[show j - i=(j - (i+1))+1 by omega,lN,ih]
theorem aIh (es:eV)(k:List ByteArray)(d:Int):lN (fY es k) (lF es k) (fT es k+d)=fH k d es:=by
 have:=wG k d es 0
 unfold fY lF fT;cases h:fF k es 0 with
 | none=>rw[h]at this;exact this
 | some x=>obtain⟨j,v⟩:=x;rw[h]at this;simpa using this
theorem aIi:∀(l:eV) (n:Nat) (v:Int),(lN l n v).length=l.length
 | [],_,_=>rfl
 | _::_,0,_=>rfl
 | _::l,n+1,v=>by simp[lN,aIi l n v]
theorem aD6:∀(l:eV) (n i:Nat) (v:Int),cI i (lN l n v)=(cI i l).modify n fun e=>{e with val:=.int .i64 v}
 | [],n,i,v=>by simp[lN,cI]
 | (k,u)::l,0,i,v=>by simp[lN,cI]
 | (k,u)::l,n+1,i,v=>by simp[lN,cI,aD6 l n (i+1) v]
def iI (n:Nat)(es:eV):Prop:=∀x,x∈es→x.1.length=n
theorem iI.touch {n:Nat}{es:eV}{k:List ByteArray}(h:iI n es)(hk:k.length=n):iI n (fY es k):=by
 unfold fY;split
 ·exact h
 ·intro x hx
  rcases List.mem_append.1 hx with e | e
  ·exact h x e
  ·simp at e;subst e;exact hk
theorem iI.add {n:Nat}{k:List ByteArray}{d:Int}(hk:k.length=n):∀{es:eV},iI n es→iI n (fH k d es)
 | [],_=>by intro x hx;simp[fH]at hx;subst hx;exact hk
 | (q,v)::l,h=>by
  have hq:=h (q,v) (by simp)
  have hl:iI n l:=fun x hx=>h x (List.mem_cons_of_mem _ hx)
  unfold fH;split
  ·intro x hx
   rcases List.mem_cons.1 hx with e | e
   ·subst e;exact hq
   ·exact hl x e
  ·intro x hx
   rcases List.mem_cons.1 hx with e | e
   ·subst e;exact hq
   ·exact iI.add hk hl x e
def isStr (P:Program)(t:Nat):Bool:=match P.underlying t with | some (.struct _)=>true | _=>false
theorem aRz {P:Program}{t:Nat}(h:isStr P t=true):∃fs,P.underlying t=some (.struct fs):=by
 unfold isStr at h;split at h
 ·rename_i fs e;exact⟨fs,e⟩
 ·cases h
structure KeyTy (P:Program)(mt kt et n:Nat):Prop where
 map:P.underlying mt=some (.map kt et)
 lv:leaves P 12 kt=some (List.replicate n .s)
 strB:isStr P kt=true
 chk:∀(a:List ByteArray) (b:Bool) (w:World),a.length=n→(Instr.checkKey b 10000 kt (iY a)).run P w=.ok () w
 zero:∀w,(zeroValue et).run P w=.ok (.int .i64 0) w
section
variable {P:Program}{mt kt et n:Nat}
theorem tW:∀(a:List ByteArray),cY (a.map Value.string)=some (List.replicate a.length .s)
 | []=>rfl
 | x::l=>by simp[cY,qG,tW l,List.replicate_succ]
theorem rK:∀{a b:List ByteArray},a.map Value.string=b.map Value.string→a=b
 | [],[],_=>rfl
 | [],_::_,h=>by cases h
 | _::_,[],h=>by cases h
 | x::a,y::b,h=>by
  simp only[List.map_cons,List.cons.injEq,Value.string.injEq]at h;rw[h.1,rK h.2]
theorem KeyTy.str (T:KeyTy P mt kt et n):∃fs,P.underlying kt=some (.struct fs):=aRz T.strB
theorem KeyTy.eqv (T:KeyTy P mt kt et n){a b:List ByteArray}(ha:a.length=n)(hb:b.length=n)(w:World):(Op.equal kt (iY a) (iY b)).run P w=.ok (decide (a=b)) w:=by
 obtain⟨fs,hfs⟩:=T.str;have E:=tP (P:=P) 12 9988 kt _ T.lv
 obtain⟨r,h1,h2⟩:=E w (iY a) (iY b) (by simp only[Shp,hfs];exact⟨_,rfl⟩) (by simp only[Shp,hfs];exact⟨_,rfl⟩) (by simp only[iY,Value.cells,tW,ha]) (by simp only[iY,Value.cells,tW,hb]);have e:r=decide (a=b):=by
  rw[Bool.eq_iff_iff,h2,decide_eq_true_eq];simp only[iY,Value.cells];exact⟨fun h=>rK h,fun h=>by rw[h]⟩
 rw[←e];exact h1
theorem KeyTy.asking (T:KeyTy P mt kt et n){k:List ByteArray}(hk:k.length=n)(w:World):∀(l:eV) (i j:Nat),iI n l→(Instr.findAsking kt (iY k) (cI i l) j).run P w=.ok ((fF k l j).map fun x=>(x.1,.int .i64 x.2)) w
 | [],i,j,_=>by simp[cI,Instr.findAsking,fF]
 | (q,v)::l,i,j,h=>by
  have h1:=h (q,v) (by simp)
  simp only[cI,Instr.findAsking,Sem.run_bind,T.eqv hk h1,Result.andThen_ok,fF]
  by_cases e:k=q
  ·simp[e]
  ·simp only[e,decide_false,Bool.false_eq_true,if_false];exact T.asking hk w l (i+1) (j+1) (fun x hx=>h x (List.mem_cons_of_mem _ hx))
theorem KeyTy.find (T:KeyTy P mt kt et n){k:List ByteArray}(hk:k.length=n)(w:World){es:eV}(h:iI n es):(Instr.findKey kt (iY k) (cI 0 es)).run P w=.ok ((fF k es 0).map fun x=>(x.1,.int .i64 x.2)) w:=by
 obtain⟨fs,hfs⟩:=T.str;have:=T.asking hk w es 0 0 h
 simp only[Instr.findKey,Sem.run_bind,run_underlying hfs,Result.andThen_ok];cases es with
 | nil=>simp[cI,Instr.findNow,fF]
 | cons x l=>
  obtain⟨q,v⟩:=x;simp only[cI]at this ⊢;simp only[Instr.findNow,Instr.sameNow];exact this
def rJ (w:World)(r:Nat)(es:eV):Prop:=w.heap[r]?=some (.map (cI 0 es).toArray es.length)
theorem KeyTy.look (T:KeyTy P mt kt et n){k:List ByteArray}(hk:k.length=n){w:World}{r:Nat}{es:eV}(h:iI n es)(hb:rJ w r es):(Instr.lookup mt (.map (some r)) (iY k) false).run P w=.ok (.int .i64 (fT es k)) w:=by
 have h1:=T.find hk w h
 simp only[Instr.lookup,Sem.run_bind,run_underlying T.map,Result.andThen_ok,MapKept.run_getObj_map hb,Sem.run_pure,T.chk k _ w hk,List.toList_toArray,h1];unfold fT;cases hf:fF k es 0 with
 | none=>simp[T.zero,Result.andThen]
 | some x=>obtain⟨j,v⟩:=x;simp
theorem wD:∀(m:Nat) (a:List ByteArray),(((a.map Value.string).zip (a.map Value.string)).all fun(x,y)=>Instr.sameBits (m+1) x y)=true
 | m,[]=>rfl
 | m,x::l=>by
  simp only[List.map_cons,List.zip_cons_cons,List.all_cons,wD m l,Bool.and_true];simp only[Instr.sameBits];exact(MapKept.bytes_beq x x).2 rfl
theorem aFt (a:List ByteArray):Instr.sameBits 10000 (iY a) (iY a)=true:=by
 show Instr.sameBits (9999+1) (.agg (a.map Value.string).toArray) (.agg (a.map Value.string).toArray)=true
 simp only[Instr.sameBits,beq_self_eq_true,Bool.true_and];exact wD 9998 a
theorem KeyTy.entry (T:KeyTy P mt kt et n){k:List ByteArray}(hk:k.length=n){w:World}{r:Nat}{es:eV}(h:iI n es)(hb:rJ w r es):∃v,(Instr.mapEntry mt (.map (some r)) (iY k)).run P w=.ok (.tuple #[v,.int .i64 (lF es k)]) {w with heap:=w.heap.setIfInBounds r (.map (cI 0 (fY es k)).toArray (fY es k).length)}:=by
 have h1:=T.find hk w h
 simp only[Instr.mapEntry,Sem.run_bind,run_underlying T.map,Result.andThen_ok,MapKept.run_getObj_map hb,T.chk k _ w hk,List.toList_toArray,h1];unfold lF fY;cases hf:fF k es 0 with
 | none=>
  refine⟨.int .i64 0,?_⟩;simp only[Option.map_none,Sem.run_bind,T.zero,Result.andThen_ok,MapKept.run_setObj_map _ hb,Sem.run_pure,goInt]
  congr 3
  simp[aDi,cI]
 | some x=>
  obtain⟨j,v⟩:=x;obtain⟨e1,e2,e3⟩:=oK hf;simp only[Nat.sub_zero,Nat.zero_add]at e2 e3;have hj:(cI 0 es).toArray[j]?=some ⟨iY k,.int .i64 v,j⟩:=by
   rw[List.getElem?_toArray,kH,e3];simp
  have hm:(cI 0 es).toArray.modify j (fun e=>{e with key:=iY k})=(cI 0 es).toArray:=by
   apply Array.ext';apply List.ext_getElem?;intro q;simp only[Array.toList_modify,List.getElem?_modify]
   by_cases hq:j=q
   ·subst hq;have:(cI 0 es)[j]?=some ⟨iY k,.int .i64 v,j⟩:=by simpa using hj
    simp[this]
   ·simp[hq]
  refine⟨.int .i64 v,?_⟩;simp only[Option.map_some,hj,Option.getD_some,Sem.run_bind,Instr.keyThatStays,aFt,if_true,Sem.run_pure,Result.andThen_ok,hm,MapKept.run_setObj_map _ hb,goInt]
theorem aA0 {w:World}{r:Nat}{es:eV}(hb:rJ w r es){s:Nat}(hs:s<es.length)(v:Int):(Instr.entryStore mt (.map (some r)) (.int .i64 s) (.int .i64 v)).run P w=.ok () {w with heap:=w.heap.setIfInBounds r (.map (cI 0 (lN es s v)).toArray (lN es s v).length)}:=by
 have hf:(cI 0 es).toArray.findIdx? (fun e=>(e.born:Int)==(s:Int))=some s:=by
  rw[Array.findIdx?_eq_some_iff_getElem];have hl:=aDj es 0
  have hg:∀q (hq:q<(cI 0 es).length),((cI 0 es)[q]).born=q:=fun q hq=>by
   have h1:=kH es 0 q
   rw[List.getElem?_eq_getElem hq,List.getElem?_eq_getElem (by omega)]at h1;simp only[Option.map_some,Option.some.injEq]at h1;rw[h1];simp
  refine⟨by simp[hl];exact hs,?_,?_⟩
  ·simp[hg]
  ·intro j hj;simp[hg];omega
 simp only[Instr.entryStore,Sem.run_bind,MapKept.run_getObj_map hb,Result.andThen_ok,asInt,asIntOf,Sem.run_pure,hf,MapKept.run_setObj_map _ hb,aIi];rw[aD6];simp
end
def OF.mp (r:Nat)(es:eV):OF where
 F _ b:=b=r
 p _ w:=rJ w r es
 st _ _ w w' _ hk h:=⟨by unfold rJ;rw[hk r rfl];exact h,fun _=>Iff.rfl⟩
def OF.it (r m N:Nat)(seen:Array Nat):OF where
 F _ b:=b=r
 p _ w:=w.heap[r]?=some (.mapIter (some m) N seen N)
 st _ _ w w' _ hk h:=⟨by rw[hk r rfl];exact h,fun _=>Iff.rfl⟩
theorem OFr.mp (n r:Nat)(es:eV):OFr n (OF.mp r es):=⟨fun _ _ h=>⟨h,fun _ h=>h⟩⟩
theorem OFr.it (n r m N:Nat)(seen:Array Nat):OFr n (OF.it r m N seen):=⟨fun _ _ h=>⟨h,fun _ h=>h⟩⟩
section
variable {c:Cx}{P:Program}{ty:Nat→Option TyI}{nt:Nat}{K:List KF}{S:St}{X:Nat→Prop}{μ:Mu}{a:Act}{w:World}
theorem pI {v u:Value}(h:aC μ (.o v)=some u):u=v:=by
 simp only[aC]at h;split at h
 ·injection h with h;exact h.symm
 ·cases h
theorem uD {pre post:List OF}{f f':OF}{r:Nat}{w':World}(H:Sim c K S X μ a w)(how:S.ow=pre++f::post)(hF:∀j,f.F μ j↔j=r)(hF':∀j,f'.F μ j↔j=r)(hp:f'.p μ w')(hos:w'.os=w.os)(htp:w'.tape=w.tape)(hou:w'.output=w.output)
  (hsz:w'.heap.size=w.heap.size) (ho:∀j,j≠r→w'.heap[j]?=w.heap[j]?):Sim c K {S with ow:=pre++f'::post} X μ a w':=by
 have P:=H.toP
 have hf0:f∈S.ow:=by rw[how];simp
 obtain⟨r1,r2,r3,r4⟩:=(P.own.at_ f hf0).2 r ((hF r).2 rfl);have hxr:∀b,X b→b≠r:=fun b hx e=>r3 (e▸hx)
 have hap:=P.own.apart
 rw[how,List.pairwise_append]at hap;obtain⟨p1,p2,p3⟩:=hap;have aQ9:Below c.B.heap.size c.B w':=⟨hos.trans P.bel.os,htp.trans P.bel.tape,hou.trans P.bel.output,by rw[hsz];exact P.bel.size,fun k hk=>(ho k (by omega)).trans (P.bel.block k hk)⟩
 refine⟨⟨P.dfr,P.size,P.slots,fun k blk m hk hm=>?_,P.all,P.inj,fun k b hk=>?_,fun b hb=>by rw[hsz];exact P.xlt b hb,P.xnew,P.xold,aQ9,jT P.kf (fun _ h=>h) (Mu.vle_refl _) (fun b hx=>ho b (hxr b hx)),?_⟩,H.dom⟩
 ·exact Blk.ok_keep (Mu.le_refl _) (fun _ h=>h) (fun b hx=>ho b (hxr b hx)) (fun b e=>ho b (fun e'=>r4 k (by rw[hm,e,e']))) (P.heap k blk m hk hm)
 ·obtain⟨q1,q2,q3⟩:=P.loc k b hk;exact⟨q1,q2,by omega⟩
 ·refine⟨fun g hg=>?_,List.pairwise_append.2 ⟨p1,List.Pairwise.cons (fun g hg b hb hb'=>?_) (List.Pairwise.of_cons p2),fun g hg h hh b hb hb'=>?_⟩⟩
  ·have other:∀g,g∈S.ow→(∀b,f.F μ b→¬g.F μ b)→g.p μ w'∧∀b,g.F μ b→c.B.heap.size≤b∧b<w'.heap.size∧¬X b∧∀k,μ k≠some (.own b):=fun g hg hne=>by
    obtain⟨h1,h2⟩:=P.own.at_ g hg;refine⟨(g.st μ μ w w' (Mu.vle_refl _) (fun j hj=>ho j (fun e=>hne r ((hF r).2 rfl) (e▸hj))) h1).1,fun b hb=>?_⟩;obtain⟨q1,q2,q3,q4⟩:=h2 b hb;exact⟨q1,by omega,q3,q4⟩
   rcases List.mem_append.1 hg with e | e
   ·exact other g (by rw[how];simp[e]) (fun b hb hb'=>p3 g e f (by simp) b hb' hb)
   ·rcases List.mem_cons.1 e with e | e
    ·subst e;exact⟨hp,fun b hb=>by
      have:=(hF' b).1 hb
      subst this;exact⟨r1,by omega,r3,r4⟩⟩
    ·exact other g (by rw[how];simp[e]) (fun b hb hb'=>List.rel_of_pairwise_cons p2 e b hb hb')
  ·exact List.rel_of_pairwise_cons p2 hg b ((hF b).2 ((hF' b).1 hb)) hb'
  ·rcases List.mem_cons.1 hh with e | e
   ·subst e;exact p3 g hg f (by simp) b hb ((hF b).2 ((hF' b).1 hb'))
   ·exact p3 g hg h (by simp[e]) b hb hb'
theorem sO {f':OF}{o:Obj}(H:Sim c K S X μ a w)(hF':∀j,f'.F μ j↔j=w.heap.size)(hp:f'.p μ (w.alloc o)):Sim c K {S with ow:=f'::S.ow} X μ a (w.alloc o):=by
 have P:=H.toP
 have hsz:(w.alloc o).heap.size=w.heap.size+1:=by show(w.heap.push o).size=_;simp
 have ho:∀j,j<w.heap.size→(w.alloc o).heap[j]?=w.heap[j]?:=fun j hj=>Go.RowKit.Below.heap_alloc w o j hj
 have aQ9:Below c.B.heap.size c.B (w.alloc o):=⟨P.bel.os,P.bel.tape,P.bel.output,by rw[hsz];have:=P.bel.size;omega,fun k hk=>(ho k (by have:=P.bel.size;omega)).trans (P.bel.block k hk)⟩
 refine⟨⟨P.dfr,P.size,P.slots,fun k blk m hk hm=>?_,P.all,P.inj,fun k b hk=>?_,fun b hb=>by rw[hsz];have:=P.xlt b hb;omega,P.xnew,P.xold,aQ9,jT P.kf (fun _ h=>h) (Mu.vle_refl _) (fun b hx=>ho b (P.xlt b hx)),?_⟩,H.dom⟩
 ·exact Blk.ok_keep (Mu.le_refl _) (fun _ h=>h) (fun b hx=>ho b (P.xlt b hx)) (fun b e=>ho b (P.loc k b (by rw[hm,e])).2.2) (P.heap k blk m hk hm)
 ·obtain⟨q1,q2,q3⟩:=P.loc k b hk;exact⟨q1,q2,by omega⟩
 ·refine⟨fun g hg=>?_,List.Pairwise.cons (fun g hg b hb hb'=>?_) P.own.apart⟩
  ·rcases List.mem_cons.1 hg with e | e
   ·subst e;exact⟨hp,fun b hb=>by
     have:=(hF' b).1 hb
     subst this;exact⟨P.bel.size,by omega,fun hx=>by have:=P.xlt _ hx;omega,fun k hk=>by have:=(P.loc k _ hk).2.2;omega⟩⟩
   ·obtain⟨h1,h2⟩:=P.own.at_ g e;refine⟨(g.st μ μ w _ (Mu.vle_refl _) (fun j hj=>ho j (h2 j hj).2.1) h1).1,fun b hb=>?_⟩;obtain⟨q1,q2,q3,q4⟩:=h2 b hb;exact⟨q1,by omega,q3,q4⟩
  ·have:=(hF' b).1 hb
   subst this;have:=((P.own.at_ g hg).2 _ hb').2.1
   omega
theorem wH (H:Sim c K S X μ a w){d:Option Nat}(hd:cF c.nt d=true){av:AV}{v:Value}(hv:aC μ av=some v):Sim c K (S.put d av none) X μ (a.put d v) w:=by
 have:=lB (Kn:=[]) H hd (cK.same H.toP.own hv) (fun f hf=>by cases hf)
 simpa[St.put]using this
theorem aD5 (hc:Ctx c P ty nt){all:Array Oper}{i:Nat}{k:List KI}(o:Oper)(ho:all[i]?=some o)(hg:guardOf all S.sl o=some true)(hd:cF nt o.dst=true){mt:Nat}{M:Nat→eV→OF}(hM:∀r es,M r es=OF.mp r es)(hop:o.op=.makeMap mt none)
  (h:∀r,Goal c K ⟨.ops all (i+1)::k,S.putO o.dst (.o (.map (some r))) none (M r []::S.ow),[]⟩):Goal c K ⟨.ops all i::k,S,[]⟩:=by
 refine tG hc o ho hg (ι:=Nat) (K':=fun _=>K) (S':=fun r=>S.putO o.dst (.o (.map (some r))) none (M r []::S.ow)) (p:=fun _=>True) (fun X μ a w H=>?_) (fun r _=>h r);refine⟨w.heap.size,.map (some w.heap.size),w.alloc (.map #[] 0),X,μ,trivial,?_,?_⟩
 ·simp[execOp,hop,Instr.makeMap]
 ·rw[hM];have H1:=sO (f':=OF.mp w.heap.size []) (o:=.map #[] 0) H (fun j=>Iff.rfl) (by show(w.alloc _).heap[w.heap.size]?=_;rw[heap_alloc_new];rfl)
  exact wH H1 (by rw[hc.hnt];exact hd) (av:=.o (.map (some w.heap.size))) rfl
theorem aMy (hc:Ctx c P ty nt){all:Array Oper}{i:Nat}{k:List KI}(o:Oper)(ho:all[i]?=some o)(hg:guardOf all S.sl o=some true)(hd:cF nt o.dst=true){mt kt et n r:Nat}(T:KeyTy P mt kt et n){x y:Operand}{kav:AV}{ks:List ByteArray}{es:eV}(pre:List OF){post:List OF}{M:Nat→eV→OF}(hM:∀r es,M r es=OF.mp r es)(hop:o.op=.lookup mt x y false)
  (hx:fG S.sl x=some (.o (.map (some r)))) (hy:fG S.sl y=some kav) (hk:aC iJ kav=some (iY ks)) (hn:ks.length=n) (hes:iI n es) (how:S.ow=pre++M r es::post) (z:Int) (hz:z=fT es ks)
  (h:Goal c K ⟨.ops all (i+1)::k,S.put o.dst (.i .i64 (.v z)) none,[]⟩):Goal c K ⟨.ops all i::k,S,[]⟩:=by
 refine aSv hc o ho hg hd (.i .i64 (.v z)) (fun X μ a w H=>?_) h;have e1:=aI H.toP hx (fun _ _=>trivial)
 have e2:=aI H.toP hy (fun _ _=>trivial)
 rw[eS hk]at e2;injection e2 with e2
 have e1:=(pI e1).symm
 rw[hM]at how;have hm:rJ w r es:=(H.toP.own.at_ (OF.mp r es) (by rw[how];simp)).1
 refine⟨.int .i64 z,?_,rfl⟩;subst hz;simp only[execOp,hop,←e1,←e2,T.look hn hes hm,Sem.run_bind,Result.andThen_ok,Sem.run_pure]
theorem aHa {w:World}{r:Nat}{o o':Obj}(h:w.heap[r]?=some o):({w with heap:=w.heap.setIfInBounds r o'}:World).heap[r]?=some o':=by
 have:=(Array.getElem?_eq_some_iff.1 h).1
 simp[this]
theorem yN {w:World}{r j:Nat}{o':Obj}(h:j≠r):({w with heap:=w.heap.setIfInBounds r o'}:World).heap[j]?=w.heap[j]?:=
 Array.getElem?_setIfInBounds_ne (fun e=>h e.symm)
theorem aBx (hc:Ctx c P ty nt){all:Array Oper}{i:Nat}{k:List KI}(o:Oper)(ho:all[i]?=some o)(hg:guardOf all S.sl o=some true)(hd:cF nt o.dst=true){mt kt et n r:Nat}(T:KeyTy P mt kt et n){x y:Operand}{kav:AV}{ks:List ByteArray}{es:eV}(pre:List OF){post:List OF}{M:Nat→eV→OF}(hM:∀r es,M r es=OF.mp r es)(hop:o.op=.mapEntry mt x y)
  (hx:fG S.sl x=some (.o (.map (some r)))) (hy:fG S.sl y=some kav) (hk:aC iJ kav=some (iY ks)) (hn:ks.length=n) (hes:iI n es) (how:S.ow=pre++M r es::post) {es':eV} {st:Nat} (h1:es'=fY es ks) (h2:st=lF es ks)
  (h:∀v,Goal c K ⟨.ops all (i+1)::k,S.putO o.dst (.t [.q v,.i .i64 (.n st)]) none (pre++M r es'::post),[]⟩):Goal c K ⟨.ops all i::k,S,[]⟩:=by
 refine tG hc o ho hg (ι:=Value) (K':=fun _=>K) (S':=fun v=>S.putO o.dst (.t [.q v,.i .i64 (.n st)]) none (pre++M r es'::post)) (p:=fun _=>True) (fun X μ a w H=>?_) (fun v _=>h v);have e1:=aI H.toP hx (fun _ _=>trivial)
 have e2:=aI H.toP hy (fun _ _=>trivial)
 rw[eS hk]at e2;injection e2 with e2
 have e1:=(pI e1).symm
 simp only[hM]at how ⊢;have hm:rJ w r es:=(H.toP.own.at_ (OF.mp r es) (by rw[how];simp)).1
 obtain⟨v,hv⟩:=T.entry hn hes hm;subst h1;subst h2;refine⟨v,.tuple #[v,.int .i64 (lF es ks)],{w with heap:=w.heap.setIfInBounds r (.map (cI 0 (fY es ks)).toArray (fY es ks).length)},X,μ,trivial,?_,?_⟩
 rotate_left
 ·have H1:=uD (f':=OF.mp r (fY es ks)) H how (fun j=>Iff.rfl) (fun j=>Iff.rfl) (w':={w with heap:=w.heap.setIfInBounds r (.map (cI 0 (fY es ks)).toArray (fY es ks).length)}) (aHa hm) rfl rfl rfl (by simp) (fun j hj=>yN hj)
  exact wH H1 (by rw[hc.hnt];exact hd) (av:=.t [.q v,.i .i64 (.n (lF es ks))]) (v:=.tuple #[v,.int .i64 (lF es ks)]) rfl
 ·simp only[execOp,hop,←e1,←e2,hv,Sem.run_bind,Result.andThen_ok,Sem.run_pure]
theorem wC (hc:Ctx c P ty nt){all:Array Oper}{i:Nat}{k:List KI}(o:Oper)(ho:all[i]?=some o)(hg:guardOf all S.sl o=some true)(hd:o.dst=none){mt r st:Nat}{x y z:Operand}{e:IE}{es:eV}(pre:List OF){post:List OF}{M:Nat→eV→OF}(hM:∀r es,M r es=OF.mp r es)(hop:o.op=.entryStore mt x y z)
  (hx:fG S.sl x=some (.o (.map (some r)))) (hy:fG S.sl y=some (.i .i64 (.n st))) (hz:fG S.sl z=some (.i .i64 e)) (hst:st<es.length) (how:S.ow=pre++M r es::post) {es':eV} (h1:es'=lN es st e.den)
  (h:Goal c K ⟨.ops all (i+1)::k,{S with ow:=pre++M r es'::post},[]⟩):Goal c K ⟨.ops all i::k,S,[]⟩:=by
 refine aSr hc o ho hg hd (fun X μ a w H=>?_) h;have e1:=aI H.toP hx (fun _ _=>trivial)
 have e2:=bQ (aI H.toP hy (fun _ _=>trivial))
 have e3:=bQ (aI H.toP hz (fun _ _=>trivial))
 have e1:=(pI e1).symm
 simp only[hM]at how ⊢;have hm:rJ w r es:=(H.toP.own.at_ (OF.mp r es) (by rw[how];simp)).1
 subst h1;refine⟨{w with heap:=w.heap.setIfInBounds r (.map (cI 0 (lN es st e.den)).toArray (lN es st e.den).length)},X,μ,?_,uD (f':=OF.mp r (lN es st e.den)) H how (fun j=>Iff.rfl) (fun j=>Iff.rfl) (w':={w with heap:=w.heap.setIfInBounds r (.map (cI 0 (lN es st e.den)).toArray (lN es st e.den).length)}) (aHa hm) rfl rfl rfl (by simp) (fun j hj=>yN hj)⟩;simp only[execOp,hop,←e1,e2,e3,IE.den,aA0 hm hst,Sem.run_bind,Result.andThen_ok,Sem.run_pure]
theorem aM1 (hc:Ctx c P ty nt){all:Array Oper}{i:Nat}{k:List KI}(o:Oper)(ho:all[i]?=some o)(hg:guardOf all S.sl o=some true)(hd:cF nt o.dst=true){mt kt et n r:Nat}(T:KeyTy P mt kt et n){x:Operand}{es:eV}(pre:List OF){post:List OF}{M:Nat→eV→OF}(hM:∀r es,M r es=OF.mp r es){I:Nat→Nat→Nat→Array Nat→OF}(hI:∀a b c d,I a b c d=OF.it a b c d)(hop:o.op=.range mt x)
  (hx:fG S.sl x=some (.o (.map (some r)))) (how:S.ow=pre++M r es::post)
  (h:∀q,Goal c K ⟨.ops all (i+1)::k,S.putO o.dst (.o (.pointer (some ⟨q,0,none⟩))) none (I q r es.length #[]::S.ow),[]⟩):Goal c K ⟨.ops all i::k,S,[]⟩:=by
 refine tG hc o ho hg (ι:=Nat) (K':=fun _=>K) (S':=fun q=>S.putO o.dst (.o (.pointer (some ⟨q,0,none⟩))) none (I q r es.length #[]::S.ow)) (p:=fun _=>True) (fun X μ a w H=>?_) (fun q _=>h q);have e1:=aI H.toP hx (fun _ _=>trivial)
 have e1:=(pI e1).symm
 have aCl:=how
 rw[hM]at aCl;have hm:rJ w r es:=(H.toP.own.at_ (OF.mp r es) (by rw[aCl];simp)).1
 refine⟨w.heap.size,.pointer (some ⟨w.heap.size,0,none⟩),w.alloc (.mapIter (some r) es.length #[] es.length),X,μ,trivial,by simp only[execOp,hop,←e1,run_range_map w mt kt et r _ _ T.map hm,Sem.run_bind,Result.andThen_ok,Sem.run_pure],?_⟩;rw[hI];have H1:=sO (f':=OF.it w.heap.size r es.length #[]) (o:=.mapIter (some r) es.length #[] es.length) H (fun j=>Iff.rfl) (heap_alloc_new w _)
 exact wH H1 (by rw[hc.hnt];exact hd) (av:=.o (.pointer (some ⟨w.heap.size,0,none⟩))) rfl
theorem aOa {es:eV}{seen:Array Nat}(h:(leftOf (cI 0 es).toArray seen).size=0):∀j,j<es.length→j∈seen:=by
 intro j hj;have h1:=kH es 0 j
 rw[List.getElem?_eq_getElem hj]at h1;simp only[Option.map_some,Nat.zero_add]at h1;have h2:leftOf (cI 0 es).toArray seen=#[]:=Array.eq_empty_of_size_eq_zero h
 unfold leftOf at h2;rw[Array.filter_eq_empty_iff]at h2;have:=h2 _ (by
  have:=List.mem_of_getElem? h1
  simpa using this)
 simpa using this
theorem aOb {es:eV}{seen:Array Nat}{e:MapEntry}(h:e∈(leftOf (cI 0 es).toArray seen).toList):∃j k v,es[j]?=some (k,v)∧j∉seen∧e=⟨iY k,.int .i64 v,j⟩:=by
 unfold leftOf at h;simp only[Array.toList_filter,List.mem_filter]at h;obtain⟨j,hj⟩:=List.getElem?_of_mem h.1;simp only[kH,Nat.zero_add]at hj;cases hx:es[j]? with
 | none=>rw[hx]at hj;cases hj
 | some x=>
  rw[hx]at hj;simp only[Option.map_some,Option.some.injEq]at hj;refine⟨j,x.1,x.2,hx,?_,hj.symm⟩;have:=h.2
  rw[←hj]at this
  simpa using this
theorem aSq (hc:Ctx c P ty nt){all:Array Oper}{i:Nat}{k:List KI}(o:Oper)(ho:all[i]?=some o)(hg:guardOf all S.sl o=some true)(hd:cF nt o.dst=true){r q:Nat}{x:Operand}{es:eV}{seen:Array Nat}{M:Nat→eV→OF}(hM:∀r es,M r es=OF.mp r es){I:Nat→Nat→Nat→Array Nat→OF}(hI:∀a b c d,I a b c d=OF.it a b c d)(hop:o.op=.next x false)
  (hx:fG S.sl x=some (.o (.pointer (some ⟨q,0,none⟩)))) (pre:List OF) {post:List OF} (how:S.ow=pre++I q r es.length seen::post) (oB:M r es∈S.ow)
  (h0:(∀j,j<es.length→j∈seen)→Goal c K ⟨.ops all (i+1)::k,S.put o.dst (.t [.b (.l false)]) none,[]⟩)
  (h1:∀j ks v,es[j]?=some (ks,v)→j∉seen→Goal c K ⟨.ops all (i+1)::k,S.putO o.dst (.t [.b (.l true),.q (iY ks),.i .i64 (.v v)]) none (pre++I q r es.length (seen.push j)::post),[]⟩):Goal c K ⟨.ops all i::k,S,[]⟩:=by
 refine tG hc o ho hg (ι:=Option (Nat × List ByteArray × Int)) (K':=fun _=>K)
  (S':=fun z=>match z with | none=>S.put o.dst (.t [.b (.l false)]) none | some (j,ks,v)=>S.putO o.dst (.t [.b (.l true),.q (iY ks),.i .i64 (.v v)]) none (pre++I q r es.length (seen.push j)::post))
  (p:=fun z=>match z with | none=>∀j,j<es.length→j∈seen | some (j,ks,v)=>es[j]?=some (ks,v)∧j∉seen) (fun X μ a w H=>?_) (fun z hz=>?_)
 rotate_left
 ·cases z with
  | none=>exact h0 hz
  | some z=>obtain⟨j,ks,v⟩:=z;exact h1 j ks v hz.1 hz.2
 have e1:=aI H.toP hx (fun _ _=>trivial)
 have e1:=(pI e1).symm
 rw[hM]at oB;simp only[hI]at how ⊢;have hm:rJ w r es:=(H.toP.own.at_ (OF.mp r es) oB).1
 have hit:w.heap[q]?=some (.mapIter (some r) es.length seen es.length):=(H.toP.own.at_ (OF.it q r es.length seen) (by rw[how];simp)).1
 rcases run_next_at (P:=P) w o.type q r es.length es.length seen (cI 0 es).toArray es.length hit hm (fun y hy=>by
   obtain⟨j,hj⟩:=List.getElem?_of_mem hy;simp only[List.toList_toArray,kH,Nat.zero_add]at hj;cases hx:es[j]? with
   | none=>rw[hx]at hj;cases hj
   | some z=>
    rw[hx]at hj;simp only[Option.map_some,Option.some.injEq]at hj;rw[←hj];exact(List.getElem?_eq_some_iff.1 hx).1) (lRf _)with⟨hl,aJx⟩ | ⟨e,he,w1,hw1,aJx⟩
 ·refine⟨none,.tuple #[.bool false],w,X,μ,aOa hl,by simp only[execOp,hop,←e1,aJx,Sem.run_bind,Result.andThen_ok,Sem.run_pure],?_⟩;exact wH H (by rw[hc.hnt];exact hd) (av:=.t [.b (.l false)]) rfl
 ·obtain⟨j,ks,v,hj,hns,rfl⟩:=aOb he;refine⟨some (j,ks,v),.tuple #[.bool true,iY ks,.int .i64 v],ChangeMaps.setBlock w1 q (.mapIter (some r) es.length (seen.push j) es.length),X,μ,⟨hj,hns⟩,by simp only[execOp,hop,←e1,aJx,Sem.run_bind,Result.andThen_ok,Sem.run_pure],?_⟩;have hh:w1.heap=w.heap:=by rcases hw1 with rfl | rfl<;>rfl
  have H1:=uD (f':=OF.it q r es.length (seen.push j)) H how (fun j=>Iff.rfl) (fun j=>Iff.rfl) (w':=ChangeMaps.setBlock w1 q (.mapIter (some r) es.length (seen.push j) es.length)) (by
    show(w1.heap.setIfInBounds q _)[q]?=_
    have:=(Array.getElem?_eq_some_iff.1 hit).1
    rw[hh];simp[this])
   (by rcases hw1 with rfl | rfl<;>rfl) (by rcases hw1 with rfl | rfl<;>rfl) (by rcases hw1 with rfl | rfl<;>rfl) (by show(w1.heap.setIfInBounds q _).size=_;rw[hh];simp) (fun j' hj'=>by
    show(w1.heap.setIfInBounds q _)[j']?=_
    rw[hh];exact Array.getElem?_setIfInBounds_ne (fun e=>hj' e.symm))
  exact wH H1 (by rw[hc.hnt];exact hd) (av:=.t [.b (.l true),.q (iY ks),.i .i64 (.v v)]) rfl
theorem aG5 (es:eV):(((cI 0 es).toArray).toList.map (·.born)).Nodup:=by
 have:∀(l:eV) (i:Nat),(cI i l).map (·.born)=List.range' i l.length:=by
  intro l
  induction l with
  | nil=>intro i;rfl
  | cons x l ih=>intro i;obtain⟨k,v⟩:=x;simp[cI,ih,List.range'_succ]
 rw[List.toList_toArray,this];exact List.nodup_range'
theorem aAr (μ:Mu):∀(l:List ByteArray),aH μ (l.map fun s=>AV.s (.v s))=some (l.map Value.string)
 | []=>rfl
 | x::l=>by simp only[List.map_cons,aH,aC,aAr μ l,SE.den]
theorem aMx (hc:Ctx c P ty nt){all:Array Oper}{i:Nat}{k:List KI}(o:Oper)(ho:all[i]?=some o)(hg:guardOf all S.sl o=some true)(hd:cF nt o.dst=true){r q j:Nat}{x:Operand}{es:eV}{seen:Array Nat}{ks:List ByteArray}{v:Int}{M:Nat→eV→OF}(hM:∀r es,M r es=OF.mp r es){I:Nat→Nat→Nat→Array Nat→OF}(hI:∀a b c d,I a b c d=OF.it a b c d)(hop:o.op=.entry x)
  (hx:fG S.sl x=some (.o (.pointer (some ⟨q,0,none⟩)))) (hit:I q r es.length (seen.push j)∈S.ow) (oB:M r es∈S.ow) (hj:es[j]?=some (ks,v))
  (h:Goal c K ⟨.ops all (i+1)::k,S.put o.dst (.t [.g (ks.map fun s=>.s (.v s)),.i .i64 (.v v)]) none,[]⟩):Goal c K ⟨.ops all i::k,S,[]⟩:=by
 refine aSv hc o ho hg hd _ (fun X μ a w H=>?_) h;have e1:=aI H.toP hx (fun _ _=>trivial)
 have e1:=(pI e1).symm
 rw[hM]at oB;rw[hI]at hit;have hm:rJ w r es:=(H.toP.own.at_ _ oB).1
 have hit:w.heap[q]?=some (.mapIter (some r) es.length (seen.push j) es.length):=(H.toP.own.at_ _ hit).1
 have he:(⟨iY ks,.int .i64 v,j⟩:MapEntry)∈(cI 0 es).toArray.toList:=by
  have:=kH es 0 j
  rw[hj]at this;have:=List.mem_of_getElem? this
  simpa using this
 have:=run_entry_at (P:=P) w q r es.length seen (cI 0 es).toArray es.length ⟨iY ks,.int .i64 v,j⟩ hit hm he (aG5 es)
 refine⟨.tuple #[iY ks,.int .i64 v],?_,?_⟩
 ·simp only[execOp,hop,←e1,this,Sem.run_bind,Result.andThen_ok,Sem.run_pure]
 ·simp only[aC,aH,aAr,IE.den]
  rfl
end
end Go.Ai
