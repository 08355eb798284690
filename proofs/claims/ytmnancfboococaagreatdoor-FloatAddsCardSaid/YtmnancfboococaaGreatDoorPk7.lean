/- Part 8 of the proof: garboardlaw17.FloatAdds returns true, whatever the input. -/
import Derived.Maps.RangeRun
import Derived.Test.YtmnancfboococaaGreatDoorPk6
set_option linter.all false
namespace Go.Ai
open Go Go.RowKit
section
variable {c:Cx}{P:Program}{ty:Nat→Option TyI}{nt:Nat}{K:List KF}{S:St}
theorem bAz {ks:List KI}(d:Nat){av:AV}(av':AV)(hp:match ks with | .cal ..::_=>false | .dcal ..::_=>false | _=>true)(hl:look S.sl d=some av)(he:∀μ,aD μ av=aD μ av')
  (h:Goal c K ⟨ks,{S with sl:=(d,av')::S.sl},[]⟩):Goal c K ⟨ks,S,[]⟩:=
 .mk0 (vU (S':={S with sl:=(d,av')::S.sl}) hp ⟨rfl,rfl,fun u b hb=>by
  by_cases e:d=u
  ·subst e;rw[bH]at hb;injection hb with hb;subst hb;exact⟨av,hl,he⟩
  ·rw[bB e]at hb;exact⟨b,hb,fun _=>rfl⟩⟩ h.so)
def aT5 (n:Nat)(xs:List Value):VF where
 p v X w:=∃(a:Option (Nat × Nat)) (cap:Nat),v=.slice (a.map fun x=>⟨x.1,x.2,none⟩) n cap∧n≤cap∧match a with
  | none=>n=0∧cap=0∧xs=[]
  | some (b,o)=>X b∧∃cs,∃ty:Nat × Nat × Nat,w.heap[b]?=some (.cells cs ty.1 ty.2)∧∀i x,xs[i]?=some x→cs[o+i]?=some x
 st v X X' w w' hs hw h:=by
  obtain⟨a,cap,h1,h2,h3⟩:=h;refine⟨a,cap,h1,h2,?_⟩
  match a,h3 with
  | none,h3=>exact h3
  | some (b,o),⟨h3,cs,ty,h4,h5⟩=>exact⟨hs _ h3,cs,ty,by rw[hw _ h3];exact h4,h5⟩
def rowS (n:Nat)(l:List ByteArray):VF:=aT5 n (l.map Value.string)
structure RowV where
 f:Nat→ByteArray
 cap:Nat
theorem gV {ks:List KI}(d:Nat){av:AV}(N M:Nat)(l:List ByteArray)(hM:M=l.length)(hp:iN ks=true)(hl:look S.sl d=some av)(hr:∀X μ a w v,Sim c K S X μ a w→aD μ av=some v→(rowS N l).p v X w)
  (h:∀f cap,(∀i x,l[i]?=some x→f i=x)→N≤cap→Goal c K ⟨ks,{S with sl:=(d,.sl S.hp.length 0 (.n N) cap)::S.sl,hp:=S.hp++[.xs M f]},[]⟩):Goal c K ⟨ks,S,[]⟩:=by
 refine iA (ι:=RowV) (K':=fun _=>K) (S':=fun x=>{S with sl:=(d,.sl S.hp.length 0 (.n N) x.cap)::S.sl,hp:=S.hp++[.xs M x.f]}) (p:=fun x=>(∀i y,l[i]?=some y→x.f i=y)∧N≤x.cap) hp ?_ (fun x hx=>h x.f x.cap hx.1 hx.2);intro X μ a w H;obtain⟨v,hv,hs⟩:=H.toP.slots d av trivial hl;obtain⟨ad,cap,e1,e2,e3⟩:=hr X μ a w v H hv;subst hM;have hok:(Blk.xs l.length (fun i=>l.getD i default)).ok X (μ.upd S.hp.length (.ext ad)) w (.ext ad):=by
  match ad,e3 with
  | none,e3=>have:=e3.2.2;simp at this;simp[Blk.ok,this]
  | some (b,o),⟨q1,cs,ty,q2,q3⟩=>exact⟨q1,cs,ty,q2,fun i hi=>by rw[q3 i (.string l[i]) (by simp[hi])];simp[hi]⟩
 refine⟨⟨fun i=>l.getD i default,cap⟩,X,μ.upd S.hp.length (.ext ad),⟨fun i y hy=>by simp[List.getD_eq_getElem?_getD,hy],e2⟩,?_⟩;have H1:=pP H (blk:=.xs l.length (fun i=>l.getD i default)) (m:=.ext ad) (fun b e=>by cases e) hok
 refine iQ (av:=av) H1 hl ?_;rw[gK (Mu.le_upd (H.dom _ (lRf _))) av v hv];have hz:(0:Int)≤(IE.n N).den:=by simp[IE.den]
 refine(gP (len:=.n N) (a:=ad) (by simp[atS,Mu.upd_same,MV.atS]) hz (fun e=>?_)).trans ?_
 rotate_left
 ·rw[e1];simp[IE.den]
 ·subst e;simp only at e3;simp[IE.den,e3.1,e3.2.1]
def OF.rv (v:Value)(base e sz n:Nat)(xs:List Value):OF where
 F _ b:=v.ownBlock=some b
 p _ w:=w.ownsRow base e sz v n xs
 st _ _ w w' _ hk h:=by
  refine⟨⟨h.1,?_⟩,fun _=>Iff.rfl⟩
  rcases h.2 with hn | ⟨g,cap,cur,rfl,hb,hg,hr⟩
  ·exact .inl hn
  ·exact .inr ⟨g,cap,cur,rfl,hb,by rw[hk g (by simp[Value.ownBlock])];exact hg,hr⟩
theorem OFr.rv (m:Nat)(v:Value)(base e sz n:Nat)(xs:List Value):OFr m (OF.rv v base e sz n xs):=⟨fun _ _ h=>⟨h,fun _ h=>h⟩⟩
theorem yZ {P:Program}{w:World}(base:Nat)(t ty e:TypeId)(i:TypeInfo)(z:Value)(sz bytes:Nat)(ht:P.underlying t=some (.slice e))(hi:P.info? e=some i)(hz:i.zero=some z)
  (mI:i.size=sz) (hby:i.bytes=bytes) (hzs:z.cells.size=sz) (h0:0<sz) (v:Value) (n:Nat) (xs:List Value) (dX:w.ownsRow base e sz v n xs)
  (ad:Addr) (m c':Nat) (news:List Value) (hl:news.length=m*sz) (uT:∀j u,news[j]?=some u→w.cell? (ad.add j)=some u) (h1:∀u∈news,u.oneCell'=true)
  (h63:n+m≤maxLen) (tH:(n+m)*bytes≤140737488355328) (aPp:base≤w.heap.size):
  ∃v' w',(Builtin.append_ #[t,t] ty #[v,.slice (some ad) m c']).run P w=.ok v' w'∧w'.ownsRow base e sz v' (n+m) (xs++news)∧w.grownBy w' v.ownBlock∧(v'.ownBlock=v.ownBlock∨v'.ownBlock=some w.heap.size):=by
 obtain⟨v',w',hr,h2,h3,h4⟩:=run_append_own (P:=P) w base t ty e i z sz bytes ht hi hz mI hby hzs h0 v n xs dX ad m c' news hl uT h1 h63 tH aPp;refine⟨v',w',hr,h2,h3,?_⟩;have bCo:n+m≤9223372036854775807:=by simpa[maxLen]using h63
 rcases dX.2 with⟨rfl,rfl⟩ | ⟨g,cap,cur,rfl,hbg,hg,hnc,hcm,hcs,bAb⟩
 ·by_cases hm:m=0
  ·left;rw[h4.2 ⟨rfl,hm⟩]
  ·have hr':=run_append_nil (P:=P) w t ty e i z ht hi hz ad m c' news (by rw[mI];exact hl) uT (by omega) (by omega) (by rw[hby];have hb:=tH;simp only[Nat.zero_add]at hb;omega)
   rw[hr']at hr;injection hr with hr _;subst hr;exact .inr rfl
 ·by_cases aK4:n+m≤cap
  ·have hr':=run_append_room (P:=P) w t ty e i ht hi g n cap cur hg ad m c' news (by rw[mI];exact hl) uT h1 aK4 (by rw[mI,hl,hcs,←Nat.add_mul];exact Nat.mul_le_mul_right _ aK4)
   rw[hr']at hr;injection hr with hr _;subst hr;exact .inl rfl
  ·have holds:∀j u,xs[j]?=some u→w.cell? ((⟨g,0,none⟩:Addr).add j)=some u:=dX.cells (g:=g) rfl
   have hr':=run_append_grow (P:=P) w t ty e i z ht hi hz ⟨g,0,none⟩ n cap xs (by rw[mI];exact dX.1) holds ad m c' news (by rw[mI];exact hl) uT (by omega) (by omega) (by rw[hby];exact growslice_fits (by omega) tH)
   rw[hr']at hr;injection hr with hr _;subst hr;exact .inr rfl
variable {X:Nat→Prop}{μ:Mu}{a:Act}{w:World}
theorem aYd {d:Option Nat}(hd:cJ c.nt d=true){ow':List OF}{e sz:Nat}{a':Option Addr}{n' aU:Nat}{l':List Value}{w':World}{r:Option Nat}
  (H:Sim c K S X μ a w) (hg:w.grownBy w' r) (iS:w'.ownsRow c.B.heap.size e sz (.slice a' n' aU) n' l')
  (nA:∀f,f∈ow'→f∈S.ow) (hap:ow'.Pairwise fun f g=>∀b,f.F μ b→¬g.F μ b) (hr:∀b,r=some b→∃f,f∈S.ow∧f.F μ b) (hr':∀f,f∈ow'→∀b,r=some b→¬f.F μ b)
  (qX:∀b,(Value.slice a' n' aU).ownBlock=some b→r=some b∨w.heap.size≤b):
  Sim c K (S.putO d (.xs a' n' aU) none (OF.rv (.slice a' n' aU) c.B.heap.size e sz n' l'::ow')) X μ (a.put d (.slice a' n' aU)) w':=by
 have P:=H.toP
 have hF:∀f,f∈S.ow→∀b,f.F μ b→c.B.heap.size≤b∧b<w.heap.size∧¬X b∧∀k,μ k≠some (.own b):=fun f hf=>(P.own.at_ f hf).2
 have hB:c.B.heap.size≤w.heap.size:=P.bel.size
 have yA:∀b,(Value.slice a' n' aU).ownBlock=some b→(∃f,f∈S.ow∧f.F μ b∧r=some b)∨w.heap.size≤b:=by
  intro b hb
  rcases qX b hb with h | h
  ·obtain⟨f,h1,h2⟩:=hr b h;exact .inl ⟨f,h1,h2,h⟩
  ·exact .inr h
 have hlt:∀b,(Value.slice a' n' aU).ownBlock=some b→b<w'.heap.size:=fun b hb=>(World.ownsRow.lt iS b hb).2
 refine(kW (Kn:=[]) H hd (av:=.xs a' n' aU) (nb:=none) (ow:=OF.rv (.slice a' n' aU) c.B.heap.size e sz n' l'::ow') (v:=.slice a' n' aU) (X':=X) (μ':=μ) (w':=w') ⟨below_grown hg hB (fun b hb=>?_),fun b hb hnf=>?_,rfl,rfl,fun _ h=>h,fun _ h=>.inl h,?_⟩ (fun f hf=>by cases hf))
 ·obtain⟨f,h1,h2⟩:=hr b hb;exact(hF f h1 b h2).1
 ·refine hg.block b hb (fun e=>?_);obtain⟨f,h1,h2⟩:=hr b e.symm;exact hnf f h1 h2
 ·refine⟨fun f hf=>?_,List.Pairwise.cons (fun g hg' b hb hb'=>?_) hap⟩
  ·rcases List.mem_cons.1 hf with e' | e'
   ·subst e';refine⟨iS,fun b hb=>?_⟩;have hb:(Value.slice a' n' aU).ownBlock=some b:=hb
    rcases yA b hb with⟨f,h1,h2,_⟩ | e'
    ·obtain⟨q1,q2,q3,q4⟩:=hF f h1 b h2;exact⟨q1,hlt b hb,q3,q4⟩
    ·exact⟨lTr hB e',hlt _ hb,fun hx=>by have:=P.xlt _ hx;omega,fun k hk=>by have:=(P.loc k _ hk).2.2;omega⟩
   ·have h0:=nA f e'
    obtain⟨h1,h2⟩:=P.own.at_ f h0;refine⟨(f.st μ μ w w' (Mu.vle_refl _) (fun k hk=>hg.block k (h2 k hk).2.1 (fun e2=>hr' f e' k e2.symm hk)) h1).1,fun b hb=>?_⟩;obtain⟨q1,q2,q3,q4⟩:=h2 b hb;exact⟨q1,Nat.lt_of_lt_of_le q2 hg.size,q3,q4⟩
  ·have hb:(Value.slice a' n' aU).ownBlock=some b:=hb
   rcases yA b hb with⟨f,h1,h2,h3⟩ | e'
   ·exact hr' g hg' b h3 hb'
   ·have:=(hF g (nA g hg') b hb').2.1;omega
theorem bW (hc:Ctx c P ty nt){all:Array Oper}{i:Nat}{k:List KI}(o:Oper)(ho:all[i]?=some o)(hg:guardOf all S.sl o=some true)(hd:cJ nt o.dst=true){t e bt j n cap:Nat}{x y:Operand}{a0:Option Addr}{ti ei:TyI}{xs news:List Value}{cells:List AV}{pre post:List OF}{bytes sz m:Nat}{G:Option Addr→Nat→Nat→List Value→OF}(hG:∀a n cap l,G a n cap l=OF.rv (.slice a n cap) c.B.heap.size e sz n l)
  (hop:o.op=.call {callee:=.builtin .append,args:=#[x,y],argTypes:=#[t,t]}) (hx:eV S.sl x=some (.xs a0 n cap)) (hy:eV S.sl y=some (.sl j 0 (.l (m:Int)) m)) (hm:Nat.ble 1 m=true) (hj:S.hp[j]?=some (.c bt cells)) (gQ:aG iD cells=some news) (oD:cells.all AV.one=true) (hlen:cells.length=m*sz) (h0:Nat.ble 1 sz=true) (how:S.ow=pre++G a0 n cap xs::post)
  (hti:ty t=some ti) (hk:ti.kind=.slice e sz) (hei:ty e=some ei) (hzs:ei.zero.length=sz) (hby:(P.info? e).map (·.bytes)=some bytes) (hle:(n+m)*bytes≤140737488355328) (h63:n+m≤9223372036854775807)
  (h:∀a' n' aU l',n'=n+m→l'=xs++news→Goal c K ⟨.ops all (i+1)::k,S.putO o.dst (.xs a' n' aU) none (G a' n' aU l'::(pre++post)),[]⟩):Goal c K ⟨.ops all i::k,S,[]⟩:=by
 refine sV hc o ho hg (ι:=RowZ) (K':=fun _=>K) (S':=fun z=>S.putO o.dst (.xs z.a (n+m) z.cap) none (G z.a (n+m) z.cap (xs++news)::(pre++post))) (p:=fun _=>True) (fun X μ a w H=>?_) (fun z _=>h z.a (n+m) z.cap _ rfl rfl);have P':=H.toP
 have hm1:1≤m:=lbl hm
 have hs1:1≤sz:=lbl h0
 rw[hG]at how;have e1:=lG (aI H.toP hx (fun _ _=>trivial))
 obtain⟨b,o1,hb1,e2⟩:=mH (aI H.toP hy (fun _ _=>trivial)) (by simp only[IE.den];omega);simp only[IE.den]at e2;obtain⟨mv,hv1,hv2⟩:=vA hb1;have hok:=P'.heap j _ mv hj hv1
 match mv,hv2,hok,hv1 with
 | .own b',hv2,hok,hv1=>
  simp only[MV.at,Option.some.injEq,Prod.mk.injEq]at hv2;obtain⟨rfl,rfl⟩:=hv2;obtain⟨vs,hvs,sO⟩:=hok;rw[cV gQ]at hvs;injection hvs with hvs
  subst hvs;have T:=c.tok t ti (by rw[hc.hty];exact hti)
  have hu:=T.und
  rw[hk]at hu;obtain⟨u1,tj,u2,u3⟩:=hu;obtain⟨tj',z,h1,h2,h3,h4,h5⟩:=(c.tok e ei (by rw[hc.hty];exact hei)).info;rw[u2]at h1;injection h1 with h1;subst h1
  have hzs:z.cells.size=sz:=by have:=aZ h4;rw[hzs]at this;simpa using this
  have hb2:tj.bytes=bytes:=by rw[←hc.hP,u2]at hby;simpa using hby
  have hf0:OF.rv (.slice a0 n cap) c.B.heap.size e sz n xs∈S.ow:=by rw[how];simp
  obtain⟨hr0,hr1⟩:=P'.own.at_ _ hf0;have hr0:w.ownsRow c.B.heap.size e sz (.slice a0 n cap) n xs:=hr0
  have hnl:news.length=m*sz:=by rw[aZ gQ,hlen]
  obtain⟨v',w',q1,q2,q3,q4⟩:=yZ (P:=c.P) c.B.heap.size t o.type e tj z sz bytes u1 u2 h3 u3 hb2 hzs (by omega) _ _ _ hr0 ⟨b',0+0,none⟩ m m news hnl (fun q u hq=>by
    simp[add_eq,World.cell?,sO,hq]) (sB oD gQ) (by simpa[maxLen]using h63) hle P'.bel.size
  have hv':∃a' aU,v'=.slice a' (n+m) aU:=by
   rcases q2.2 with⟨h6,h7⟩ | ⟨g,aU,cur,h6,_⟩
   ·omega
   ·exact⟨_,_,h6⟩
  obtain⟨a',aU,rfl⟩:=hv';refine⟨⟨a',aU⟩,.slice a' (n+m) aU,w',X,μ,trivial,?_,?_⟩
  ·rw[←hc.hP];simp only[execOp,hop,resolve,invoke,builtin,Sem.run_bind,Sem.run_pure,Result.andThen_ok,List.map_toArray,List.map_cons,List.map_nil,e1,e2];rw[Int.toNat_natCast,q1]
   rfl
  ·have hap:=P'.own.apart
   rw[how,List.pairwise_append]at hap;obtain⟨p1,p2,p3⟩:=hap;simp only[hG];have nA:∀f,f∈pre++post→f∈S.ow:=fun f hf=>by
    rw[how]
    rcases List.mem_append.1 hf with h | h
    ·simp[h]
    ·simp[h]
   refine aYd (r:=(Value.slice a0 n cap).ownBlock) (by rw[hc.hnt];exact hd) H q3 q2 nA (List.pairwise_append.2 ⟨p1,List.Pairwise.of_cons p2,fun f hf g hg=>p3 f hf g (List.mem_cons_of_mem _ hg)⟩) (fun b hb=>⟨_,hf0,hb⟩) (fun f hf b hb hb'=>?_) (fun b hb=>?_)
   ·rcases List.mem_append.1 hf with h | h
    ·exact p3 f h _ List.mem_cons_self b hb' hb
    ·exact List.rel_of_pairwise_cons p2 h b hb hb'
   ·rcases q4 with h6 | h6
    ·left;rw[←h6];exact hb
    ·right;rw[h6]at hb;injection hb with hb;exact Nat.le_of_eq hb
theorem fE {ks:List KI}{e sz:Nat}{G:Option Addr→Nat→Nat→List Value→OF}(hG:∀a n cap l,G a n cap l=OF.rv (.slice a n cap) c.B.heap.size e sz n l)(hp:okc ks=true)
  (h:Goal c K ⟨ks,{S with ow:=G none 0 0 []::S.ow},[]⟩):Goal c K ⟨ks,S,[]⟩:=by
 rw[hG]at h;refine nM hp (fun X μ a w H=>?_) h rfl;have P:=H.toP
 refine⟨X,μ,⟨P.dfr,P.size,P.slots,P.heap,P.all,P.inj,P.loc,P.xlt,P.xnew,P.xold,P.bel,P.kf,?_⟩,H.dom⟩;refine⟨fun f hf=>?_,List.Pairwise.cons (fun g hg b hb=>?_) P.own.apart⟩
 ·rcases List.mem_cons.1 hf with e | e
  ·subst e;exact⟨World.ownsRow_nil _ _ _ _,fun b hb=>by cases hb⟩
  ·exact P.own.at_ f e
 ·cases hb
theorem eI {ks:List KI}{v:Value}{base e sz n:Nat}{l:List Value}{g:OF}{pre post:List OF}(hg:g=OF.rv v base e sz n l)(h0:Nat.ble 1 sz=true)(hp:okc ks=true)(how:S.ow=pre++g::post)(h:Goal c (KF.cst v (aT5 n l)::K) ⟨ks,{S with ow:=pre++post},[]⟩):Goal c K ⟨ks,S,[]⟩:=by
 refine nM hp (fun X μ a w H=>?_) h rfl;have P:=H.toP
 rw[hg]at how;have hf0:OF.rv v base e sz n l∈S.ow:=by rw[how];simp
 obtain⟨hr0,hr1⟩:=P.own.at_ _ hf0;have hap:=P.own.apart
 rw[how,List.pairwise_append]at hap;obtain⟨p1,p2,p3⟩:=hap;have hr1:∀b,v.ownBlock=some b→c.B.heap.size≤b∧b<w.heap.size∧¬X b∧∀k,μ k≠some (.own b):=hr1
 let X':Nat→Prop:=fun b=>X b∨v.ownBlock=some b
 have nA:∀b,X b→X' b:=fun b h=>Or.inl h
 have hX:∀b,X' b→X b∨v.ownBlock=some b:=fun b h=>h
 refine⟨X',μ,rJ (S:={S with ow:=pre++post}) (f:=KF.cst v (aT5 n l)) ⟨⟨P.dfr,P.size,P.slots,fun k blk m hk hm=>Blk.ok_congr (fun _=>rfl) nA (P.heap k blk m hk hm),P.all,P.inj,fun k b hk=>?_,fun b hb=>(hX b hb).elim (P.xlt b) (fun h=>(hr1 b h).2.1),fun b hb=>(hX b hb).elim (P.xnew b) (fun h=>Or.inr (hr1 b h).1),fun b hb=>nA b (P.xold b hb),P.bel,jN P.kf nA (Mu.vle_refl _) (fun _ _=>rfl),?_⟩,H.dom⟩ ?_⟩
 ·obtain⟨q1,q2,q3⟩:=P.loc k b hk;exact⟨q1,fun hb=>hb.elim q2 (fun h=>(hr1 b h).2.2.2 k hk),q3⟩
 ·refine⟨fun f hf=>?_,List.pairwise_append.2 ⟨p1,List.Pairwise.of_cons p2,fun f hf g hg=>p3 f hf g (List.mem_cons_of_mem _ hg)⟩⟩;have hf':f∈S.ow:=by
   rw[how]
   rcases List.mem_append.1 hf with h | h<;>simp[h]
  obtain⟨h1,h2⟩:=P.own.at_ f hf';refine⟨h1,fun b hb=>?_⟩;obtain⟨q1,q2,q3,q4⟩:=h2 b hb;refine⟨q1,q2,fun hx=>hx.elim q3 (fun h=>?_),q4⟩
  rcases List.mem_append.1 hf with h' | h'
  ·exact p3 f h' _ List.mem_cons_self b hb h
  ·exact List.rel_of_pairwise_cons p2 h' b h hb
 ·have hr0:w.ownsRow base e sz v n l:=hr0
  have hs1:1≤sz:=lbl h0
  show(aT5 n l).p v _ w
  rcases hr0.2 with⟨rfl,h2⟩ | ⟨g,cap,cur,rfl,_,hg,hnc,_,hcs,htk⟩
  ·have:l=[]:=List.eq_nil_of_length_eq_zero (by rw[hr0.1,h2,Nat.zero_mul])
   subst this;subst h2;exact⟨none,0,rfl,lRf _,rfl,rfl,rfl⟩
  ·refine⟨some (g,0),cap,rfl,hnc,.inr rfl,cur,(e,(0,0)),hg,fun i x hx=>?_⟩;have h3:(cur.toList.take (n*sz))[i]?=some x:=by rw[htk];exact hx
   rw[List.getElem?_take]at h3;split at h3
   ·simpa using h3
   ·cases h3
theorem aMa {n0:Nat}{D:Nat→Prop}{o:Oper}{av:AV}{bt:Nat}{cells:List AV}{Kn:List KF}{ow:List OF}(h:Cert c K n0 D S o av (some (.c bt cells)) Kn ow):Cert c K n0 D S o av (some (.d bt cells.length)) Kn ow:=by
 intro X μ a w next Q H hfr hn
 refine h X μ a w next Q H hfr (fun X' μ' v w' hp hk=>hn X' μ' v w' ⟨hp.bel,hp.keep,hp.val,?_,hp.sub,hp.new,hp.own⟩ hk)
 obtain⟨m,e1,e2,e3⟩:=hp.blk;refine⟨m,e1,?_,e3⟩;cases m with
 | ext a=>exact e2.elim
 | val v=>exact e2.elim
 | own b=>
  obtain⟨vs,q1,q2⟩:=e2;exact⟨vs,aZ q1,q2⟩
theorem hJ (hc:Ctx c P ty nt){all:Array Oper}{i n0:Nat}{K0:List KF}{k:List KI}(o:Oper)(ho:all[i]?=some o)(hg:guardOf all S.sl o=some true)(hd:cJ nt o.dst=true){av:AV}{bt:Nat}{cells:List AV}(hr:fop ty n0 (fl S o) o.op=some ⟨av,some (.c bt cells),[]⟩)
  (h:Goal c K ⟨.dops all (i+1) n0 K0::k,S.put o.dst av (some (.d bt cells.length)),[]⟩):Goal c K ⟨.dops all i n0 K0::k,S,[]⟩:=by
 have hs:DPath c all n0 K0 k (i+1) (S.put o.dst av (some (.d bt cells.length))) K:=h.so
 refine .mk0 (show DPath c all n0 K0 k i S K from ?_);refine DPath.op (Kn:=[]) (ow:=(fl S o).ow) ho hg (by rw[hc.hnt];exact hd) (aMa (jI (r:=⟨av,some (.c bt cells),[]⟩) (by rw[hc.hty];exact hr) trivial (fun t ht=>by simp only[uM,dP,List.mem_append];exact .inl (eR (by simpa using ht))))) (fun _=>rfl) ?_ hs;rw[show(if cD o then(fl S o).ow else S.ow)=S.ow by unfold fl;split<;>rfl];exact Wk.refl _
theorem aE1 (hc:Ctx c P ty nt){all:Array Oper}{i n0:Nat}{K0:List KF}{k:List KI}{ps:List Ps}(hd:yK all i=true)(hi:i≤all.size)(hps:jO ty S all (List.range' i (all.size - i))=some ps)(n:Nat)
  (h:Goal c K (run ty nt K n (.ops all all.size::k) (S.setPs ps) [])):Goal c K ⟨.dops all i n0 K0::k,S,[]⟩:=
 .mk0 (DPath.stop hi (.inr (.inl ⟨hd,ps,by rw[hc.hty];exact hps,dQ hc n h⟩)))
theorem aLm (hc:Ctx c P ty nt){all:Array Oper}{i n0:Nat}{K0:List KF}{k:List KI}{ps:List Ps}(m2:Nat)(hd:yL all i m2=true)(hi:i≤all.size)(h2:m2≤all.size)(hps:jO ty S all (List.range' i (m2 - i))=some ps)(n:Nat)
  (h:Goal c K (run ty nt K n (.ops all m2::k) (S.setPs ps) [])):Goal c K ⟨.dops all i n0 K0::k,S,[]⟩:=
 .mk0 (DPath.stop hi (.inr (.inr (.inr ⟨m2,hd,h2,ps,by rw[hc.hty];exact hps,dQ hc n h⟩))))
def aZd (j:Nat):List KI→Bool
 | .dops _ i _ _::_=>i==j
 | _=>false
def aT6 (ty:Nat→Option TyI)(nt:Nat)(K:List KF)(j:Nat):Nat→List KI→St→List Obl→Cfg
 | 0,ks,S,ob=>⟨ks,S,ob⟩
 | n+1,ks,S,ob=>if aZd j ks then⟨ks,S,ob⟩else match aHr ty nt K ks S with
  | some r=>aT6 ty nt K j n r.ks r.S (match r.ob with | []=>ob | o=>ob++o)
  | none=>⟨ks,S,ob⟩
theorem aHf (ty:Nat→Option TyI)(nt:Nat)(K:List KF)(j:Nat):∀(n:Nat) (ks:List KI) (S:St) (ob:List Obl),∃m,aT6 ty nt K j n ks S ob=run ty nt K m ks S ob
 | 0,ks,S,ob=>⟨0,rfl⟩
 | n+1,ks,S,ob=>by
  simp only[aT6];split
  ·exact⟨0,rfl⟩
  ·split
   ·rename_i r hr;obtain⟨m,hm⟩:=aHf ty nt K j n r.ks r.S (match r.ob with | []=>ob | o=>ob++o);exact⟨m+1,by simp only[run,hr];exact hm⟩
   ·exact⟨0,rfl⟩
theorem aVb (hc:Ctx c P ty nt)(j n:Nat){ks:List KI}(h:Goal c K (aT6 ty nt K j n ks S [])):Goal c K ⟨ks,S,[]⟩:=by
 obtain⟨m,hm⟩:=aHf ty nt K j n ks S [];rw[hm]at h;exact gA hc m h
theorem yT (hc:Ctx c P ty nt){all:Array Oper}{i n0:Nat}{K0:List KF}{k:List KI}(hd:rW all i=true)(hi:i≤all.size)(h:Goal c K ⟨.ord all (firstM all.size i)::k,S,[]⟩):Goal c K ⟨.dops all i n0 K0::k,S,[]⟩:=
 .mk0 (DPath.stop hi (.inr (.inr (.inl ⟨hd,h.so⟩))))
theorem bR {all:Array Oper}{L:Array Bool}{k:List KI}(l:List Nat)(hl:Region.ready .any all L=l)(hne:l.isEmpty=false)
  (h:∀i,i∈l→∃o,all[i]?=some o∧o.guard=none∧Goal c K ⟨.ops #[o] 0::.ord all (L.setIfInBounds i true)::k,S,[]⟩):Goal c K ⟨.ord all L::k,S,[]⟩:=by
 refine .mk0 (aDl (fun h0=>?_) (fun i hi=>?_))
 ·rw[hl]at h0;subst h0;cases hne
 ·obtain⟨o,h1,h2,h3⟩:=h i (hl▸hi);exact⟨o,h1,h2,h3.so⟩
theorem tR {all:Array Oper}{L:Array Bool}{k:List KI}(hl:Region.ready .any all L=[])(hk:iN k=true)(h:Goal c K ⟨k,S,[]⟩):Goal c K ⟨.ord all L::k,S,[]⟩:=by
 refine .mk0 (aDl (fun _=>mN hk h) (fun i hi=>?_));rw[hl]at hi;cases hi
end
end Go.Ai
namespace Go.Ai
open Go Go.RowKit
abbrev fM:=List (List ByteArray × Int)
def iU (k:List ByteArray):Value:=.agg (k.map Value.string).toArray
def cO:Nat→fM→List MapEntry
 | _,[]=>[]
 | i,(k,v)::l=>⟨iU k,.int .i64 v,i⟩::cO (i+1) l
def eU (k:List ByteArray):fM→Nat→Option (Nat × Int)
 | [],_=>none
 | (q,v)::l,i=>if k=q then some (i,v)else eU k l (i+1)
def fK (es:fM)(k:List ByteArray):Int:=match eU k es 0 with | some (_,v)=>v | none=>0
def fR (es:fM)(k:List ByteArray):fM:=match eU k es 0 with | some _=>es | none=>es++[(k,0)]
def lC (es:fM)(k:List ByteArray):Nat:=match eU k es 0 with | some (i,_)=>i | none=>es.length
def lN:fM→Nat→Int→fM
 | [],_,_=>[]
 | (k,_)::l,0,v=>(k,v)::l
 | x::l,n+1,v=>x::lN l n v
def iG (k:List ByteArray)(d:Int):fM→fM
 | []=>[(k,d)]
 | (q,v)::l=>if k=q then(q,v+d)::l else(q,v)::iG k d l
theorem kD:∀(l:fM) (i j:Nat),(cO i l)[j]?=(l[j]?).map fun x=>⟨iU x.1,.int .i64 x.2,i+j⟩
 | [],i,j=>by simp[cO]
 | (k,v)::l,i,0=>by simp[cO]
 | (k,v)::l,i,j+1=>by
  simp only[cO,List.getElem?_cons_succ,kD l (i+1) j];rw[show i+1+j=i+(j+1) by omega]
theorem aCw:∀(l:fM) (i:Nat),(cO i l).length=l.length
 | [],_=>rfl
 | _::l,i=>by simp[cO,aCw l (i+1)]
theorem aCv:∀(l m:fM) (i:Nat),cO i (l++m)=cO i l++cO (i+l.length) m
 | [],m,i=>by simp[cO]
 | (k,v)::l,m,i=>by
  simp only[List.cons_append,cO,aCv l m (i+1),List.length_cons];rw[show i+1+l.length=i+(l.length+1) by omega]
theorem nZ:∀{k:List ByteArray} {l:fM} {i j:Nat} {v:Int},eU k l i=some (j,v)→i≤j∧j<i+l.length∧l[j - i]?=some (k,v)
 | k,[],i,j,v,h=>by cases h
 | k,(q,u)::l,i,j,v,h=>by
  simp only[eU]at h;split at h
  ·rename_i e;injection h with h;injection h with h1 h2
   subst h1;subst h2;subst e;simp
  ·obtain⟨h1,h2,h3⟩:=nZ h;refine⟨by omega,by simp;omega,?_⟩;obtain⟨m,hm⟩:∃m,j - i=m+1:=⟨j - i - 1,by omega⟩;rw[hm,List.getElem?_cons_succ,←h3]
   congr 1;omega
theorem aC0:∀(k:List ByteArray) (l:fM) (i:Nat),eU k l i=none→eU k (l++[(k,0)]) i=some (i+l.length,0)
 | k,[],i,_=>by simp[eU]
 | k,(q,v)::l,i,h=>by
  simp only[eU]at h;split at h
  ·cases h
  ·rename_i e;simp only[List.cons_append,eU,e,if_false,aC0 k l (i+1) h,List.length_cons];rw[show i+1+l.length=i+(l.length+1) by omega]
theorem aDm (es:fM)(k:List ByteArray):lC es k<(fR es k).length:=by
 unfold lC fR;cases h:eU k es 0 with
 | none=>simp
 | some x=>obtain⟨j,v⟩:=x;have:=nZ h;simp;omega
theorem aAk (es:fM)(k:List ByteArray):fK (fR es k) k=fK es k:=by
 unfold fR;cases h:eU k es 0 with
 | none=>simp only[fK,aC0 k es 0 h,h]
 | some x=>rfl
theorem vP:∀(k:List ByteArray) (d:Int) (es:fM) (i:Nat),(match eU k es i with | some (j,v)=>lN es (j - i) (v+d) | none=>lN (es++[(k,0)]) es.length (0+d))=iG k d es
 | k,d,[],i=>by simp[eU,lN,iG]
 | k,d,(q,v)::l,i=>by
  by_cases e:k=q
  ·simp only[eU,e,if_true,iG,Nat.sub_self,lN]
  ·have ih:=vP k d l (i+1)
   simp only[eU,e,if_false,iG];cases h:eU k l (i+1)with
   | none=>
    rw[h]at ih;simp only[List.cons_append,List.length_cons,lN]at ih ⊢;rw[ih]
   | some x=>
    obtain⟨j,u⟩:=x;rw[h]at ih;have:=nZ h
    simp only at ih ⊢;rw[show j - i=(j - (i+1))+1 by omega,lN,ih]
theorem aHj (es:fM)(k:List ByteArray)(d:Int):lN (fR es k) (lC es k) (fK es k+d)=iG k d es:=by
 have:=vP k d es 0
 unfold fR lC fK;cases h:eU k es 0 with
 | none=>rw[h]at this;exact this
 | some x=>obtain⟨j,v⟩:=x;rw[h]at this;simpa using this
theorem aHk:∀(l:fM) (n:Nat) (v:Int),(lN l n v).length=l.length
 | [],_,_=>rfl
 | _::_,0,_=>rfl
 | _::l,n+1,v=>by simp[lN,aHk l n v]
theorem aDh:∀(l:fM) (n i:Nat) (v:Int),cO i (lN l n v)=(cO i l).modify n fun e=>{e with val:=.int .i64 v}
 | [],n,i,v=>by simp[lN,cO]
 | (k,u)::l,0,i,v=>by simp[lN,cO]
 | (k,u)::l,n+1,i,v=>by simp[lN,cO,aDh l n (i+1) v]
def iC (n:Nat)(es:fM):Prop:=∀x,x∈es→x.1.length=n
theorem iC.touch {n:Nat}{es:fM}{k:List ByteArray}(h:iC n es)(hk:k.length=n):iC n (fR es k):=by
 unfold fR;split
 ·exact h
 ·intro x hx
  rcases List.mem_append.1 hx with e | e
  ·exact h x e
  ·simp at e;subst e;exact hk
theorem iC.add {n:Nat}{k:List ByteArray}{d:Int}(hk:k.length=n):∀{es:fM},iC n es→iC n (iG k d es)
 | [],_=>by intro x hx;simp[iG]at hx;subst hx;exact hk
 | (q,v)::l,h=>by
  have hq:=h (q,v) (by simp)
  have hl:iC n l:=fun x hx=>h x (List.mem_cons_of_mem _ hx)
  unfold iG;split
  ·intro x hx
   rcases List.mem_cons.1 hx with e | e
   ·subst e;exact hq
   ·exact hl x e
  ·intro x hx
   rcases List.mem_cons.1 hx with e | e
   ·subst e;exact hq
   ·exact iC.add hk hl x e
def isStr (P:Program)(t:Nat):Bool:=match P.underlying t with | some (.struct _)=>true | _=>false
theorem aQj {P:Program}{t:Nat}(h:isStr P t=true):∃fs,P.underlying t=some (.struct fs):=by
 unfold isStr at h;split at h
 ·rename_i fs e;exact⟨fs,e⟩
 ·cases h
structure KeyTy (P:Program)(mt kt et n:Nat):Prop where
 map:P.underlying mt=some (.map kt et)
 lv:leaves P 12 kt=some (List.replicate n .s)
 strB:isStr P kt=true
 chk:∀(a:List ByteArray) (b:Bool) (w:World),a.length=n→(Instr.checkKey b 10000 kt (iU a)).run P w=.ok () w
 zero:∀w,(zeroValue et).run P w=.ok (.int .i64 0) w
section
variable {P:Program}{mt kt et n:Nat}
theorem tL:∀(a:List ByteArray),dA (a.map Value.string)=some (List.replicate a.length .s)
 | []=>rfl
 | x::l=>by simp[dA,pV,tL l,List.replicate_succ]
theorem rD:∀{a b:List ByteArray},a.map Value.string=b.map Value.string→a=b
 | [],[],_=>rfl
 | [],_::_,h=>by cases h
 | _::_,[],h=>by cases h
 | x::a,y::b,h=>by
  simp only[List.map_cons,List.cons.injEq,Value.string.injEq]at h;rw[h.1,rD h.2]
theorem KeyTy.str (T:KeyTy P mt kt et n):∃fs,P.underlying kt=some (.struct fs):=aQj T.strB
theorem KeyTy.eqv (T:KeyTy P mt kt et n){a b:List ByteArray}(ha:a.length=n)(hb:b.length=n)(w:World):(Op.equal kt (iU a) (iU b)).run P w=.ok (decide (a=b)) w:=by
 obtain⟨fs,hfs⟩:=T.str;have E:=tE (P:=P) 12 9988 kt _ T.lv
 obtain⟨r,h1,h2⟩:=E w (iU a) (iU b) (by simp only[Shp,hfs];exact⟨_,rfl⟩) (by simp only[Shp,hfs];exact⟨_,rfl⟩) (by simp only[iU,Value.cells,tL,ha]) (by simp only[iU,Value.cells,tL,hb]);have e:r=decide (a=b):=by
  rw[Bool.eq_iff_iff,h2,decide_eq_true_eq];simp only[iU,Value.cells];exact⟨fun h=>rD h,fun h=>by rw[h]⟩
 rw[←e];exact h1
theorem KeyTy.asking (T:KeyTy P mt kt et n){k:List ByteArray}(hk:k.length=n)(w:World):∀(l:fM) (i j:Nat),iC n l→(Instr.findAsking kt (iU k) (cO i l) j).run P w=.ok ((eU k l j).map fun x=>(x.1,.int .i64 x.2)) w
 | [],i,j,_=>by simp[cO,Instr.findAsking,eU]
 | (q,v)::l,i,j,h=>by
  have h1:=h (q,v) (by simp)
  simp only[cO,Instr.findAsking,Sem.run_bind,T.eqv hk h1,Result.andThen_ok,eU]
  by_cases e:k=q
  ·simp[e]
  ·simp only[e,decide_false,Bool.false_eq_true,if_false];exact T.asking hk w l (i+1) (j+1) (fun x hx=>h x (List.mem_cons_of_mem _ hx))
theorem KeyTy.find (T:KeyTy P mt kt et n){k:List ByteArray}(hk:k.length=n)(w:World){es:fM}(h:iC n es):(Instr.findKey kt (iU k) (cO 0 es)).run P w=.ok ((eU k es 0).map fun x=>(x.1,.int .i64 x.2)) w:=by
 obtain⟨fs,hfs⟩:=T.str;have:=T.asking hk w es 0 0 h
 simp only[Instr.findKey,Sem.run_bind,run_underlying hfs,Result.andThen_ok];cases es with
 | nil=>simp[cO,Instr.findNow,eU]
 | cons x l=>
  obtain⟨q,v⟩:=x;simp only[cO]at this ⊢;simp only[Instr.findNow,Instr.sameNow];exact this
def rC (w:World)(r:Nat)(es:fM):Prop:=w.heap[r]?=some (.map (cO 0 es).toArray es.length)
theorem KeyTy.look (T:KeyTy P mt kt et n){k:List ByteArray}(hk:k.length=n){w:World}{r:Nat}{es:fM}(h:iC n es)(hb:rC w r es):(Instr.lookup mt (.map (some r)) (iU k) false).run P w=.ok (.int .i64 (fK es k)) w:=by
 have h1:=T.find hk w h
 simp only[Instr.lookup,Sem.run_bind,run_underlying T.map,Result.andThen_ok,MapKept.run_getObj_map hb,Sem.run_pure,T.chk k _ w hk,List.toList_toArray,h1];unfold fK;cases hf:eU k es 0 with
 | none=>simp[T.zero,Result.andThen]
 | some x=>obtain⟨j,v⟩:=x;simp
theorem vL:∀(m:Nat) (a:List ByteArray),(((a.map Value.string).zip (a.map Value.string)).all fun(x,y)=>Instr.sameBits (m+1) x y)=true
 | m,[]=>rfl
 | m,x::l=>by
  simp only[List.map_cons,List.zip_cons_cons,List.all_cons,vL m l,Bool.and_true];simp only[Instr.sameBits];exact(MapKept.bytes_beq x x).2 rfl
theorem aE2 (a:List ByteArray):Instr.sameBits 10000 (iU a) (iU a)=true:=by
 show Instr.sameBits (9999+1) (.agg (a.map Value.string).toArray) (.agg (a.map Value.string).toArray)=true
 simp only[Instr.sameBits,beq_self_eq_true,Bool.true_and];exact vL 9998 a
theorem KeyTy.entry (T:KeyTy P mt kt et n){k:List ByteArray}(hk:k.length=n){w:World}{r:Nat}{es:fM}(h:iC n es)(hb:rC w r es):∃v,(Instr.mapEntry mt (.map (some r)) (iU k)).run P w=.ok (.tuple #[v,.int .i64 (lC es k)]) {w with heap:=w.heap.setIfInBounds r (.map (cO 0 (fR es k)).toArray (fR es k).length)}:=by
 have h1:=T.find hk w h
 simp only[Instr.mapEntry,Sem.run_bind,run_underlying T.map,Result.andThen_ok,MapKept.run_getObj_map hb,T.chk k _ w hk,List.toList_toArray,h1];unfold lC fR;cases hf:eU k es 0 with
 | none=>
  refine⟨.int .i64 0,?_⟩;simp only[Option.map_none,Sem.run_bind,T.zero,Result.andThen_ok,MapKept.run_setObj_map _ hb,Sem.run_pure,goInt]
  congr 3
  simp[aCv,cO]
 | some x=>
  obtain⟨j,v⟩:=x;obtain⟨e1,e2,e3⟩:=nZ hf;simp only[Nat.sub_zero,Nat.zero_add]at e2 e3;have hj:(cO 0 es).toArray[j]?=some ⟨iU k,.int .i64 v,j⟩:=by
   rw[List.getElem?_toArray,kD,e3];simp
  have hm:(cO 0 es).toArray.modify j (fun e=>{e with key:=iU k})=(cO 0 es).toArray:=by
   apply Array.ext';apply List.ext_getElem?;intro q;simp only[Array.toList_modify,List.getElem?_modify]
   by_cases hq:j=q
   ·subst hq;have:(cO 0 es)[j]?=some ⟨iU k,.int .i64 v,j⟩:=by simpa using hj
    simp[this]
   ·simp[hq]
  refine⟨.int .i64 v,?_⟩;simp only[Option.map_some,hj,Option.getD_some,Sem.run_bind,Instr.keyThatStays,aE2,if_true,Sem.run_pure,Result.andThen_ok,hm,MapKept.run_setObj_map _ hb,goInt]
theorem aAd {w:World}{r:Nat}{es:fM}(hb:rC w r es){s:Nat}(hs:s<es.length)(v:Int):(Instr.entryStore mt (.map (some r)) (.int .i64 s) (.int .i64 v)).run P w=.ok () {w with heap:=w.heap.setIfInBounds r (.map (cO 0 (lN es s v)).toArray (lN es s v).length)}:=by
 have hf:(cO 0 es).toArray.findIdx? (fun e=>(e.born:Int)==(s:Int))=some s:=by
  rw[Array.findIdx?_eq_some_iff_getElem];have hl:=aCw es 0
  have hg:∀q (hq:q<(cO 0 es).length),((cO 0 es)[q]).born=q:=fun q hq=>by
   have h1:=kD es 0 q
   rw[List.getElem?_eq_getElem hq,List.getElem?_eq_getElem (by omega)]at h1;simp only[Option.map_some,Option.some.injEq]at h1;rw[h1];simp
  refine⟨by simp[hl];exact hs,?_,?_⟩
  ·simp[hg]
  ·intro j hj;simp[hg];omega
 simp only[Instr.entryStore,Sem.run_bind,MapKept.run_getObj_map hb,Result.andThen_ok,asInt,asIntOf,Sem.run_pure,hf,MapKept.run_setObj_map _ hb,aHk];rw[aDh];simp
end
def OF.mp (r:Nat)(es:fM):OF where
 F _ b:=b=r
 p _ w:=rC w r es
 st _ _ w w' _ hk h:=⟨by unfold rC;rw[hk r rfl];exact h,fun _=>Iff.rfl⟩
def OF.it (r m N:Nat)(seen:Array Nat):OF where
 F _ b:=b=r
 p _ w:=w.heap[r]?=some (.mapIter (some m) N seen N)
 st _ _ w w' _ hk h:=⟨by rw[hk r rfl];exact h,fun _=>Iff.rfl⟩
theorem OFr.mp (n r:Nat)(es:fM):OFr n (OF.mp r es):=⟨fun _ _ h=>⟨h,fun _ h=>h⟩⟩
theorem OFr.it (n r m N:Nat)(seen:Array Nat):OFr n (OF.it r m N seen):=⟨fun _ _ h=>⟨h,fun _ h=>h⟩⟩
section
variable {c:Cx}{P:Program}{ty:Nat→Option TyI}{nt:Nat}{K:List KF}{S:St}{X:Nat→Prop}{μ:Mu}{a:Act}{w:World}
theorem pB {v u:Value}(h:aD μ (.o v)=some u):u=v:=by
 simp only[aD]at h;split at h
 ·injection h with h;exact h.symm
 ·cases h
theorem tT {pre post:List OF}{f f':OF}{r:Nat}{w':World}(H:Sim c K S X μ a w)(how:S.ow=pre++f::post)(hF:∀j,f.F μ j↔j=r)(hF':∀j,f'.F μ j↔j=r)(hp:f'.p μ w')(hos:w'.os=w.os)(htp:w'.tape=w.tape)(hou:w'.output=w.output)
  (hsz:w'.heap.size=w.heap.size) (ho:∀j,j≠r→w'.heap[j]?=w.heap[j]?):Sim c K {S with ow:=pre++f'::post} X μ a w':=by
 have P:=H.toP
 have hf0:f∈S.ow:=by rw[how];simp
 obtain⟨r1,r2,r3,r4⟩:=(P.own.at_ f hf0).2 r ((hF r).2 rfl);have hxr:∀b,X b→b≠r:=fun b hx e=>r3 (e▸hx)
 have hap:=P.own.apart
 rw[how,List.pairwise_append]at hap;obtain⟨p1,p2,p3⟩:=hap;have aPq:Below c.B.heap.size c.B w':=⟨hos.trans P.bel.os,htp.trans P.bel.tape,hou.trans P.bel.output,by rw[hsz];exact P.bel.size,fun k hk=>(ho k (by omega)).trans (P.bel.block k hk)⟩
 refine⟨⟨P.dfr,P.size,P.slots,fun k blk m hk hm=>?_,P.all,P.inj,fun k b hk=>?_,fun b hb=>by rw[hsz];exact P.xlt b hb,P.xnew,P.xold,aPq,jN P.kf (fun _ h=>h) (Mu.vle_refl _) (fun b hx=>ho b (hxr b hx)),?_⟩,H.dom⟩
 ·exact Blk.ok_keep (Mu.le_refl _) (fun _ h=>h) (fun b hx=>ho b (hxr b hx)) (fun b e=>ho b (fun e'=>r4 k (by rw[hm,e,e']))) (P.heap k blk m hk hm)
 ·obtain⟨q1,q2,q3⟩:=P.loc k b hk;exact⟨q1,q2,by omega⟩
 ·refine⟨fun g hg=>?_,List.pairwise_append.2 ⟨p1,List.Pairwise.cons (fun g hg b hb hb'=>?_) (List.Pairwise.of_cons p2),fun g hg h hh b hb hb'=>?_⟩⟩
  ·have other:∀g,g∈S.ow→(∀b,f.F μ b→¬g.F μ b)→g.p μ w'∧∀b,g.F μ b→c.B.heap.size≤b∧b<w'.heap.size∧¬X b∧∀k,μ k≠some (.own b):=fun g hg hne=>by
    obtain⟨h1,h2⟩:=P.own.at_ g hg;refine⟨(g.st μ μ w w' (Mu.vle_refl _) (fun j hj=>ho j (fun e=>hne r ((hF r).2 rfl) (e▸hj))) h1).1,fun b hb=>?_⟩;obtain⟨q1,q2,q3,q4⟩:=h2 b hb;exact⟨q1,by omega,q3,q4⟩
   rcases List.mem_append.1 hg with e | e
   ·exact other g (by rw[how];simp[e]) (fun b hb hb'=>p3 g e f (by simp) b hb' hb)
   ·rcases List.mem_cons.1 e with e | e
    ·subst e;exact⟨hp,fun b hb=>by
      have:=(hF' b).1 hb
      subst this;exact⟨r1,by omega,r3,r4⟩⟩
    ·exact other g (by rw[how];simp[e]) (fun b hb hb'=>List.rel_of_pairwise_cons p2 e b hb hb')
  ·exact List.rel_of_pairwise_cons p2 hg b ((hF b).2 ((hF' b).1 hb)) hb'
  ·rcases List.mem_cons.1 hh with e | e
   ·subst e;exact p3 g hg f (by simp) b hb ((hF b).2 ((hF' b).1 hb'))
   ·exact p3 g hg h (by simp[e]) b hb hb'
theorem sF {f':OF}{o:Obj}(H:Sim c K S X μ a w)(hF':∀j,f'.F μ j↔j=w.heap.size)(hp:f'.p μ (w.alloc o)):Sim c K {S with ow:=f'::S.ow} X μ a (w.alloc o):=by
 have P:=H.toP
 have hsz:(w.alloc o).heap.size=w.heap.size+1:=by show(w.heap.push o).size=_;simp
 have ho:∀j,j<w.heap.size→(w.alloc o).heap[j]?=w.heap[j]?:=fun j hj=>Go.RowKit.Below.heap_alloc w o j hj
 have aPq:Below c.B.heap.size c.B (w.alloc o):=⟨P.bel.os,P.bel.tape,P.bel.output,by rw[hsz];have:=P.bel.size;omega,fun k hk=>(ho k (by have:=P.bel.size;omega)).trans (P.bel.block k hk)⟩
 refine⟨⟨P.dfr,P.size,P.slots,fun k blk m hk hm=>?_,P.all,P.inj,fun k b hk=>?_,fun b hb=>by rw[hsz];have:=P.xlt b hb;omega,P.xnew,P.xold,aPq,jN P.kf (fun _ h=>h) (Mu.vle_refl _) (fun b hx=>ho b (P.xlt b hx)),?_⟩,H.dom⟩
 ·exact Blk.ok_keep (Mu.le_refl _) (fun _ h=>h) (fun b hx=>ho b (P.xlt b hx)) (fun b e=>ho b (P.loc k b (by rw[hm,e])).2.2) (P.heap k blk m hk hm)
 ·obtain⟨q1,q2,q3⟩:=P.loc k b hk;exact⟨q1,q2,by omega⟩
 ·refine⟨fun g hg=>?_,List.Pairwise.cons (fun g hg b hb hb'=>?_) P.own.apart⟩
  ·rcases List.mem_cons.1 hg with e | e
   ·subst e;exact⟨hp,fun b hb=>by
     have:=(hF' b).1 hb
     subst this;exact⟨P.bel.size,by omega,fun hx=>by have:=P.xlt _ hx;omega,fun k hk=>by have:=(P.loc k _ hk).2.2;omega⟩⟩
   ·obtain⟨h1,h2⟩:=P.own.at_ g e;refine⟨(g.st μ μ w _ (Mu.vle_refl _) (fun j hj=>ho j (h2 j hj).2.1) h1).1,fun b hb=>?_⟩;obtain⟨q1,q2,q3,q4⟩:=h2 b hb;exact⟨q1,by omega,q3,q4⟩
  ·have:=(hF' b).1 hb
   subst this;have:=((P.own.at_ g hg).2 _ hb').2.1
   omega
theorem vR (H:Sim c K S X μ a w){d:Option Nat}(hd:cJ c.nt d=true){av:AV}{v:Value}(hv:aD μ av=some v):Sim c K (S.put d av none) X μ (a.put d v) w:=by
 have:=kW (Kn:=[]) H hd (cR.same H.toP.own hv) (fun f hf=>by cases hf)
 simpa[St.put]using this
theorem aDg (hc:Ctx c P ty nt){all:Array Oper}{i:Nat}{k:List KI}(o:Oper)(ho:all[i]?=some o)(hg:guardOf all S.sl o=some true)(hd:cJ nt o.dst=true){mt:Nat}{M:Nat→fM→OF}(hM:∀r es,M r es=OF.mp r es)(hop:o.op=.makeMap mt none)
  (h:∀r,Goal c K ⟨.ops all (i+1)::k,S.putO o.dst (.o (.map (some r))) none (M r []::S.ow),[]⟩):Goal c K ⟨.ops all i::k,S,[]⟩:=by
 refine sV hc o ho hg (ι:=Nat) (K':=fun _=>K) (S':=fun r=>S.putO o.dst (.o (.map (some r))) none (M r []::S.ow)) (p:=fun _=>True) (fun X μ a w H=>?_) (fun r _=>h r);refine⟨w.heap.size,.map (some w.heap.size),w.alloc (.map #[] 0),X,μ,trivial,?_,?_⟩
 ·simp[execOp,hop,Instr.makeMap]
 ·rw[hM];have H1:=sF (f':=OF.mp w.heap.size []) (o:=.map #[] 0) H (fun j=>Iff.rfl) (by show(w.alloc _).heap[w.heap.size]?=_;rw[heap_alloc_new];rfl)
  exact vR H1 (by rw[hc.hnt];exact hd) (av:=.o (.map (some w.heap.size))) rfl
theorem aLo (hc:Ctx c P ty nt){all:Array Oper}{i:Nat}{k:List KI}(o:Oper)(ho:all[i]?=some o)(hg:guardOf all S.sl o=some true)(hd:cJ nt o.dst=true){mt kt et n r:Nat}(T:KeyTy P mt kt et n){x y:Operand}{kav:AV}{ks:List ByteArray}{es:fM}(pre:List OF){post:List OF}{M:Nat→fM→OF}(hM:∀r es,M r es=OF.mp r es)(hop:o.op=.lookup mt x y false)
  (hx:eV S.sl x=some (.o (.map (some r)))) (hy:eV S.sl y=some kav) (hk:aD iD kav=some (iU ks)) (hn:ks.length=n) (hes:iC n es) (how:S.ow=pre++M r es::post) (z:Int) (hz:z=fK es ks)
  (h:Goal c K ⟨.ops all (i+1)::k,S.put o.dst (.i .i64 (.v z)) none,[]⟩):Goal c K ⟨.ops all i::k,S,[]⟩:=by
 refine aRd hc o ho hg hd (.i .i64 (.v z)) (fun X μ a w H=>?_) h;have e1:=aI H.toP hx (fun _ _=>trivial)
 have e2:=aI H.toP hy (fun _ _=>trivial)
 rw[eN hk]at e2;injection e2 with e2
 have e1:=(pB e1).symm
 rw[hM]at how;have hm:rC w r es:=(H.toP.own.at_ (OF.mp r es) (by rw[how];simp)).1
 refine⟨.int .i64 z,?_,rfl⟩;subst hz;simp only[execOp,hop,←e1,←e2,T.look hn hes hm,Sem.run_bind,Result.andThen_ok,Sem.run_pure]
theorem aGh {w:World}{r:Nat}{o o':Obj}(h:w.heap[r]?=some o):({w with heap:=w.heap.setIfInBounds r o'}:World).heap[r]?=some o':=by
 have:=(Array.getElem?_eq_some_iff.1 h).1
 simp[this]
theorem xR {w:World}{r j:Nat}{o':Obj}(h:j≠r):({w with heap:=w.heap.setIfInBounds r o'}:World).heap[j]?=w.heap[j]?:=
 Array.getElem?_setIfInBounds_ne (fun e=>h e.symm)
theorem aA9 (hc:Ctx c P ty nt){all:Array Oper}{i:Nat}{k:List KI}(o:Oper)(ho:all[i]?=some o)(hg:guardOf all S.sl o=some true)(hd:cJ nt o.dst=true){mt kt et n r:Nat}(T:KeyTy P mt kt et n){x y:Operand}{kav:AV}{ks:List ByteArray}{es:fM}(pre:List OF){post:List OF}{M:Nat→fM→OF}(hM:∀r es,M r es=OF.mp r es)(hop:o.op=.mapEntry mt x y)
  (hx:eV S.sl x=some (.o (.map (some r)))) (hy:eV S.sl y=some kav) (hk:aD iD kav=some (iU ks)) (hn:ks.length=n) (hes:iC n es) (how:S.ow=pre++M r es::post) {es':fM} {st:Nat} (h1:es'=fR es ks) (h2:st=lC es ks)
  (h:∀v,Goal c K ⟨.ops all (i+1)::k,S.putO o.dst (.t [.q v,.i .i64 (.n st)]) none (pre++M r es'::post),[]⟩):Goal c K ⟨.ops all i::k,S,[]⟩:=by
 refine sV hc o ho hg (ι:=Value) (K':=fun _=>K) (S':=fun v=>S.putO o.dst (.t [.q v,.i .i64 (.n st)]) none (pre++M r es'::post)) (p:=fun _=>True) (fun X μ a w H=>?_) (fun v _=>h v);have e1:=aI H.toP hx (fun _ _=>trivial)
 have e2:=aI H.toP hy (fun _ _=>trivial)
 rw[eN hk]at e2;injection e2 with e2
 have e1:=(pB e1).symm
 simp only[hM]at how ⊢;have hm:rC w r es:=(H.toP.own.at_ (OF.mp r es) (by rw[how];simp)).1
 obtain⟨v,hv⟩:=T.entry hn hes hm;subst h1;subst h2;refine⟨v,.tuple #[v,.int .i64 (lC es ks)],{w with heap:=w.heap.setIfInBounds r (.map (cO 0 (fR es ks)).toArray (fR es ks).length)},X,μ,trivial,?_,?_⟩
 rotate_left
 ·have H1:=tT (f':=OF.mp r (fR es ks)) H how (fun j=>Iff.rfl) (fun j=>Iff.rfl) (w':={w with heap:=w.heap.setIfInBounds r (.map (cO 0 (fR es ks)).toArray (fR es ks).length)}) (aGh hm) rfl rfl rfl (by simp) (fun j hj=>xR hj)
  exact vR H1 (by rw[hc.hnt];exact hd) (av:=.t [.q v,.i .i64 (.n (lC es ks))]) (v:=.tuple #[v,.int .i64 (lC es ks)]) rfl
 ·simp only[execOp,hop,←e1,←e2,hv,Sem.run_bind,Result.andThen_ok,Sem.run_pure]
theorem vJ (hc:Ctx c P ty nt){all:Array Oper}{i:Nat}{k:List KI}(o:Oper)(ho:all[i]?=some o)(hg:guardOf all S.sl o=some true)(hd:o.dst=none){mt r st:Nat}{x y z:Operand}{e:IE}{es:fM}(pre:List OF){post:List OF}{M:Nat→fM→OF}(hM:∀r es,M r es=OF.mp r es)(hop:o.op=.entryStore mt x y z)
  (hx:eV S.sl x=some (.o (.map (some r)))) (hy:eV S.sl y=some (.i .i64 (.n st))) (hz:eV S.sl z=some (.i .i64 e)) (hst:st<es.length) (how:S.ow=pre++M r es::post) {es':fM} (h1:es'=lN es st e.den)
  (h:Goal c K ⟨.ops all (i+1)::k,{S with ow:=pre++M r es'::post},[]⟩):Goal c K ⟨.ops all i::k,S,[]⟩:=by
 refine aQ9 hc o ho hg hd (fun X μ a w H=>?_) h;have e1:=aI H.toP hx (fun _ _=>trivial)
 have e2:=cC (aI H.toP hy (fun _ _=>trivial))
 have e3:=cC (aI H.toP hz (fun _ _=>trivial))
 have e1:=(pB e1).symm
 simp only[hM]at how ⊢;have hm:rC w r es:=(H.toP.own.at_ (OF.mp r es) (by rw[how];simp)).1
 subst h1;refine⟨{w with heap:=w.heap.setIfInBounds r (.map (cO 0 (lN es st e.den)).toArray (lN es st e.den).length)},X,μ,?_,tT (f':=OF.mp r (lN es st e.den)) H how (fun j=>Iff.rfl) (fun j=>Iff.rfl) (w':={w with heap:=w.heap.setIfInBounds r (.map (cO 0 (lN es st e.den)).toArray (lN es st e.den).length)}) (aGh hm) rfl rfl rfl (by simp) (fun j hj=>xR hj)⟩;simp only[execOp,hop,←e1,e2,e3,IE.den,aAd hm hst,Sem.run_bind,Result.andThen_ok,Sem.run_pure]
theorem aLr (hc:Ctx c P ty nt){all:Array Oper}{i:Nat}{k:List KI}(o:Oper)(ho:all[i]?=some o)(hg:guardOf all S.sl o=some true)(hd:cJ nt o.dst=true){mt kt et n r:Nat}(T:KeyTy P mt kt et n){x:Operand}{es:fM}(pre:List OF){post:List OF}{M:Nat→fM→OF}(hM:∀r es,M r es=OF.mp r es){I:Nat→Nat→Nat→Array Nat→OF}(hI:∀a b c d,I a b c d=OF.it a b c d)(hop:o.op=.range mt x)
  (hx:eV S.sl x=some (.o (.map (some r)))) (how:S.ow=pre++M r es::post)
  (h:∀q,Goal c K ⟨.ops all (i+1)::k,S.putO o.dst (.o (.pointer (some ⟨q,0,none⟩))) none (I q r es.length #[]::S.ow),[]⟩):Goal c K ⟨.ops all i::k,S,[]⟩:=by
 refine sV hc o ho hg (ι:=Nat) (K':=fun _=>K) (S':=fun q=>S.putO o.dst (.o (.pointer (some ⟨q,0,none⟩))) none (I q r es.length #[]::S.ow)) (p:=fun _=>True) (fun X μ a w H=>?_) (fun q _=>h q);have e1:=aI H.toP hx (fun _ _=>trivial)
 have e1:=(pB e1).symm
 have aBt:=how
 rw[hM]at aBt;have hm:rC w r es:=(H.toP.own.at_ (OF.mp r es) (by rw[aBt];simp)).1
 refine⟨w.heap.size,.pointer (some ⟨w.heap.size,0,none⟩),w.alloc (.mapIter (some r) es.length #[] es.length),X,μ,trivial,by simp only[execOp,hop,←e1,run_range_map w mt kt et r _ _ T.map hm,Sem.run_bind,Result.andThen_ok,Sem.run_pure],?_⟩;rw[hI];have H1:=sF (f':=OF.it w.heap.size r es.length #[]) (o:=.mapIter (some r) es.length #[] es.length) H (fun j=>Iff.rfl) (heap_alloc_new w _)
 exact vR H1 (by rw[hc.hnt];exact hd) (av:=.o (.pointer (some ⟨w.heap.size,0,none⟩))) rfl
theorem aMu {es:fM}{seen:Array Nat}(h:(leftOf (cO 0 es).toArray seen).size=0):∀j,j<es.length→j∈seen:=by
 intro j hj;have h1:=kD es 0 j
 rw[List.getElem?_eq_getElem hj]at h1;simp only[Option.map_some,Nat.zero_add]at h1;have h2:leftOf (cO 0 es).toArray seen=#[]:=Array.eq_empty_of_size_eq_zero h
 unfold leftOf at h2;rw[Array.filter_eq_empty_iff]at h2;have:=h2 _ (by
  have:=List.mem_of_getElem? h1
  simpa using this)
 simpa using this
theorem aMv {es:fM}{seen:Array Nat}{e:MapEntry}(h:e∈(leftOf (cO 0 es).toArray seen).toList):∃j k v,es[j]?=some (k,v)∧j∉seen∧e=⟨iU k,.int .i64 v,j⟩:=by
 unfold leftOf at h;simp only[Array.toList_filter,List.mem_filter]at h;obtain⟨j,hj⟩:=List.getElem?_of_mem h.1;simp only[kD,Nat.zero_add]at hj;cases hx:es[j]? with
 | none=>rw[hx]at hj;cases hj
 | some x=>
  rw[hx]at hj;simp only[Option.map_some,Option.some.injEq]at hj;refine⟨j,x.1,x.2,hx,?_,hj.symm⟩;have:=h.2
  rw[←hj]at this
  simpa using this
theorem aQ8 (hc:Ctx c P ty nt){all:Array Oper}{i:Nat}{k:List KI}(o:Oper)(ho:all[i]?=some o)(hg:guardOf all S.sl o=some true)(hd:cJ nt o.dst=true){r q:Nat}{x:Operand}{es:fM}{seen:Array Nat}{M:Nat→fM→OF}(hM:∀r es,M r es=OF.mp r es){I:Nat→Nat→Nat→Array Nat→OF}(hI:∀a b c d,I a b c d=OF.it a b c d)(hop:o.op=.next x false)
  (hx:eV S.sl x=some (.o (.pointer (some ⟨q,0,none⟩)))) (pre:List OF) {post:List OF} (how:S.ow=pre++I q r es.length seen::post) (nQ:M r es∈S.ow)
  (h0:(∀j,j<es.length→j∈seen)→Goal c K ⟨.ops all (i+1)::k,S.put o.dst (.t [.b (.l false)]) none,[]⟩)
  (h1:∀j ks v,es[j]?=some (ks,v)→j∉seen→Goal c K ⟨.ops all (i+1)::k,S.putO o.dst (.t [.b (.l true),.q (iU ks),.i .i64 (.v v)]) none (pre++I q r es.length (seen.push j)::post),[]⟩):Goal c K ⟨.ops all i::k,S,[]⟩:=by
 refine sV hc o ho hg (ι:=Option (Nat × List ByteArray × Int)) (K':=fun _=>K)
  (S':=fun z=>match z with | none=>S.put o.dst (.t [.b (.l false)]) none | some (j,ks,v)=>S.putO o.dst (.t [.b (.l true),.q (iU ks),.i .i64 (.v v)]) none (pre++I q r es.length (seen.push j)::post))
  (p:=fun z=>match z with | none=>∀j,j<es.length→j∈seen | some (j,ks,v)=>es[j]?=some (ks,v)∧j∉seen) (fun X μ a w H=>?_) (fun z hz=>?_)
 rotate_left
 ·cases z with
  | none=>exact h0 hz
  | some z=>obtain⟨j,ks,v⟩:=z;exact h1 j ks v hz.1 hz.2
 have e1:=aI H.toP hx (fun _ _=>trivial)
 have e1:=(pB e1).symm
 rw[hM]at nQ;simp only[hI]at how ⊢;have hm:rC w r es:=(H.toP.own.at_ (OF.mp r es) nQ).1
 have hit:w.heap[q]?=some (.mapIter (some r) es.length seen es.length):=(H.toP.own.at_ (OF.it q r es.length seen) (by rw[how];simp)).1
 rcases run_next_at (P:=P) w o.type q r es.length es.length seen (cO 0 es).toArray es.length hit hm (fun y hy=>by
   obtain⟨j,hj⟩:=List.getElem?_of_mem hy;simp only[List.toList_toArray,kD,Nat.zero_add]at hj;cases hx:es[j]? with
   | none=>rw[hx]at hj;cases hj
   | some z=>
    rw[hx]at hj;simp only[Option.map_some,Option.some.injEq]at hj;rw[←hj];exact(List.getElem?_eq_some_iff.1 hx).1) (lRf _)with⟨hl,aIv⟩ | ⟨e,he,w1,hw1,aIv⟩
 ·refine⟨none,.tuple #[.bool false],w,X,μ,aMu hl,by simp only[execOp,hop,←e1,aIv,Sem.run_bind,Result.andThen_ok,Sem.run_pure],?_⟩;exact vR H (by rw[hc.hnt];exact hd) (av:=.t [.b (.l false)]) rfl
 ·obtain⟨j,ks,v,hj,hns,rfl⟩:=aMv he;refine⟨some (j,ks,v),.tuple #[.bool true,iU ks,.int .i64 v],ChangeMaps.setBlock w1 q (.mapIter (some r) es.length (seen.push j) es.length),X,μ,⟨hj,hns⟩,by simp only[execOp,hop,←e1,aIv,Sem.run_bind,Result.andThen_ok,Sem.run_pure],?_⟩;have hh:w1.heap=w.heap:=by rcases hw1 with rfl | rfl<;>rfl
  have H1:=tT (f':=OF.it q r es.length (seen.push j)) H how (fun j=>Iff.rfl) (fun j=>Iff.rfl) (w':=ChangeMaps.setBlock w1 q (.mapIter (some r) es.length (seen.push j) es.length)) (by
    show(w1.heap.setIfInBounds q _)[q]?=_
    have:=(Array.getElem?_eq_some_iff.1 hit).1
    rw[hh];simp[this])
   (by rcases hw1 with rfl | rfl<;>rfl) (by rcases hw1 with rfl | rfl<;>rfl) (by rcases hw1 with rfl | rfl<;>rfl) (by show(w1.heap.setIfInBounds q _).size=_;rw[hh];simp) (fun j' hj'=>by
    show(w1.heap.setIfInBounds q _)[j']?=_
    rw[hh];exact Array.getElem?_setIfInBounds_ne (fun e=>hj' e.symm))
  exact vR H1 (by rw[hc.hnt];exact hd) (av:=.t [.b (.l true),.q (iU ks),.i .i64 (.v v)]) rfl
theorem aF9 (es:fM):(((cO 0 es).toArray).toList.map (·.born)).Nodup:=by
 have:∀(l:fM) (i:Nat),(cO i l).map (·.born)=List.range' i l.length:=by
  intro l
  induction l with
  | nil=>intro i;rfl
  | cons x l ih=>intro i;obtain⟨k,v⟩:=x;simp[cO,ih,List.range'_succ]
 rw[List.toList_toArray,this];exact List.nodup_range'
theorem zV (μ:Mu):∀(l:List ByteArray),aG μ (l.map fun s=>AV.s (.v s))=some (l.map Value.string)
 | []=>rfl
 | x::l=>by simp only[List.map_cons,aG,aD,zV μ l,SE.den]
theorem aLn (hc:Ctx c P ty nt){all:Array Oper}{i:Nat}{k:List KI}(o:Oper)(ho:all[i]?=some o)(hg:guardOf all S.sl o=some true)(hd:cJ nt o.dst=true){r q j:Nat}{x:Operand}{es:fM}{seen:Array Nat}{ks:List ByteArray}{v:Int}{M:Nat→fM→OF}(hM:∀r es,M r es=OF.mp r es){I:Nat→Nat→Nat→Array Nat→OF}(hI:∀a b c d,I a b c d=OF.it a b c d)(hop:o.op=.entry x)
  (hx:eV S.sl x=some (.o (.pointer (some ⟨q,0,none⟩)))) (hit:I q r es.length (seen.push j)∈S.ow) (nQ:M r es∈S.ow) (hj:es[j]?=some (ks,v))
  (h:Goal c K ⟨.ops all (i+1)::k,S.put o.dst (.t [.g (ks.map fun s=>.s (.v s)),.i .i64 (.v v)]) none,[]⟩):Goal c K ⟨.ops all i::k,S,[]⟩:=by
 refine aRd hc o ho hg hd _ (fun X μ a w H=>?_) h;have e1:=aI H.toP hx (fun _ _=>trivial)
 have e1:=(pB e1).symm
 rw[hM]at nQ;rw[hI]at hit;have hm:rC w r es:=(H.toP.own.at_ _ nQ).1
 have hit:w.heap[q]?=some (.mapIter (some r) es.length (seen.push j) es.length):=(H.toP.own.at_ _ hit).1
 have he:(⟨iU ks,.int .i64 v,j⟩:MapEntry)∈(cO 0 es).toArray.toList:=by
  have:=kD es 0 j
  rw[hj]at this;have:=List.mem_of_getElem? this
  simpa using this
 have:=run_entry_at (P:=P) w q r es.length seen (cO 0 es).toArray es.length ⟨iU ks,.int .i64 v,j⟩ hit hm he (aF9 es)
 refine⟨.tuple #[iU ks,.int .i64 v],?_,?_⟩
 ·simp only[execOp,hop,←e1,this,Sem.run_bind,Result.andThen_ok,Sem.run_pure]
 ·simp only[aD,aG,zV,IE.den]
  rfl
end
end Go.Ai
