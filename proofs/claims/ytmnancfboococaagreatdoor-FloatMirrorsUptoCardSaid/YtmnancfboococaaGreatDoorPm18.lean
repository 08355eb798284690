/- Part 19 of the proof: garboardlaw17.FloatMirrors returns true, where what it reads is of bulk at most 1048576. -/
import Derived.Test.YtmnancfboococaaGreatDoorPm8
import Derived.Test.YtmnancfboococaaGreatDoorPm15
import Derived.Test.YtmnancfboococaaGreatDoorPm17
set_option linter.all false
namespace Go.Ai
open Go Go.RowKit
def OF.rk (k:Nat)(base e sz n:Nat)(xs:List Value):OF where
 F μ b:=∃v,μ k=some (.val v)∧v.ownBlock=some b
 p μ w:=∃v,μ k=some (.val v)∧(∃a cap,v=.slice a n cap)∧w.ownsRow base e sz v n xs
 st μ μ' w w' hv hk h:=by
  obtain⟨v,h1,⟨a,cap,rfl⟩,h2⟩:=h;have h1':=hv.fx _ _ rfl h1
  have hF:∀b,(Value.slice a n cap).ownBlock=some b→w'.heap[b]?=w.heap[b]?:=fun b hb=>hk b ⟨_,h1,hb⟩
  refine⟨⟨_,h1',⟨a,cap,rfl⟩,h2.1,?_⟩,fun b=>?_⟩
  ·rcases h2.2 with hn | ⟨g,aZ,cur,e1,hb,hg,hr⟩
   ·exact .inl hn
   ·exact .inr ⟨g,aZ,cur,e1,hb,by rw[hF g (by rw[e1];simp[Value.ownBlock])];exact hg,hr⟩
  ·constructor
   ·rintro ⟨u,q1,q2⟩;rw[h1']at q1;injection q1 with q1;injection q1 with q1;subst q1;exact⟨_,h1,q2⟩
   ·rintro ⟨u,q1,q2⟩;rw[h1]at q1;injection q1 with q1;injection q1 with q1;subst q1;exact⟨_,h1',q2⟩
section
variable {c:Cx}{P:Program}{ty:Nat→Option TyI}{nt:Nat}{K:List KF}{S:St}
theorem aE0 (hcP:c.P=P)(bBv:c.ty=ty){o:Oper}{n0:Nat}{D:Nat→Prop}{t e bt j n cap:Nat}{x y:Operand}{a0:Option Addr}{ti ei:TyI}{xs news:List Value}{cells:List AV}{pre post:List OF}{bytes sz m:Nat}
  (hop:o.op=.call {callee:=.builtin .append,args:=#[x,y],argTypes:=#[t,t]}) (hx:fG S.sl x=some (.xs a0 n cap)) (hy:fG S.sl y=some (.sl j 0 (.l (m:Int)) m)) (hm:Nat.ble 1 m=true) (hj:S.hp[j]?=some (.c bt cells)) (gX:aH iJ cells=some news) (mJ:cells.all AV.one=true) (hlen:cells.length=m*sz) (h0:Nat.ble 1 sz=true) (how:S.ow=pre++OF.rv (.slice a0 n cap) c.B.heap.size e sz n xs::post)
  (hti:ty t=some ti) (hk:ti.kind=.slice e sz) (hei:ty e=some ei) (hzs:ei.zero.length=sz) (hby:(P.info? e).map (·.bytes)=some bytes) (hle:(n+m)*bytes≤140737488355328) (h63:n+m≤9223372036854775807)
  (hD:∀t,Operand.tmp t∈o.op.operands→D t):
  Cert c K n0 D S o (.e S.hp.length) (some .e) [] (OF.rk S.hp.length c.B.heap.size e sz (n+m) (xs++news)::(pre++post)):=by
 intro X μ a w next Q P' hfr hn
 rw[hop]at hD;have hm1:1≤m:=lbl hm
 have hs1:1≤sz:=lbl h0
 have e1:=lI (aI P' hx (fun t e=>hD t (by subst e;simp[Op.operands,Call.operands])))
 obtain⟨b,o1,hb1,e2⟩:=mG (aI P' hy (fun t e=>hD t (by subst e;simp[Op.operands,Call.operands]))) (by simp only[IE.den];omega);simp only[IE.den]at e2;obtain⟨mv,hv1,hv2⟩:=vS hb1;have hok:=P'.heap j _ mv hj hv1
 match mv,hv2,hok,hv1 with
 | .own b',hv2,hok,hv1=>
  simp only[MV.at,Option.some.injEq,Prod.mk.injEq]at hv2;obtain⟨rfl,rfl⟩:=hv2;obtain⟨vs,hvs,sZ⟩:=hok;rw[cS gX]at hvs;injection hvs with hvs
  subst hvs;have T:=c.tok t ti (by rw[bBv];exact hti)
  have hu:=T.und
  rw[hk]at hu;obtain⟨u1,tj,u2,u3⟩:=hu;obtain⟨tj',z,h1,h2,h3,h4,h5⟩:=(c.tok e ei (by rw[bBv];exact hei)).info;rw[u2]at h1;injection h1 with h1;subst h1
  have hzs:z.cells.size=sz:=by have:=aY h4;rw[hzs]at this;simpa using this
  have hb2:tj.bytes=bytes:=by rw[←hcP,u2]at hby;simpa using hby
  have hf0:OF.rv (.slice a0 n cap) c.B.heap.size e sz n xs∈S.ow:=by rw[how];simp
  obtain⟨hr0,hr1⟩:=P'.own.at_ _ hf0;have hr0:w.ownsRow c.B.heap.size e sz (.slice a0 n cap) n xs:=hr0
  have hnl:news.length=m*sz:=by rw[aY gX,hlen]
  obtain⟨v',w',q1,q2,q3,q4⟩:=aAf (P:=c.P) c.B.heap.size t o.type e tj z sz bytes u1 u2 h3 u3 hb2 hzs (by omega) _ _ _ hr0 ⟨b',0+0,none⟩ m m news hnl (fun q u hq=>by
    simp[add_eq,World.cell?,sZ,hq]) (sJ mJ gX) (by simpa[maxLen]using h63) hle P'.bel.size
  have hv':∃a' aZ,v'=.slice a' (n+m) aZ:=by
   rcases q2.2 with⟨h6,h7⟩ | ⟨g,aZ,cur,h6,_⟩
   ·omega
   ·exact⟨_,_,h6⟩
  obtain⟨a',aZ,rfl⟩:=hv';have aJx:(execOp a.eval o).run c.P w=.ok (.value (.slice a' (n+m) aZ)) w':=by
   simp only[execOp,hop,resolve,invoke,builtin,Sem.run_bind,Sem.run_pure,Result.andThen_ok,List.map_toArray,List.map_cons,List.map_nil,e1,e2];rw[Int.toNat_natCast,q1]
   rfl
  have aN4:Mu.le μ (μ.upd S.hp.length (.val (.slice a' (n+m) aZ))):=Mu.le_upd (hfr rfl)
  have aBc:=Mu.upd_same μ S.hp.length (.val (.slice a' (n+m) aZ))
  have hF:∀f,f∈S.ow→∀b,f.F μ b→c.B.heap.size≤b∧b<w.heap.size∧¬X b∧∀k,μ k≠some (.own b):=fun f hf=>(P'.own.at_ f hf).2
  have hB:c.B.heap.size≤w.heap.size:=P'.bel.size
  have hap:=P'.own.apart
  rw[how,List.pairwise_append]at hap;obtain⟨p1,p2,p3⟩:=hap;have nI:∀f,f∈pre++post→f∈S.ow:=fun f hf=>by
   rw[how]
   rcases List.mem_append.1 hf with h | h
   ·simp[h]
   ·simp[h]
  have hr:∀b,(Value.slice a0 n cap).ownBlock=some b→∃f,f∈S.ow∧f.F μ b:=fun b hb=>⟨_,hf0,hb⟩
  have hr':∀f,f∈pre++post→∀b,(Value.slice a0 n cap).ownBlock=some b→¬f.F μ b:=fun f hf b hb hb'=>by
   rcases List.mem_append.1 hf with h | h
   ·exact p3 f h _ List.mem_cons_self b hb' hb
   ·exact List.rel_of_pairwise_cons p2 h b hb hb'
  have rF:∀b,(Value.slice a' (n+m) aZ).ownBlock=some b→(Value.slice a0 n cap).ownBlock=some b∨w.heap.size≤b:=fun b hb=>by
   rcases q4 with h6 | h6
   ·left;rw[←h6];exact hb
   ·right;rw[h6]at hb;injection hb with hb;exact Nat.le_of_eq hb
  have hlt:∀b,(Value.slice a' (n+m) aZ).ownBlock=some b→b<w'.heap.size:=fun b hb=>(World.ownsRow.lt q2 b hb).2
  have hst:∀f,f∈pre++post→f.p (μ.upd S.hp.length (.val (.slice a' (n+m) aZ))) w'∧∀b,f.F (μ.upd S.hp.length (.val (.slice a' (n+m) aZ))) b↔f.F μ b:=fun f hf=>
   f.st μ _ w w' aN4.v (fun k hk=>q3.block k (hF f (nI f hf) k hk).2.1 (fun e2=>hr' f hf k e2.symm hk)) (P'.own.at_ f (nI f hf)).1
  have dW:∀k b,(μ.upd S.hp.length (.val (.slice a' (n+m) aZ))) k=some (.own b)→μ k=some (.own b):=fun k b hk=>by
   by_cases ek:k=S.hp.length
   ·rw[ek,aBc]at hk;injection hk with hk;cases hk
   ·simpa[Mu.upd,ek]using hk
  refine aAd aJx (hn X _ _ w' ⟨below_grown q3 hB (fun b hb=>?_),fun b hb hnf=>?_,?_,⟨.val (.slice a' (n+m) aZ),rfl,trivial,fun b e=>by cases e⟩,fun _ h=>h,fun _ h=>.inl h,?_⟩ (fun f hf=>by cases hf))
  ·obtain⟨f,h1,h2⟩:=hr b hb;exact(hF f h1 b h2).1
  ·refine q3.block b hb (fun e=>?_);obtain⟨f,h1,h2⟩:=hr b e.symm;exact hnf f h1 h2
  ·simp only[aC,aBc]
  ·refine⟨fun f hf=>?_,List.Pairwise.cons (fun g hg' b hb hb'=>?_) ?_⟩
   ·rcases List.mem_cons.1 hf with e' | e'
    ·subst e';refine⟨⟨_,aBc,⟨a',aZ,rfl⟩,q2⟩,fun b hb=>?_⟩;obtain⟨u,u1,u2⟩:=hb;rw[aBc]at u1;injection u1 with u1;injection u1 with u1;subst u1
     rcases rF b u2 with h7 | e'
     ·obtain⟨f,h1,h2⟩:=hr b h7;obtain⟨q1,q2,q3,q4⟩:=hF f h1 b h2;exact⟨q1,hlt b u2,q3,fun k hk=>q4 k (dW k b hk)⟩
     ·exact⟨lTr hB e',hlt _ u2,fun hx=>by have:=P'.xlt _ hx;omega,fun k hk=>by have:=(P'.loc k _ (dW k b hk)).2.2;omega⟩
    ·obtain⟨h1,h2⟩:=hst f e';refine⟨h1,fun b hb=>?_⟩;obtain⟨q1,q2,q3',q4⟩:=hF f (nI f e') b ((h2 b).1 hb);exact⟨q1,Nat.lt_of_lt_of_le q2 q3.size,q3',fun k hk=>q4 k (dW k b hk)⟩
   ·obtain⟨u,u1,u2⟩:=hb;rw[aBc]at u1;injection u1 with u1;injection u1 with u1;subst u1
    have bBl:=((hst g hg').2 b).1 hb'
    rcases rF b u2 with h7 | e'
    ·exact hr' g hg' b h7 bBl
    ·have:=(hF g (nI g hg') b bBl).2.1;omega
   ·have hpw:(pre++post).Pairwise fun f g=>∀b,f.F μ b→¬g.F μ b:=List.pairwise_append.2 ⟨p1,List.Pairwise.of_cons p2,fun f hf g hg=>p3 f hf g (List.mem_cons_of_mem _ hg)⟩
    refine List.Pairwise.imp_of_mem (fun {f g} hf hg h b hb hb'=>?_) hpw;exact h b (((hst f hf).2 b).1 hb) (((hst g hg).2 b).1 hb')
theorem dD (hc:Ctx c P ty nt){all:Array Oper}{i n0:Nat}{K0:List KF}{k:List KI}(o:Oper)(ho:all[i]?=some o)(hg:guardOf all S.sl o=some true)(hd:cF nt o.dst=true){t e bt j n cap:Nat}{x y:Operand}{a0:Option Addr}{ti ei:TyI}{xs news:List Value}{cells:List AV}(pre:List OF){post:List OF}{bytes sz m:Nat}{G:Option Addr→Nat→Nat→List Value→OF}(hG:∀a n cap l,G a n cap l=OF.rv (.slice a n cap) c.B.heap.size e sz n l)
  {GK:Nat→Nat→List Value→OF} (hGK:∀q n l,GK q n l=OF.rk q c.B.heap.size e sz n l)
  (hop:o.op=.call {callee:=.builtin .append,args:=#[x,y],argTypes:=#[t,t]}) (hx:fG S.sl x=some (.xs a0 n cap)) (hy:fG S.sl y=some (.sl j 0 (.l (m:Int)) m)) (hm:Nat.ble 1 m=true) (hj:S.hp[j]?=some (.c bt cells)) (gX:aH iJ cells=some news) (mJ:cells.all AV.one=true) (hlen:cells.length=m*sz) (h0:Nat.ble 1 sz=true) (how:S.ow=pre++G a0 n cap xs::post)
  (hti:ty t=some ti) (hk:ti.kind=.slice e sz) (hei:ty e=some ei) (hzs:ei.zero.length=sz) (hby:(P.info? e).map (·.bytes)=some bytes) (hle:(n+m)*bytes≤140737488355328) (h63:n+m≤9223372036854775807) (r:Nat)
  (h:∀n' l',n'=n+m→l'=xs++news→Goal c K (run ty nt K r (.dops all (i+1) n0 K0::k) (S.putO o.dst (.e S.hp.length) (some .e) (GK S.hp.length n' l'::(pre++post))) [])):Goal c K ⟨.dops all i n0 K0::k,S,[]⟩:=by
 rw[hG]at how;have hh:=h _ _ rfl rfl
 rw[hGK]at hh;exact wB hc o ho hg (by unfold bZ;rw[hop]) hd (fun D hD=>aE0 hc.hP hc.hty hop hx hy hm hj gX mJ hlen h0 how hti hk hei hzs hby hle h63 hD) r hh
theorem aZ8 {ks:List KI}(d:Nat){k:Nat}(hp:iO ks=true)(hl:look S.sl d=some (.e k)){e sz n:Nat}{l:List Value}{G:Option Addr→Nat→Nat→List Value→OF}(hG:∀a n cap l,G a n cap l=OF.rv (.slice a n cap) c.B.heap.size e sz n l)
  {GK:Nat→Nat→List Value→OF} (hGK:∀q n l,GK q n l=OF.rk q c.B.heap.size e sz n l) (pre:List OF) {post:List OF} (how:S.ow=pre++GK k n l::post)
  (h:∀a cap,Goal c K ⟨ks,{S with sl:=(d,.xs a n cap)::S.sl,ow:=pre++G a n cap l::post},[]⟩):Goal c K ⟨ks,S,[]⟩:=by
 refine gO (ι:=RowZ) (K':=fun _=>K) (S':=fun z=>{S with sl:=(d,.xs z.a n z.cap)::S.sl,ow:=pre++G z.a n z.cap l::post}) (p:=fun _=>True) hp (fun X μ a w H=>?_) (fun z _=>h z.a z.cap);rw[hGK]at how;have hf0:OF.rk k c.B.heap.size e sz n l∈S.ow:=by rw[how];simp
 obtain⟨⟨v,h1,⟨ad,cap,rfl⟩,h2⟩,h3⟩:=H.toP.own.at_ _ hf0;refine⟨⟨ad,cap⟩,X,μ,trivial,?_⟩;rw[hG];have H1:Sim c K {S with ow:=pre++OF.rv (.slice ad n cap) c.B.heap.size e sz n l::post} X μ a w:=by
  have P:=H.toP
  refine⟨⟨P.dfr,P.size,P.slots,P.heap,P.all,P.inj,P.loc,P.xlt,P.xnew,P.xold,P.bel,P.kf,?_⟩,H.dom⟩;have hFF:∀b,(OF.rk k c.B.heap.size e sz n l).F μ b↔(OF.rv (.slice ad n cap) c.B.heap.size e sz n l).F μ b:=fun b=>by
   constructor
   ·rintro ⟨u,q1,q2⟩;rw[h1]at q1;injection q1 with q1;injection q1 with q1;subst q1;exact q2
   ·intro q;exact⟨_,h1,q⟩
  have ha:=P.own.apart
  rw[how,List.pairwise_append]at ha;obtain⟨p1,p2,p3⟩:=ha;refine⟨fun f hf=>?_,List.pairwise_append.2 ⟨p1,List.Pairwise.cons (fun g hg b hb=>List.rel_of_pairwise_cons p2 hg b ((hFF b).2 hb)) (List.Pairwise.of_cons p2),fun f hf g hg b hb hb'=>?_⟩⟩
  ·rcases List.mem_append.1 hf with q | q
   ·exact P.own.at_ f (by rw[how];simp[q])
   ·rcases List.mem_cons.1 q with q | q
    ·subst q;exact⟨h2,fun b hb=>h3 b ((hFF b).2 hb)⟩
    ·exact P.own.at_ f (by rw[how];simp[q])
  ·rcases List.mem_cons.1 hg with q | q
   ·subst q;exact p3 f hf _ List.mem_cons_self b hb ((hFF b).2 hb')
   ·exact p3 f hf g (List.mem_cons_of_mem _ q) b hb hb'
 exact iC (S:={S with ow:=pre++OF.rv (.slice ad n cap) c.B.heap.size e sz n l::post}) H1 hl (by simp only[aC,h1])
theorem aM0 {ks:List KI}(pre:List OF){x:OF}{post:List OF}(hp:iO ks=true)(how:S.ow=x::(pre++post))(h:Goal c K ⟨ks,{S with ow:=pre++x::post},[]⟩):Goal c K ⟨ks,S,[]⟩:=by
 refine mZ hp (fun X μ a w H=>⟨X,μ,?_⟩) h;have P:=H.toP
 refine⟨⟨P.dfr,P.size,P.slots,P.heap,P.all,P.inj,P.loc,P.xlt,P.xnew,P.xold,P.bel,P.kf,?_⟩,H.dom⟩;have ha:=P.own.apart
 have hm:∀f,f∈pre++x::post→f∈S.ow:=fun f hf=>by
  rw[how]
  rcases List.mem_append.1 hf with q | q
  ·simp[q]
  ·rcases List.mem_cons.1 q with q | q
   ·simp[q]
   ·simp[q]
 rw[how]at ha;have hx:=fun g hg=>List.rel_of_pairwise_cons ha (a':=g) hg
 have ht:=List.Pairwise.of_cons ha
 rw[List.pairwise_append]at ht;obtain⟨p1,p2,p3⟩:=ht;refine⟨fun f hf=>P.own.at_ f (hm f hf),List.pairwise_append.2 ⟨p1,List.Pairwise.cons (fun g hg=>hx g (by simp[hg])) p2,fun f hf g hg b hb hb'=>?_⟩⟩
 rcases List.mem_cons.1 hg with q | q
 ·subst q;exact hx f (by simp[hf]) b hb' hb
 ·exact p3 f hf g q b hb hb'
theorem gN {ks:List KI}(d:Nat){k:Nat}(hp:iO ks=true)(hl:look S.sl d=some (.e k)){e sz n:Nat}{l:List Value}{G:Option Addr→Nat→Nat→List Value→OF}(hG:∀a n cap l,G a n cap l=OF.rv (.slice a n cap) c.B.heap.size e sz n l)
  {GK:Nat→Nat→List Value→OF} (hGK:∀q n l,GK q n l=OF.rk q c.B.heap.size e sz n l) (pre:List OF) {post:List OF} (how:S.ow=GK k n l::(pre++post))
  (h:∀a cap,Goal c K ⟨ks,{S with sl:=(d,.xs a n cap)::S.sl,ow:=pre++G a n cap l::post},[]⟩):Goal c K ⟨ks,S,[]⟩:=
 aM0 pre hp how (aZ8 (S:={S with ow:=pre++GK k n l::post}) d hp hl hG hGK pre rfl h)
end
end Go.Ai
namespace Go.Ai
open Go Go.Proofs Go.Num V3
theorem aPl:aB PP 106:=zK
theorem aNb:aB PP 148:=zK
theorem aI6:aB PP 181:=zK
theorem aPn:aB PP 107:=zK
theorem aC0:aB PP 149:=zK
theorem aAg:aB PP 52:=zK
theorem V3.le_zero (k:Nat)(h:1≤k):V3.zero.le k:=⟨lTr oT h,lTr oT h,lTr oT h⟩
theorem aXg {p:Pl}(hp:p.fit (2^26)):Pure PP 147 [nF p] (.int .i64 0):=by
 have k1:=aI0 (v:=V3.zero) hp.h0 hp.hn hp.ha (V3.le_zero _ (by decide))
 unfold fS kR at k1;rw[show aA V3.zero.x=⟨#[48]⟩ from fQ,show aA V3.zero.y=⟨#[48]⟩ from fQ,show aA V3.zero.z=⟨#[48]⟩ from fQ]at k1;clear hp;unfold nF at *;generalize kE (p.height V3.zero) 0=s at *;generalize aA p.n.x=a at *;generalize aA p.n.y=b at *;generalize aA p.n.z=d at *;generalize aA p.a=t at *;refine aG mixed tok [.g [.s (.v a),.s (.v b),.s (.v d),.s (.v t)]] Tryz.func147 rfl rfl (lbl rfl) rfl fun c hc hR=>?_
 refine zN hc ?_;cbv;refine zC hc (.t [.i .i64 (.v s),.i .i64 (.l 0)]) k1 lH ?_;cbv;exact aD hc hR rfl rfl
theorem aXf {l:List Tri}{p:Pl}(hp:p.fit (2^26))(hl:∀t,t∈l→t.le (2^29))(hn:l.length≤512)(hok:fL l=true){X:Nat→Prop}{w:World}{v:Value}(hX:∀b,X b→b<w.heap.size)(hv:(rowS l.length (gQ l)).p v X w):
  Fn PP 106 [v,nF p] X w (dJ (.int .i64 0)):=by
 have aA8:∀{X:Nat→Prop} {w:World} {v:Value},(∀b,X b→b<w.heap.size)→(rowS l.length (gQ l)).p v X w→Fn PP 100 [v] X w (dJ (.int .i64 0)):=fun hX hv=>by
  have:=xO (l:=l) hl hn hX hv
  unfold gZ at this
  rwa [if_pos hok]at this
 have k1:=aXg hp
 obtain⟨R,hRR⟩:=nm (dJ (.int .i64 0));obtain⟨N,hN⟩:=nm (l.length);rw[←hN]at hv hn aA8;obtain⟨K,hK⟩:=nm ([KF.cst v (rowS N (gQ l))]);rw[←hRR];unfold nF at *;generalize aA p.n.x=q1 at *;generalize aA p.n.y=q2 at *;generalize aA p.n.z=q3 at *;generalize aA p.a=q4 at *;refine bE mixed tok [.q v,.g [.s (.v q1),.s (.v q2),.s (.v q3),.s (.v q4)]] (K:=K) Tryz.func106 rfl rfl (lbl rfl) rfl hX (by rw[hK];simp;exact hv) fun c hc hR=>?_
 refine zN hc ?_;cbv;refine bL hc (.i .i64 (.l 0)) qT (fun n0 D X μ a w aL H hv=>?_) rfl 100 ?_
 ·obtain⟨u,rfl,e⟩:=aV hv;rw[cA e];exact aA8 H.xlt (H.cst (by rw[hK];exact .head _))
 cbv;refine zC hc (.i .i64 (.l 0)) k1 aPm ?_;cbv;refine aS hc hR rfl (fun X μ a w v' H hv'=>?_);rw[hRR];simp only[aC]at hv';injection hv' with hv'
 exact hv'.symm
def Tri.turn (t:Tri)(p:Pl):Tri:=t.rot (t.cutP p).1.toNat
def Tri.cx (t:Tri)(p:Pl):V3:=p.cut (t.turn p).a (t.turn p).b
def Tri.cy (t:Tri)(p:Pl):V3:=p.cut (t.turn p).a (t.turn p).c
def Tri.seg (t:Tri)(p:Pl):List Seg:=
 if(t.cutP p).1<0 then []else if t.cx p=t.cy p then []else if(t.cutP p).2 then [⟨t.cx p,t.cy p⟩]else [⟨t.cy p,t.cx p⟩]
def dB (p:Pl)(l:List Tri):List Seg:=l.flatMap fun t=>t.seg p
theorem aAv (a b d:Bool):((aCh a b d)=(-1,true)∧a=true∧b=true∧d=true)∨((aCh a b d)=(-1,false)∧a=false∧b=false∧d=false)∨(0≤(aCh a b d).1∧(aCh a b d).1<3):=by
 cases a<;>cases b<;>cases d<;>simp[aCh]
theorem aO7 {t:Tri}{p:Pl}(h:0≤(t.cutP p).1):p.over (t.turn p).a=(t.cutP p).2∧p.over (t.turn p).b= !(t.cutP p).2∧p.over (t.turn p).c= !(t.cutP p).2:=by
 unfold Tri.turn;unfold Tri.cutP at *;cases ha:p.over t.a<;>cases hb:p.over t.b<;>cases hd:p.over t.c<;>simp only[ha,hb,hd,aCh]at h ⊢<;>first | (exact absurd h (by decide)) | (refine⟨?_,?_,?_⟩<;>simp[Tri.rot,ha,hb,hd])
theorem aR2 {t:Tri}{k:Nat}(h:t.le k)(i:Nat):(t.rot i).le k:=by
 unfold Tri.rot;split
 ·exact h
 ·exact⟨h.2.1,h.2.2,h.1⟩
 ·exact⟨h.2.2,h.1,h.2.1⟩
theorem aX3 (t:Tri)(p:Pl):(t.cutP p).1.toNat<3:=by
 unfold Tri.cutP
 rcases aAv (p.over t.a) (p.over t.b) (p.over t.c)with h | h | h
 ·rw[h.1];decide
 ·rw[h.1];decide
 ·omega
theorem bCm {t:Tri}{p:Pl}{k:Nat}(hp:p.fit k)(h:t.le k):(t.cx p).le (25*k+14)∧(t.cy p).le (25*k+14):=by
 have h1:=aR2 h (t.cutP p).1.toNat
 exact⟨aFf hp.hn hp.ha h1.1 h1.2.1,aFf hp.hn hp.ha h1.1 h1.2.2⟩
theorem aVv (t:Tri)(p:Pl):(t.seg p).length≤1:=by
 unfold Tri.seg;split
 ·simp
 ·split
  ·simp
  ·split<;>simp
theorem lY {p:Pl}{l:List Tri}{i:Nat}{t:Tri}(h:l[i]?=some t):dB p (l.take (i+1))=dB p (l.take i)++t.seg p:=by
 obtain⟨h1,h2⟩:=List.getElem?_eq_some_iff.1 h;unfold dB;rw[List.take_succ_eq_append_getElem h1,List.flatMap_append,h2];simp
theorem wF (p:Pl)(l:List Tri):(dB p l).length≤l.length:=by
 unfold dB
 induction l with
 | nil=>simp
 | cons t l ih=>have:=aVv t p;simp only[List.flatMap_cons,List.length_append,List.length_cons];omega
theorem aFu {p:Pl}{l:List Tri}{k:Nat}(hp:p.fit k)(hl:∀t,t∈l→t.le k){s:Seg}(hs:s∈dB p l):s.a.le (25*k+14)∧s.b.le (25*k+14):=by
 unfold dB at hs;obtain⟨t,ht,h⟩:=List.mem_flatMap.1 hs;have h1:=bCm hp (hl t ht)
 unfold Tri.seg at h;split at h
 ·cases h
 split at h
 ·cases h
 split at h
 ·simp at h;subst h;exact h1
 ·simp at h;subst h;exact⟨h1.2,h1.1⟩
theorem aO:aB PP 158:=zK
theorem aPw:aB PP 117:=zK
theorem aJ9 {p:Pl}{v:V3}(hp:p.fit (2^26))(hv:v.le (2^26)):Pure PP 158 [nF p,fS v] (.bool (p.over v)):=by
 have k1:=aI0 hp.h0 hp.hn hp.ha hv
 have e:=oJ (p.height v)
 unfold Pl.over;rw[←e];clear hp hv e;unfold nF fS kR at *;generalize kE (p.height v) 0=s at *;generalize aA p.n.x=a at *;generalize aA p.n.y=b at *;generalize aA p.n.z=d at *;generalize aA p.a=t at *;generalize aA v.x=a' at *;generalize aA v.y=b' at *;generalize aA v.z=d' at *;refine aG mixed tok [.g [.s (.v a),.s (.v b),.s (.v d),.s (.v t)],iL a' b' d'] Tryz.func158 rfl rfl (lbl rfl) rfl fun c hc hR=>?_
 refine zN hc ?_;cbv;refine zC hc (.t [.i .i64 (.v s),.i .i64 (.l 0)]) k1 lH ?_;cbv;exact aD hc hR rfl rfl
theorem sQ {d x y z x' y' z':Rat}{k m:Nat}(hd:sz d≤m)(hx:sz x≤k)(hy:sz y≤k)(hz:sz z≤k)(hx':sz x'≤k)(hy':sz y'≤k)(hz':sz z'≤k):sz (nB d x y z x' y' z')≤m+12*k+12:=by
 unfold nB;have h1:=sz_aa (sz_aa hx hy) hz
 have h2:=sz_aa (sz_aa hx' hy') hz'
 have h3:=sz_aa (sz_aa (sz_aa (sz_mm h1 h2) (sz_mm hx hx')) (sz_mm hy hy')) (sz_mm hz hz')
 exact lTr (sz_mm (sz_mm hd h3) aWz) (by omega)
theorem aK3 {d x y z:Rat}{k m:Nat}(hd:sz d≤m)(hx:sz x≤k)(hy:sz y≤k)(hz:sz z≤k):sz (d*(x+y+z)*(1/24))≤m+3*k+6:=
 lTr (sz_mm (sz_mm hd (sz_aa (sz_aa hx hy) hz)) aS6) (by omega)
theorem vN {t:Tri}{k:Nat}(h:t.le k):t.mass.le (27*k+17):=by
 have hd:=aS7 h
 obtain⟨⟨a1,a2,a3⟩,⟨b1,b2,b3⟩,c1,c2,c3⟩:=h;refine⟨lTr (sz_mm hd sz6) (by omega),⟨?_,?_,?_⟩,?_,?_,?_,?_,?_,?_⟩
 ·exact lTr (aK3 hd a1 b1 c1) (by omega)
 ·exact lTr (aK3 hd a2 b2 c2) (by omega)
 ·exact lTr (aK3 hd a3 b3 c3) (by omega)
 ·exact lTr (sQ hd a1 b1 c1 a1 b1 c1) (by omega)
 ·exact lTr (sQ hd a2 b2 c2 a2 b2 c2) (by omega)
 ·exact lTr (sQ hd a3 b3 c3 a3 b3 c3) (by omega)
 ·exact lTr (sQ hd a1 b1 c1 a2 b2 c2) (by omega)
 ·exact lTr (sQ hd a2 b2 c2 a3 b3 c3) (by omega)
 ·exact lTr (sQ hd a3 b3 c3 a1 b1 c1) (by omega)
def Pl.low (p:Pl)(a n:V3):List V3:=(if p.over a then []else [a])++(if p.over a=p.over n then []else [p.cut a n])
def Tri.low (t:Tri)(p:Pl):List V3:=p.low t.a t.b++p.low t.b t.c++p.low t.c t.a
def fan:List V3→Ms→Ms
 | [a,b,c],s=>s.add (Tri.mass ⟨a,b,c⟩)
 | [a,b,c,d],s=>(s.add (Tri.mass ⟨a,b,c⟩)).add (Tri.mass ⟨a,c,d⟩)
 | _,s=>s
def aSx (l:List Seg):Ms:=l.foldl (fun s g=>s.add (Tri.mass ⟨(l.headD ⟨V3.zero,V3.zero⟩).a,g.a,g.b⟩)) Ms.none
def aU5 (p:Pl)(l:List Tri)(s:Ms):Ms:=l.foldl (fun s t=>fan (t.low p) s) s
def aT (p:Pl)(l:List Tri):Ms:=aU5 p l (aSx (dB p l))
theorem Ms.none_le:Ms.none.le 1:=⟨oT,⟨oT,oT,oT⟩,oT,oT,oT,oT,oT,oT⟩
theorem aQ4 {p:Pl}{t:Tri}{s:Ms}{k m:Nat}(hp:p.fit k)(ht:t.le k)(hs:s.le m):(fan (t.low p) s).le (m+2*(27*(25*k+14)+18)):=by
 have hc:∀u v:V3,u.le k→v.le k→(p.cut u v).le (25*k+14):=fun u v hu hv=>aFf hp.hn hp.ha hu hv
 have key:∀u v w:V3,u.le (25*k+14)→v.le (25*k+14)→w.le (25*k+14)→∀{s:Ms} {m:Nat},s.le m→(s.add (Tri.mass ⟨u,v,w⟩)).le (m+(27*(25*k+14)+18)):=fun u v w hu hv hw s m hs=>(Ms.le_add hs (vN (t:=⟨u,v,w⟩) ⟨hu,hv,hw⟩)).mono (by omega)
 have oB:∀v,v∈t.low p→v.le (25*k+14):=by
  intro v hv;have hl:∀a n:V3,a.le k→n.le k→v∈p.low a n→v.le (25*k+14):=by
   intro a n ha hn hv;unfold Pl.low at hv
   rcases List.mem_append.1 hv with h | h
   ·split at h
    ·cases h
    ·simp at h;subst h;exact ha.mono (by omega)
   ·split at h
    ·cases h
    ·simp at h;subst h;exact hc _ _ ha hn
  unfold Tri.low at hv
  rcases List.mem_append.1 hv with h | h
  ·rcases List.mem_append.1 h with h | h
   ·exact hl _ _ ht.1 ht.2.1 h
   ·exact hl _ _ ht.2.1 ht.2.2 h
  ·exact hl _ _ ht.2.2 ht.1 h
 generalize t.low p=L at oB;unfold fan;split
 ·exact(key _ _ _ (oB _ (by simp)) (oB _ (by simp)) (oB _ (by simp)) hs).mono (by omega)
 ·exact(key _ _ _ (oB _ (by simp)) (oB _ (by simp)) (oB _ (by simp)) (key _ _ _ (oB _ (by simp)) (oB _ (by simp)) (oB _ (by simp)) hs)).mono (by omega)
 ·exact hs.mono (by omega)
theorem kJ {α β:Type}(f:β→α→β)(b:β){l:List α}{i:Nat}{x:α}(h:l[i]?=some x):(l.take (i+1)).foldl f b=f ((l.take i).foldl f b) x:=by
 obtain⟨h1,h2⟩:=List.getElem?_eq_some_iff.1 h;rw[List.take_succ_eq_append_getElem h1,List.foldl_append,h2];rfl
theorem vF {α:Type}(f:Ms→α→Ms){l:List α}{b:Ms}{m d:Nat}(hb:b.le m)(hf:∀(s:Ms) (x:α) (k:Nat),x∈l→s.le k→(f s x).le (k+d)):∀i,i≤l.length→((l.take i).foldl f b).le (m+i*d)
 | 0,_=>by simpa using hb
 | i+1,h=>by
  have h1:l[i]?=some l[i]:=by simp
  rw[kJ f b h1];exact(hf _ _ _ (List.getElem_mem _) (vF f hb hf i (by omega))).mono (by rw[Nat.add_mul];omega)
theorem qO:aB PP 97:=zK
theorem uL:aB PP 98:=zK
theorem aC2:aB PP 142:=zK
theorem kD:aB PP 143:=zK
theorem aGb:aB PP 132:=zK
theorem aGc:aB PP 134:=zK
theorem aPq:aB PP 172:=zK
theorem aPr:aB PP 173:=zK
def cB (n:Nat):Int:=if n=0 then 9 else if 512<n then 8 else 0
theorem aQ1 {L:List ByteArray}{N:Nat}(hL:L.length=9*N){X:Nat→Prop}{w:World}{v:Value}(hX:∀b,X b→b<w.heap.size)(hv:(rowS N L).p v X w):
  Fn PP 97 [v] X w (dJ (.int .i64 (cB N))):=by
 obtain⟨R,hRR⟩:=nm (dJ (.int .i64 (cB N)));obtain⟨Q,hQ⟩:=nm (9*N);obtain⟨K,hK⟩:=nm ([KF.cst v (rowS N L)]);rw[←hRR];have hs8:N≠0→(512:Int)<(N:Int)→cB N=8:=fun h h2=>by unfold cB;rw[if_neg h,if_pos (by omega)]
 have hs0:N≠0→¬(512:Int)<(N:Int)→cB N=0:=fun h h2=>by unfold cB;rw[if_neg h,if_neg (by omega)]
 refine bE mixed tok [.q v] (K:=K) Tryz.func97 rfl rfl (lbl rfl) rfl hX (by rw[hK];simp;exact hv) fun c hc hR=>?_
 refine iB 0 N Q L (by rw[hL,hQ]) rfl rfl (fun X μ a w v' H hv'=>cE H (by rw[hK];exact .head _) hv') (fun f cap hf dI=>?_);have fin:∀k:Int,cB N=k→∀{v':Value} {X:Nat→Prop} {w:World} {μ:Mu},aC μ (.i .i64 (.l k))=some v'→R.p v' X w:=fun k hk v' X w μ hv'=>by
  rw[hRR,hk];simp only[aC,IE.den]at hv';injection hv' with hv'
  exact hv'.symm
 refine zN hc ?_;cbv;refine aE hc rfl 100 (fun h=>?_) (fun h=>?_)
 ·have h:N=0:=by
   have h:decide ((N:Int)=0)=true:=h
   have:=of_decide_eq_true h
   omega
  cbv;exact aS hc hR rfl (fun X μ a w v' H hv'=>fin 9 (by unfold cB;rw[if_pos h]) hv')
 ·have h:N≠0:=by
   have h:decide ((N:Int)=0)=false:=h
   have:=of_decide_eq_false h
   omega
  cbv;refine aE hc rfl 100 (fun h2=>?_) (fun h2=>?_)
  ·have h2:(512:Int)<(N:Int):=BE.lt_t h2
   cbv;exact aS hc hR rfl (fun X μ a w v' H hv'=>fin 8 (hs8 h h2) hv')
  ·have h2:¬(512:Int)<(N:Int):=BE.lt_f h2
   cbv;exact aS hc hR rfl (fun X μ a w v' H hv'=>fin 0 (hs0 h h2) hv')
theorem aA3 {a b d:ByteArray}(ha:a.size≤2^31)(hb:b.size≤2^31)(hd:d.size≤2^31):Pure PP 143 [kR a b d] (.bool (!(iK a&&iK b&&iK d))):=by
 have k1:=aTo ha hb hd
 unfold kR at *;generalize (iK a&&iK b&&iK d)=r at *;refine aG mixed tok [iL a b d] Tryz.func143 rfl rfl (lbl rfl) rfl fun c hc hR=>?_
 refine zN hc ?_;cbv;refine zC hc (.b (.v r)) k1 eI ?_;cbv;exact aD hc hR rfl rfl
def aI3 (a1 a2 a3 b1 b2 b3 d1 d2 d3:ByteArray):Bool:= !(iK a1&&iK a2&&iK a3)|| !(iK b1&&iK b2&&iK b3)|| !(iK d1&&iK d2&&iK d3)
theorem aUr {a1 a2 a3 b1 b2 b3 d1 d2 d3:ByteArray}(h1:a1.size≤2^31)(h2:a2.size≤2^31)(h3:a3.size≤2^31)(h4:b1.size≤2^31)(h5:b2.size≤2^31)(h6:b3.size≤2^31)(h7:d1.size≤2^31)(h8:d2.size≤2^31)(h9:d3.size≤2^31):
  Pure PP 142 [.agg #[.string a1,.string a2,.string a3,.string b1,.string b2,.string b3,.string d1,.string d2,.string d3]] (.bool (aI3 a1 a2 a3 b1 b2 b3 d1 d2 d3)):=by
 have k1:=aA3 h1 h2 h3
 have k2:=aA3 h4 h5 h6
 have k3:=aA3 h7 h8 h9
 unfold aI3;unfold kR at *;clear h1 h2 h3 h4 h5 h6 h7 h8 h9;generalize (!(iK a1&&iK a2&&iK a3))=x1 at *;generalize (!(iK b1&&iK b2&&iK b3))=x2 at *;generalize (!(iK d1&&iK d2&&iK d3))=x3 at *;refine aG mixed tok [.g [.s (.v a1),.s (.v a2),.s (.v a3),.s (.v b1),.s (.v b2),.s (.v b3),.s (.v d1),.s (.v d2),.s (.v d3)]] Tryz.func142 rfl rfl (lbl rfl) rfl fun c hc hR=>?_
 refine zN hc ?_;cbv;refine cJ hc Tryz.func134 rfl rfl aGc rfl (fun c1 tm1 FR1 gC hc1 L1=>?_);refine zN hc1 ?_;cbv;refine cJ hc1 Tryz.func173 rfl rfl aPr rfl (fun c2 tm2 FR2 aA7 hc2 L2=>?_);refine zN hc2 ?_;cbv;refine aW 4 (fun p hp=>?_);refine hp _ _ _ ?_;refine zN hc2 ?_;cbv;cases x1
 ·refine zC hc2 (.b (.l false)) k1 kD ?_;cbv;refine hp _ _ _ ?_;refine zN hc2 ?_;cbv;cases x2
  ·refine zC hc2 (.b (.l false)) k2 kD ?_;cbv;refine hp _ _ _ ?_;refine zN hc2 ?_;cbv;cases x3
   ·refine zC hc2 (.b (.l false)) k3 kD ?_;cbv;refine hp _ _ _ ?_;refine zN hc2 ?_;cbv;refine cL hc2 L2 aA7 (.head _) rfl ?_;refine zN hc1 ?_;cbv;refine cL hc1 L1 gC (.tail _ (.head _)) rfl ?_;refine zN hc ?_;cbv;exact aD hc hR rfl rfl
   ·refine zC hc2 (.b (.l true)) k3 kD ?_;cbv;refine cL hc2 L2 aA7 (.head _) rfl ?_;refine zN hc1 ?_;cbv;refine cL hc1 L1 gC (.tail _ (.head _)) rfl ?_;refine zN hc ?_;cbv;exact aD hc hR rfl rfl
  ·refine zC hc2 (.b (.l true)) k2 kD ?_;cbv;refine cL hc2 L2 aA7 (.head _) rfl ?_;refine zN hc1 ?_;cbv;refine cL hc1 L1 gC (.tail _ (.head _)) rfl ?_;refine zN hc ?_;cbv;exact aD hc hR rfl rfl
 ·refine zC hc2 (.b (.l true)) k1 kD ?_;cbv;refine cL hc2 L2 aA7 (.head _) rfl ?_;refine zN hc1 ?_;cbv;refine cL hc1 L1 gC (.tail _ (.head _)) rfl ?_;refine zN hc ?_;cbv;exact aD hc hR rfl rfl
def nH (L:List ByteArray):Bool:= !(L.all iK)
theorem nine {L:List ByteArray}{N x:Nat}(hL:L.length=9*N)(hx:x<N):∃a1 a2 a3 b1 b2 b3 d1 d2 d3,L[x*9+0]?=some a1∧L[x*9+1]?=some a2∧L[x*9+2]?=some a3∧L[x*9+3]?=some b1∧L[x*9+4]?=some b2∧L[x*9+5]?=some b3∧L[x*9+6]?=some d1∧L[x*9+7]?=some d2∧L[x*9+8]?=some d3:=by
 have h:∀i,i<9→∃a,L[x*9+i]?=some a:=fun i hi=>⟨L[x*9+i]'(by omega),by simp⟩
 obtain⟨a1,e1⟩:=h 0 (by omega);obtain⟨a2,e2⟩:=h 1 (by omega);obtain⟨a3,e3⟩:=h 2 (by omega);obtain⟨b1,e4⟩:=h 3 (by omega);obtain⟨b2,e5⟩:=h 4 (by omega);obtain⟨b3,e6⟩:=h 5 (by omega);obtain⟨d1,e7⟩:=h 6 (by omega);obtain⟨d2,e8⟩:=h 7 (by omega);obtain⟨d3,e9⟩:=h 8 (by omega);exact⟨_,_,_,_,_,_,_,_,_,e1,e2,e3,e4,e5,e6,e7,e8,e9⟩
def aYa (L:List ByteArray)(x:Nat):Prop:=∀i a,i<x*9→L[i]?=some a→iK a=true
theorem aQ5 {L:List ByteArray}{N:Nat}(hL:L.length=9*N)(h:aYa L N):nH L=false:=by
 unfold nH;rw[Bool.not_eq_false',List.all_eq_true];intro a ha;obtain⟨i,hi⟩:=List.getElem?_of_mem ha;exact h i a (by have:=(List.getElem?_eq_some_iff.1 hi).1;omega) hi
theorem pA {L:List ByteArray}{i:Nat}{a:ByteArray}(h:L[i]?=some a)(hb:iK a=false):nH L=true:=by
 unfold nH;rw[Bool.not_eq_true',←Bool.not_eq_true,List.all_eq_true];intro h2;have:=h2 a (List.mem_of_getElem? h)
 rw[hb]at this;cases this
theorem aQ2 {L:List ByteArray}{N:Nat}(hL:L.length=9*N)(hN:N≤512)(hs:∀a,a∈L→a.size≤2^31){X:Nat→Prop}{w:World}{v:Value}(hX:∀b,X b→b<w.heap.size)(hv:(rowS N L).p v X w):
  Fn PP 98 [v] X w (dJ (.bool (!nH L))):=by
 obtain⟨R,hRR⟩:=nm (dJ (.bool (!nH L)));obtain⟨Q,hQ⟩:=nm (9*N);obtain⟨K,hK⟩:=nm ([KF.cst v (rowS N L)]);rw[←hRR];have fin:∀k:Bool,nH L=k→∀{v':Value} {X:Nat→Prop} {w:World} {μ:Mu},aC μ (.b (.l (!k)))=some v'→R.p v' X w:=fun k hk v' X w μ hv'=>by
  rw[hRR,hk];simp only[aC,BE.den]at hv';injection hv' with hv'
  exact hv'.symm
 refine bE mixed tok [.q v] (K:=K) Tryz.func98 rfl rfl (lbl rfl) rfl hX (by rw[hK];simp;exact hv) fun c hc hR=>?_
 refine iB 0 N Q L (by rw[hL,hQ]) rfl rfl (fun X μ a w v' H hv'=>cE H (by rw[hK];exact .head _) hv') (fun f cap hf dI=>?_);refine zN hc ?_;cbv;refine cJ hc Tryz.func132 rfl rfl aGb rfl (fun c1 tm1 FR1 gC hc1 L1=>?_);refine zN hc1 ?_;cbv;refine cJ hc1 Tryz.func172 rfl rfl aPq rfl (fun c2 tm2 FR2 aA7 hc2 L2=>?_);refine zN hc2 ?_;cbv;let ι:={x:Nat//x≤N∧aYa L x}
 let I:ι→St:=fun x=>⟨[(0,.sl 0 0 (.n N) cap),(1,.f (.func 142) [] []),(7,.i .i64 (.n N)),(8,.i .i64 (.n x.1))],[.xs Q f],[]⟩
 let x0:ι:=⟨0,Nat.zero_le _,fun i a hi=>by omega⟩
 refine zU 1 (S':=I x0) (K':=FR2::FR1::K) ⟨zS rfl rfl,zS rfl rfl,zS rfl rfl,zS rfl rfl,trivial⟩ (by subst hK;exact⟨⟨.head _,by rw[aA7];exact KFr.fr rfl _⟩,⟨.tail _ (.head _),by rw[gC];exact KFr.fr rfl _⟩,⟨.tail _ (.tail _ (.head _)),KFr.cst _ _ _⟩,trivial⟩) trivial ?_;refine bP hc2 I (fun x=>N - x.1) x0 100 ?_;rintro p ⟨x,hx,aWg⟩ hy;cbv;refine aE hc2 rfl 100 (fun h=>?_) (fun h=>?_)
 ·have hxN:x<N:=BE.ltn_t h
  obtain⟨a1,a2,a3,b1,b2,b3,d1,d2,d3,e0,e1,e2,e3,e4,e5,e6,e7,e8⟩:=nine hL hxN;have r9:=re9 (hf _ _ e0) (hf _ _ e1) (hf _ _ e2) (hf _ _ e3) (hf _ _ e4) (hf _ _ e5) (hf _ _ e6) (hf _ _ e7) (hf _ _ e8)
  have sz:∀{i:Nat} {a:ByteArray},L[i]?=some a→a.size≤2^31:=fun h=>hs _ (List.mem_of_getElem? h)
  have k1:=aUr (sz e0) (sz e1) (sz e2) (sz e3) (sz e4) (sz e5) (sz e6) (sz e7) (sz e8)
  have o1:(Obl.ltE (.n x) (.n N)).ok:=by show _∧_;simp only[IE.den];omega
  have o2:(Obl.ix 0 (.n x) 9 0 9 Q).ok:=by show aX 0 (x:Int) 9 0+9≤Q;simp only[aX,Int.toNat_natCast];omega
  have o3:(Obl.inR .i64 (.add (.n x) (.l 1))).ok:=by show lo _≤_∧_≤hi _;simp only[lo,hi,IE.den];omega
  obtain⟨x',hx'⟩:=nm (x+1);have hi1:((IE.n x).add (IE.l 1)).den=(IE.n x').den:=by simp only[IE.den,hx'];omega
  have xK:aI3 a1 a2 a3 b1 b2 b3 d1 d2 d3=true→nH L=true:=fun hb=>by
   unfold aI3 at hb;simp only[Bool.or_eq_true,Bool.not_eq_true',Bool.and_eq_false_iff]at hb
   rcases hb with((((h | h) | h) | ((h | h) | h)) | ((h | h) | h))
   ·exact pA e0 h
   ·exact pA e1 h
   ·exact pA e2 h
   ·exact pA e3 h
   ·exact pA e4 h
   ·exact pA e5 h
   ·exact pA e6 h
   ·exact pA e7 h
   ·exact pA e8 h
  have tA:aI3 a1 a2 a3 b1 b2 b3 d1 d2 d3=false→aYa L x':=fun hb=>by
   unfold aI3 at hb;simp only[Bool.or_eq_false_iff,Bool.not_eq_false',Bool.and_eq_true]at hb;obtain⟨⟨⟨⟨h0,h1⟩,h2⟩,⟨⟨h3,h4⟩,h5⟩⟩,⟨⟨h6,h7⟩,h8⟩⟩:=hb;intro i a hi ha
   by_cases hix:i<x*9
   ·exact aWg i a hix ha
   ·have aRb:i=x*9+0∨i=x*9+1∨i=x*9+2∨i=x*9+3∨i=x*9+4∨i=x*9+5∨i=x*9+6∨i=x*9+7∨i=x*9+8:=by omega
    rcases aRb with h | h | h | h | h | h | h | h | h<;>subst h
    ·rw[e0]at ha;injection ha with ha;subst ha;exact h0
    ·rw[e1]at ha;injection ha with ha;subst ha;exact h1
    ·rw[e2]at ha;injection ha with ha;subst ha;exact h2
    ·rw[e3]at ha;injection ha with ha;subst ha;exact h3
    ·rw[e4]at ha;injection ha with ha;subst ha;exact h4
    ·rw[e5]at ha;injection ha with ha;subst ha;exact h5
    ·rw[e6]at ha;injection ha with ha;subst ha;exact h6
    ·rw[e7]at ha;injection ha with ha;subst ha;exact h7
    ·rw[e8]at ha;injection ha with ha;subst ha;exact h8
  clear e0 e1 e2 e3 e4 e5 e6 e7 e8;generalize aI3 a1 a2 a3 b1 b2 b3 d1 d2 d3=b at k1 xK tA;cases b with
  | true=>
   have xK:=xK rfl
   cbv;refine aQ hc2 ⟨o1,o2,trivial⟩ ?_;refine fX hc2 (.b (.l true)) k1 aC2 (dY (dG r9) rfl) rfl 100 ?_;cbv;refine cL hc2 L2 aA7 (.head _) rfl ?_;refine zN hc1 ?_;cbv;refine cL hc1 L1 gC (.tail _ (.head _)) rfl ?_;refine zN hc ?_;cbv;refine aS hc hR rfl (fun X μ a w v' H hv'=>?_);refine fin true xK (μ:=μ) ?_;rw[←hv'];show some (Value.bool _)=some (Value.bool _)
   have:decide ((0:Int)≤(x:Int))=true:=decide_eq_true (Int.natCast_nonneg x)
   congr 2
  | false=>
   have tA:=tA rfl
   have hyx:=hy ⟨x',by omega,tA⟩ (by show N - x'<N - x;omega)
   clear hy;cbv;refine aQ hc2 ⟨o1,o2,trivial⟩ ?_;refine fX hc2 (.b (.l false)) k1 aC2 (dY (dG r9) rfl) rfl 100 ?_;cbv;refine aQ hc2 ⟨o3,trivial⟩ ?_;exact zU 1 (S':=I ⟨x',by omega,tA⟩) (K':=FR2::FR1::K) ⟨zS rfl rfl,zS rfl rfl,zS rfl rfl,zI rfl rfl hi1,trivial⟩ (by subst hK;exact⟨⟨.head _,by rw[aA7];exact KFr.fr rfl _⟩,⟨.tail _ (.head _),by rw[gC];exact KFr.fr rfl _⟩,⟨.tail _ (.tail _ (.head _)),KFr.cst _ _ _⟩,trivial⟩) trivial hyx
 ·have hxN:x=N:=by have:=BE.ltn_f h;omega
  have xK:nH L=false:=aQ5 hL (hxN▸aWg)
  clear hy;cbv;refine cL hc2 L2 aA7 (.head _) rfl ?_;refine zN hc1 ?_;cbv;refine cL hc1 L1 gC (.tail _ (.head _)) rfl ?_;refine zN hc ?_;cbv;refine aS hc hR rfl (fun X μ a w v' H hv'=>?_);exact fin false xK (μ:=μ) (by rw[←hv'];rfl)
theorem aAi:aB PP 48:=zK
theorem qP:aB PP 60:=zK
theorem wW:aB PP 19:=zK
structure Raw where
 L:List ByteArray
 N:Nat
 h:ByteArray
 t:ByteArray
 d:ByteArray
def Raw.attV (r:Raw):Value:=.agg #[.string r.h,.string r.t]
inductive Raw.errs (r:Raw):Int→Prop
 | solid:cB r.N≠0→r.errs (cB r.N)
 | bad:cB r.N=0→nH r.L=true→(∀a,a∈r.L→a.size≤2^31)→r.errs 1
 | att (e:Int):cB r.N=0→nH r.L=false→(∀a,a∈r.L→a.size≤2^31)→e≠0→Pure PP 99 [r.attV,.string r.d] (.tuple #[.agg #[.string ⟨#[]⟩,.string ⟨#[]⟩,.string ⟨#[]⟩,.string ⟨#[]⟩],.int .i64 e])→r.errs e
 | op (l:List Tri) (p:Pl):cB r.N=0→nH r.L=false→(∀a,a∈r.L→a.size≤2^31)→r.L=gQ l→(∀t,t∈l→t.le (2^29))→Pure PP 99 [r.attV,.string r.d] (.tuple #[nF p,.int .i64 0])→fL l=false→r.errs 17
structure Raw.good (r:Raw)(l:List Tri)(p:Pl):Prop where
 so:cB r.N=0
 ba:nH r.L=false
 sz:∀a,a∈r.L→a.size≤2^31
 eq:r.L=gQ l
 le:∀t,t∈l→t.le (2^29)
 kw:Pure PP 99 [r.attV,.string r.d] (.tuple #[nF p,.int .i64 0])
 ok:fL l=true
theorem wI {n:Nat}(h:cB n=0):n≤512∧n≠0:=by
 unfold cB at h;split at h
 ·cases h
 ·split at h
  ·cases h
  ·omega
theorem aJr {r:Raw}{e:Int}(hr:r.errs e)(hL:r.L.length=9*r.N){X:Nat→Prop}{w:World}{v:Value}(hX:∀b,X b→b<w.heap.size)(hv:(rowS r.N r.L).p v X w):
  Fn PP 48 [v,r.attV,.string r.d] X w (dJ (.tuple #[.agg #[.string ⟨#[]⟩,.string ⟨#[]⟩,.string ⟨#[]⟩,.string ⟨#[]⟩],.int .i64 e])):=by
 have ksol:∀{X:Nat→Prop} {w:World} {v:Value},(∀b,X b→b<w.heap.size)→(rowS r.N r.L).p v X w→Fn PP 97 [v] X w (dJ (.int .i64 (cB r.N))):=fun hX hv=>aQ1 hL hX hv
 have rH:cB r.N=0→(∀a,a∈r.L→a.size≤2^31)→∀{X:Nat→Prop} {w:World} {v:Value},(∀b,X b→b<w.heap.size)→(rowS r.N r.L).p v X w→Fn PP 98 [v] X w (dJ (.bool (!nH r.L))):=fun h0 hs X w v hX hv=>aQ2 hL (wI h0).1 hs hX hv
 obtain⟨R,hRR⟩:=nm (dJ (.tuple #[.agg #[.string ⟨#[]⟩,.string ⟨#[]⟩,.string ⟨#[]⟩,.string ⟨#[]⟩],.int .i64 e]));rw[←hRR];unfold Raw.attV;obtain⟨RS,hRS⟩:=nm (rowS r.N r.L);rw[←hRS]at hv ksol rH;obtain⟨K,hK⟩:=nm ([KF.cst v RS]);have fin:∀{v':Value} {X:Nat→Prop} {w:World} {μ:Mu},aC μ (.t [.g [.s (.v ⟨#[]⟩),.s (.v ⟨#[]⟩),.s (.v ⟨#[]⟩),.s (.v ⟨#[]⟩)],.i .i64 (.v e)])=some v'→R.p v' X w:=fun {v'} {X} {w} {μ} hv'=>by
  rw[hRR];simp only[aC,aH,IE.den,SE.den]at hv';injection hv' with hv'
  exact hv'.symm
 refine bE mixed tok [.q v,.g [.s (.v r.h),.s (.v r.t)],.s (.v r.d)] (K:=K) Tryz.func48 rfl rfl (lbl rfl) rfl hX (by rw[hK];simp;exact hv) fun c hc hR=>?_
 have hne:e≠0:=by
  cases hr with
  | solid h=>exact h
  | bad h h2=>decide
  | att e h h2 h3 h4=>exact h4
  | op l p h h2 h3 h4 h5 h6 h7=>decide
 cases hr with
 | solid h0=>
  clear h0;generalize cB r.N=e at *;refine zN hc ?_;cbv;refine bL hc (.i .i64 (.v e)) qO (fun n0 D X μ a w aL H hv=>?_) rfl 100 ?_
  ·obtain⟨u,rfl,e'⟩:=aV hv;rw[cA e'];exact ksol H.xlt (H.cst (by rw[hK];exact .head _))
  cbv;refine aE hc rfl 100 (fun h=>?_) (fun h=>?_)
  ·cbv;refine aS hc hR rfl (fun X μ a w v' H hv'=>fin (μ:=μ) hv')
  ·have h:(!decide (e=0))=false:=h
   simp at h;exact absurd h hne
 | bad h0 hb hs=>
  rw[h0]at ksol;have rH:=@rH h0 hs
  rw[hb]at rH;refine zN hc ?_;cbv;refine bL hc (.i .i64 (.l 0)) qO (fun n0 D X μ a w aL H hv=>?_) rfl 100 ?_
  ·obtain⟨u,rfl,e'⟩:=aV hv;rw[cA e'];exact ksol H.xlt (H.cst (by rw[hK];exact .head _))
  cbv;refine bL hc (.b (.l false)) uL (fun n0 D X μ a w aL H hv=>?_) rfl 100 ?_
  ·obtain⟨u,rfl,e'⟩:=aV hv;rw[cA e'];exact rH H.xlt (H.cst (by rw[hK];exact .head _))
  cbv;refine aS hc hR rfl (fun X μ a w v' H hv'=>fin (μ:=μ) hv')
 | att e h0 hb hs bF6 kw=>
  rw[h0]at ksol;have rH:=@rH h0 hs
  rw[hb]at rH;unfold Raw.attV at kw;refine zN hc ?_;cbv;refine bL hc (.i .i64 (.l 0)) qO (fun n0 D X μ a w aL H hv=>?_) rfl 100 ?_
  ·obtain⟨u,rfl,e'⟩:=aV hv;rw[cA e'];exact ksol H.xlt (H.cst (by rw[hK];exact .head _))
  cbv;refine bL hc (.b (.l true)) uL (fun n0 D X μ a w aL H hv=>?_) rfl 100 ?_
  ·obtain⟨u,rfl,e'⟩:=aV hv;rw[cA e'];exact rH H.xlt (H.cst (by rw[hK];exact .head _))
  cbv;refine zC hc (.t [.g [.s (.v ⟨#[]⟩),.s (.v ⟨#[]⟩),.s (.v ⟨#[]⟩),.s (.v ⟨#[]⟩)],.i .i64 (.v e)]) kw aAk ?_;cbv;refine aE hc rfl 100 (fun h=>?_) (fun h=>?_)
  ·cbv;refine aS hc hR rfl (fun X μ a w v' H hv'=>fin (μ:=μ) hv')
  ·have h:(!decide (e=0))=false:=h
   simp at h;exact absurd h hne
 | op l p h0 hb hs hLe hle kw hop=>
  rw[h0]at ksol;have rH:=@rH h0 hs
  rw[hb]at rH;have hlen:l.length=r.N:=by
   have:=hL
   rw[hLe,fP]at this;omega
  have kmesh:∀{X:Nat→Prop} {w:World} {v:Value},(∀b,X b→b<w.heap.size)→RS.p v X w→Fn PP 100 [v] X w (dJ (.int .i64 17)):=fun {X} {w} {v} hX hv=>by
   rw[hRS,hLe,←hlen]at hv;have:=xO (l:=l) hle (by have:=(wI h0).1;omega) hX hv
   unfold gZ at this
   rwa [hop]at this
  unfold Raw.attV nF at kw;generalize aA p.n.x=q1 at *;generalize aA p.n.y=q2 at *;generalize aA p.n.z=q3 at *;generalize aA p.a=q4 at *;refine zN hc ?_;cbv;refine bL hc (.i .i64 (.l 0)) qO (fun n0 D X μ a w aL H hv=>?_) rfl 100 ?_
  ·obtain⟨u,rfl,e'⟩:=aV hv;rw[cA e'];exact ksol H.xlt (H.cst (by rw[hK];exact .head _))
  cbv;refine bL hc (.b (.l true)) uL (fun n0 D X μ a w aL H hv=>?_) rfl 100 ?_
  ·obtain⟨u,rfl,e'⟩:=aV hv;rw[cA e'];exact rH H.xlt (H.cst (by rw[hK];exact .head _))
  cbv;refine zC hc (.t [.g [.s (.v q1),.s (.v q2),.s (.v q3),.s (.v q4)],.i .i64 (.l 0)]) kw aAk ?_;cbv;refine bL hc (.i .i64 (.l 17)) qT (fun n0 D X μ a w aL H hv=>?_) rfl 100 ?_
  ·obtain⟨u,rfl,e'⟩:=aV hv;rw[cA e'];exact kmesh H.xlt (H.cst (by rw[hK];exact .head _))
  cbv;refine aS hc hR rfl (fun X μ a w v' H hv'=>fin (μ:=μ) hv')
theorem aDl {r:Raw}{l:List Tri}{p:Pl}(hg:r.good l p)(hL:r.L.length=9*r.N){X:Nat→Prop}{w:World}{v:Value}(hX:∀b,X b→b<w.heap.size)(hv:(rowS r.N r.L).p v X w):
  Fn PP 48 [v,r.attV,.string r.d] X w (dJ (.tuple #[nF p,.int .i64 0])):=by
 have ksol:∀{X:Nat→Prop} {w:World} {v:Value},(∀b,X b→b<w.heap.size)→(rowS r.N r.L).p v X w→Fn PP 97 [v] X w (dJ (.int .i64 (cB r.N))):=fun hX hv=>aQ1 hL hX hv
 have rH:∀{X:Nat→Prop} {w:World} {v:Value},(∀b,X b→b<w.heap.size)→(rowS r.N r.L).p v X w→Fn PP 98 [v] X w (dJ (.bool (!nH r.L))):=fun {X} {w} {v} hX hv=>aQ2 hL (wI hg.so).1 hg.sz hX hv
 rw[hg.so]at ksol;rw[hg.ba]at rH;have hlen:l.length=r.N:=by
  have:=hL
  rw[hg.eq,fP]at this;omega
 obtain⟨R,hRR⟩:=nm (dJ (.tuple #[nF p,.int .i64 0]));rw[←hRR];have kmesh:∀{X:Nat→Prop} {w:World} {v:Value},(∀b,X b→b<w.heap.size)→(rowS r.N r.L).p v X w→Fn PP 100 [v] X w (dJ (.int .i64 0)):=fun {X} {w} {v} hX hv=>by
  rw[hg.eq,←hlen]at hv;have:=xO (l:=l) hg.le (by have:=(wI hg.so).1;omega) hX hv
  unfold gZ at this
  rwa [hg.ok]at this
 have kw:=hg.kw
 clear hg;unfold Raw.attV at *;obtain⟨RS,hRS⟩:=nm (rowS r.N r.L);rw[←hRS]at hv ksol rH kmesh;obtain⟨K,hK⟩:=nm ([KF.cst v RS]);unfold nF at *;generalize aA p.n.x=q1 at *;generalize aA p.n.y=q2 at *;generalize aA p.n.z=q3 at *;generalize aA p.a=q4 at *;refine bE mixed tok [.q v,.g [.s (.v r.h),.s (.v r.t)],.s (.v r.d)] (K:=K) Tryz.func48 rfl rfl (lbl rfl) rfl hX (by rw[hK];simp;exact hv) fun c hc hR=>?_
 refine zN hc ?_;cbv;refine bL hc (.i .i64 (.l 0)) qO (fun n0 D X μ a w aL H hv=>?_) rfl 100 ?_
 ·obtain⟨u,rfl,e'⟩:=aV hv;rw[cA e'];exact ksol H.xlt (H.cst (by rw[hK];exact .head _))
 cbv;refine bL hc (.b (.l true)) uL (fun n0 D X μ a w aL H hv=>?_) rfl 100 ?_
 ·obtain⟨u,rfl,e'⟩:=aV hv;rw[cA e'];exact rH H.xlt (H.cst (by rw[hK];exact .head _))
 cbv;refine zC hc (.t [.g [.s (.v q1),.s (.v q2),.s (.v q3),.s (.v q4)],.i .i64 (.l 0)]) kw aAk ?_;cbv;refine bL hc (.i .i64 (.l 0)) qT (fun n0 D X μ a w aL H hv=>?_) rfl 100 ?_
 ·obtain⟨u,rfl,e'⟩:=aV hv;rw[cA e'];exact kmesh H.xlt (H.cst (by rw[hK];exact .head _))
 cbv;refine aS hc hR rfl (fun X μ a w v' H hv'=>?_);rw[hRR];simp only[aC,aH]at hv';injection hv' with hv'
 exact hv'.symm
end Go.Ai
