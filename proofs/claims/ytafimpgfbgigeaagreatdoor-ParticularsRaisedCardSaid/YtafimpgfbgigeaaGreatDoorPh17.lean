/- Part 18: lemmas for the particulars laws -/
import Derived.Test.YtafimpgfbgigeaaGreatDoorPh16
set_option linter.all false
namespace Go.Ai
open Go Go.Proofs Go.Num
def qR (b:Bool)(n d:Nat):RV1:=.agg [.b (.l b),.x (aI n),.x (aI d)]
theorem zY:aB PP 110:=zK
theorem aKn (aA2:aGr){b:Bool}{n d:Nat}(hbn:(aC n).length<=2^38)(hbd:(aC d).length<=2^38)(hg:Nat.gcd n d=1):fD PP 110 [zRt b n,.one (.x (aI d))] (.sg (qR b n d)):=by
 obtain⟨R1,hR1⟩:=nm (aI n);obtain⟨R2,hR2⟩:=nm (aI d);obtain⟨RG,hRG⟩:=nm (aI 1);obtain⟨F1,hF1⟩:=nm (lR (.sg (zRt b n)));obtain⟨F2,hF2⟩:=nm (lR (.sg (.one (.x (aI d)))));have hz1:zRt b n=.agg [.b (.l b),.x R1]:=by rw[hR1];rfl
 have hz3:qR b n d=.agg [.b (.l b),.x R1,.x R2]:=by rw[hR1,hR2];rfl
 have hcm:∀{v u:Value} {X:Nat->Prop} {w:World},(∀b,X b->b<w.heap.size)->R1.p v X w->R2.p u X w->Fn PP 99 [v,u] X w RG:=λhX h1 h2=>by
  rw[hRG,<-hg];rw[hR1]at h1;rw[hR2]at h2;exact aBz aA2 hbn hbd hX h1 h2
 rw[hz1]at hF1 |-;rw[<-hR2]at hF2 |-;rw[hz3];clear hz1 hz3 hR1 hR2;refine fU mixed tok Tryz.func110 rfl (by rfl) rfl [F1,F2] ⟨hF1,hF2,trivial⟩ λc G hG hc hR=>?_;obtain⟨K,hK⟩:=nm (nH 0 [F1,F2]);rw[<-hK];have m1:KF.at 0 F1∈K:=by rw[hK];exact .head _
 have m2:KF.at 1 F2∈K:=by rw[hK];exact .tail _ (.head _)
 apply zN hc;cbv;refine eB (R:=RG) hc tZ (λn0 D X μ a w aK H aG=>?_) 1 ?_
 ·obtain⟨v,u,rfl,e1,e2⟩:=bI aG;exact hcm H.xlt (((bM.ec (c:=.x R1) (F:=F1) m1 hF1 rfl).ok H.kf e1).2) (((bM.ec (c:=.x R2) (F:=F2) m2 hF2 rfl).ok H.kf e2).2)
 cbv;refine dE 5 .u32 (aC 1) rfl rfl (λX μ a w v' H hv'=>by have h:=H.toP.val (R:=RG) (.head _) hv';rw[hRG]at h;exact h) λf N cap hN hf dJ=>?_;have hd1:aC 1=[1]:=by rw[bZ zV];simp[bV]
 have hN1:N=1:=by rw[hN,hd1];rfl
 have hf0:f 0=1:=hf 0 1 (by rw[hd1];rfl)
 have e1:(BE.eq (.n N) (.l 1)).den=true:=by rw[hN1];rfl
 have o1:(Obl.ltE (.l 0) (.n N)).ok:=by rw[hN1];show _/\_;simp only[IE.den];omega
 have o2:(Obl.ix 0 (.l 0) 0 0 1 N).ok:=by show aY 0 (IE.l 0).den 0 0+1<=N;rw[hN1];decide
 apply zN hc;cbv;refine cG 17 rfl rfl 100 (λ_=>?_) (λh=>absurd (e1.symm.trans h) zV);cbv;have e0:(BE.eq (.fn f 0 (.l 0) 0 0) (.l 1)).den=true:=by
  show decide (f 0=1)=true
  rw[hf0];rfl
 refine aP hc ⟨o1,o2,trivial⟩ ?_;refine aE rfl 100 (λ_=>?_) (λh=>absurd (e0.symm.trans h) zV)
 ·cbv;refine dL hc hG hR rfl ⟨.b rfl,.ec zM hF1 rfl,.ec zM hF2 rfl,trivial⟩
theorem aH5 (aA2:aGr){b b':Bool}{n d g:Nat}(hbn:(aC n).length<=2^38)(hbd:(aC d).length<=2^38)(hg:Nat.gcd n d=g)(h1:1<g)(hlg:(aC g).length<=2^38)(hb:b'=(b&&decide (n/g≠0))):fD PP 110 [zRt b n,.one (.x (aI d))] (.sg (qR b' (n/g) (d/g))):=by
 obtain⟨R1,hR1⟩:=nm (aI n);obtain⟨R2,hR2⟩:=nm (aI d);obtain⟨RG,hRG⟩:=nm (aI g);obtain⟨F1,hF1⟩:=nm (lR (.sg (zRt b n)));obtain⟨F2,hF2⟩:=nm (lR (.sg (.one (.x (aI d)))));obtain⟨R3,hR3⟩:=nm (aI (n/g));obtain⟨R4,hR4⟩:=nm (aI (d/g));obtain⟨R5,hR5⟩:=nm (aI (n%g));obtain⟨R6,hR6⟩:=nm (aI (d%g));have hz1:zRt b n=.agg [.b (.l b),.x R1]:=by rw[hR1];rfl
 have hz3:qR b' (n/g) (d/g)=.agg [.b (.l b'),.x R3,.x R4]:=by rw[hR3,hR4];rfl
 have hcm:∀{v u:Value} {X:Nat->Prop} {w:World},(∀b,X b->b<w.heap.size)->R1.p v X w->R2.p u X w->Fn PP 99 [v,u] X w RG:=λhX h1 h2=>by
  rw[hRG,<-hg];rw[hR1]at h1;rw[hR2]at h2;exact aBz aA2 hbn hbd hX h1 h2
 have bE7:∀{v u:Value} {X:Nat->Prop} {w:World},(∀b,X b->b<w.heap.size)->R1.p v X w->(aI g).p u X w->Fn PP 166 [v,u] X w (jG R3 R5):=λhX h1' h2=>by
  rw[hR3,hR5];rw[hR1]at h1';exact aA2 zW hbn hlg hX h1' h2
 have bE8:∀{v u:Value} {X:Nat->Prop} {w:World},(∀b,X b->b<w.heap.size)->R2.p v X w->(aI g).p u X w->Fn PP 166 [v,u] X w (jG R4 R6):=λhX h1' h2=>by
  rw[hR4,hR6];rw[hR2]at h1';exact aA2 zW hbd hlg hX h1' h2
 have h3c:∀{v:Value} {X:Nat->Prop} {w:World},R3.p v X w->v.oneCell'=true:=λh=>by rw[hR3]at h;exact dZ h
 have h4c:∀{v:Value} {X:Nat->Prop} {w:World},R4.p v X w->v.oneCell'=true:=λh=>by rw[hR4]at h;exact dZ h
 have hmk:fD PP 116 [.one (.b (.l b)),.one (.x R3)] (.sg (.agg [.b (.l b'),.x R3])):=by rw[hR3];exact aBd hb
 rw[hz1]at hF1 |-;rw[<-hR2]at hF2 |-;rw[hz3];clear hz1 hz3 hR1 hR2 hR3 hR5 hR6;refine fU mixed tok Tryz.func110 rfl (by rfl) rfl [F1,F2] ⟨hF1,hF2,trivial⟩ λc G hG hc hR=>?_;obtain⟨K,hK⟩:=nm (nH 0 [F1,F2]);rw[<-hK];have m1:KF.at 0 F1∈K:=by rw[hK];exact .head _
 have m2:KF.at 1 F2∈K:=by rw[hK];exact .tail _ (.head _)
 apply zN hc;cbv;refine eB (R:=RG) hc tZ (λn0 D X μ a w aK H aG=>?_) 1 ?_
 ·obtain⟨v,u,rfl,e1,e2⟩:=bI aG;exact hcm H.xlt (((bM.ec (c:=.x R1) (F:=F1) m1 hF1 rfl).ok H.kf e1).2) (((bM.ec (c:=.x R2) (F:=F2) m2 hF2 rfl).ok H.kf e2).2)
 cbv;refine dE 5 .u32 (aC g) rfl rfl (λX μ a w v' H hv'=>by have h:=H.toP.val (R:=RG) (.head _) hv';rw[hRG]at h;exact h) λf N cap hN hf dJ=>?_;obtain⟨RP1,aW8⟩:=nm (jG R3 R5);obtain⟨RP2,aW9⟩:=nm (jG R4 R6);have hN0:0<N:=by rw[hN,bZ zW];simp
 have o1:(Obl.ltE (.l 0) (.n N)).ok:=by
  refine⟨zV,?_⟩;show(0:Int)<(N:Int)
  exact Int.ofNat_lt.2 hN0
 have o2:(Obl.ix 0 (.l 0) 0 0 1 N).ok:=by
  show aY 0 (IE.l 0).den 0 0+1<=N
  rw[show aY 0 (IE.l 0).den 0 0=0 from zV];exact hN0
 have hne:(BE.eq (.n N) (.l 1)).den=true->(BE.eq (.fn f 0 (.l 0) 0 0) (.l 1)).den=true->False:=λh1' h2'=>by
  have hN1:N=1:=BE.eqnl_t h1'
  have h2':f 0=1:=of_decide_eq_true (show decide (f 0=1)=true from h2')
  have h3:=aFn (n:=g) (by rw[<-hN,hN1];decide)
  have h4:=hf 0 _ h3
  have h5:g<1000000000^1:=aT (by rw[<-hN,hN1];exact lRf _)
  rw[h4]at h2';have h6:g%1000000000=1:=zW;rw[Nat.mod_eq_of_lt zW]at h6;omega
 apply zN hc;cbv;refine cG 17 rfl rfl 100 (λha=>?_) (λha=>?_)
 ·cbv;refine aP hc ⟨o1,o2,trivial⟩ ?_;refine aE rfl 100 (λh=>(hne ha h).elim) (λ_=>?_);cbv;refine eB (R:=RP1) hc uA (λn0 D X μ a w aK H aG=>?_) 2 ?_
  ·obtain⟨v,u,rfl,e1,e2⟩:=bI aG;rw[aW8];exact bE7 H.xlt (((bM.ec (c:=.x R1) (F:=F1) zM hF1 rfl).ok H.kf e1).2) (H.numRow rfl e2 hN hf dJ)
  cbv;refine mZ 26 6 (R1:=R3) (R2:=R5) rfl rfl (aW8▸.head _) ?_;apply zN hc;cbv;refine eB (R:=RP2) hc uA (λn0 D X μ a w aK H aG=>?_) 2 ?_
  ·obtain⟨v,u,rfl,e1,e2⟩:=bI aG;rw[aW9];exact bE8 H.xlt (((bM.ec (c:=.x R2) (F:=F2) zM hF2 rfl).ok H.kf e1).2) (H.numRow rfl e2 hN hf dJ)
  cbv;refine mZ 33 9 (R1:=R4) (R2:=R6) rfl rfl (aW9▸.head _) ?_;apply zN hc;cbv;refine gM hc jB hmk ⟨.b rfl,.e zM h3c,trivial⟩ (.g [.b (.l b'),.ec 12 1]) 100 (λFB hFB=>?_);cbv;refine dE 43 .u32 (aC (d/g)) rfl rfl (λX μ a w v' H hv'=>by have h:=H.toP.val (R:=R4) zM hv';rw[hR4]at h;exact h) λf2 N2 sK hN2 hf2 aTo=>?_;apply zN hc;cbv;exact bB hc hR rfl (λX μ a w v H hv=>by
   obtain⟨vs,q1,rfl⟩:=tA hv;obtain⟨v1,v2,v3,rfl,e1,e2,e3⟩:=mS q1;have h3:=H.toP.numRow rfl e3 hN2 hf2 aTo;rw[hG];exact⟨[v1,v2,v3],rfl,iT e1,(bM.ec (c:=.x R3) (.head _) hFB rfl).ok H.toP.kf e2,⟨dZ h3,by rw[hR4];exact h3⟩,trivial⟩)
 ·cbv;refine eB (R:=RP1) hc uA (λn0 D X μ a w aK H aG=>?_) 2 ?_
  ·obtain⟨v,u,rfl,e1,e2⟩:=bI aG;rw[aW8];exact bE7 H.xlt (((bM.ec (c:=.x R1) (F:=F1) zM hF1 rfl).ok H.kf e1).2) (H.numRow rfl e2 hN hf dJ)
  cbv;refine mZ 26 6 (R1:=R3) (R2:=R5) rfl rfl (aW8▸.head _) ?_;apply zN hc;cbv;refine eB (R:=RP2) hc uA (λn0 D X μ a w aK H aG=>?_) 2 ?_
  ·obtain⟨v,u,rfl,e1,e2⟩:=bI aG;rw[aW9];exact bE8 H.xlt (((bM.ec (c:=.x R2) (F:=F2) zM hF2 rfl).ok H.kf e1).2) (H.numRow rfl e2 hN hf dJ)
  cbv;refine mZ 33 9 (R1:=R4) (R2:=R6) rfl rfl (aW9▸.head _) ?_;apply zN hc;cbv;refine gM hc jB hmk ⟨.b rfl,.e zM h3c,trivial⟩ (.g [.b (.l b'),.ec 12 1]) 100 (λFB hFB=>?_);cbv;refine dE 43 .u32 (aC (d/g)) rfl rfl (λX μ a w v' H hv'=>by have h:=H.toP.val (R:=R4) zM hv';rw[hR4]at h;exact h) λf2 N2 sK hN2 hf2 aTo=>?_;apply zN hc;cbv;exact bB hc hR rfl (λX μ a w v H hv=>by
   obtain⟨vs,q1,rfl⟩:=tA hv;obtain⟨v1,v2,v3,rfl,e1,e2,e3⟩:=mS q1;have h3:=H.toP.numRow rfl e3 hN2 hf2 aTo;rw[hG];exact⟨[v1,v2,v3],rfl,iT e1,(bM.ec (c:=.x R3) (.head _) hFB rfl).ok H.toP.kf e2,⟨dZ h3,by rw[hR4];exact h3⟩,trivial⟩)
end Go.Ai
namespace Go.Ai
open Go
section
variable {c:Cx}{P:Program}{ty:Nat->Option TyI}{nt:Nat}{K:List KF}{S:St}
theorem aGd (hc:Ctx c P ty nt){all:Array Oper}{i:Nat}{k:List KI}(o:Oper)(ho:all[i]?=some o)(hg:guardOf all S.sl o=some true)(hd:cM nt o.dst=true){t e n cap:Nat}{x y:Operand}{ya:AV}{kd:IntKind}{a0:Option Addr}{ti ei:TyI}{l news:List Int}{ow':List OF}{bytes:Nat}{G:Option Addr->Nat->Nat->List Int->OF}(hG:∀a n cap l,G a n cap l=OF.row (.slice a n cap) c.B.heap.size e kd l)
  (hop:o.op=.call {callee:=.builtin .append,args:=#[x,y],argTypes:=#[t,t]}) (hx:fW S.sl x=some (.xs a0 n cap)) (hy:fW S.sl y=some ya) (how:S.ow=G a0 n cap l::ow')
  (hti:ty t=some ti) (hk:ti.kind=.slice e 1) (hei:ty e=some ei) (hag:ei.kind.agg=false) (hby:(P.info? e).map (·.bytes)=some bytes) (hle:(l.length+news.length)*bytes<=140737488355328) (h63:l.length+news.length<=9223372036854775807) (hne:1<=news.length)
  (hv:∀X μ a w v,Sim c K S X μ a w->aD μ ya=some v->∃ad c',v=.slice (some ad) news.length c'/\∀j z,news[j]?=some z->w.cell? (ad.add j)=some (.int kd z))
  (h:∀a' n' aU l',n'=l.length+news.length->l'=l++news->Goal c K ⟨.ops all (i+1)::k,S.putO o.dst (.xs a' n' aU) none (G a' n' aU l'::ow'),[]⟩):Goal c K ⟨.ops all i::k,S,[]⟩:=by
 refine vM hc o ho hg (ι:=RowZ) (K':=λ_=>K) (S':=λz=>S.putO o.dst (.xs z.a (l.length+news.length) z.cap) none (G z.a (l.length+news.length) z.cap (l++news)::ow')) (p:=λ_=>True) (λX μ a w H=>?_) (λz _=>h z.a (l.length+news.length) z.cap _ rfl rfl);have P':=H.toP;rw[hG]at how;have e1:=nF (aH H.toP hx (λ_ _=>trivial));obtain⟨ad,c',e2,iW⟩:=hv X μ a w _ H (aH H.toP hy (λ_ _=>trivial));have T:=c.tok t ti (by rw[hc.hty];exact hti);have hu:=T.und;rw[hk]at hu;obtain⟨u1,tj,u2,u3⟩:=hu;obtain⟨tj',z,h1,h2,h3,h4,h5⟩:=(c.tok e ei (by rw[hc.hty];exact hei)).info;rw[u2]at h1;injection h1 with h1;subst h1
 have hzs:z.cells.size=1:=by rw[cells_one (h5.2 hag)];rfl
 have hb2:tj.bytes=bytes:=by rw[<-hc.hP,u2]at hby;simpa using hby
 have hf0:OF.row (.slice a0 n cap) c.B.heap.size e kd l∈S.ow:=by rw[how];exact .head _
 obtain⟨hr0,hr1⟩:=P'.own.at_ _ hf0;have hr0:w.ownsRow c.B.heap.size e 1 (.slice a0 n cap) l.length (l.map (Value.int kd)):=hr0;obtain⟨v',w',q1,q2,q3,q4⟩:=aE3 (P:=c.P) c.B.heap.size t o.type e tj z bytes u1 u2 h3 u3 hb2 hzs _ _ _ hr0 ad news.length c' (news.map (Value.int kd)) zA (λq u hq=>by
   rw[List.getElem?_map]at hq;cases hz:news[q]? with
   | none=>rw[hz]at hq;cases hq
   | some y=>rw[hz]at hq;injection hq with hq;rw[<-hq];exact iW q y hz) (λu hu=>by obtain⟨y,_,rfl⟩:=List.mem_map.1 hu;rfl) (by simpa[maxLen]using h63) hle P'.bel.size
 have hv':∃a' aU,v'=.slice a' (l.length+news.length) aU:=by
  rcases q2.2 with⟨h6,h7⟩ | ⟨g,aU,cur,h6,_⟩
  ·omega
  ·exact⟨_,_,h6⟩
 obtain⟨a',aU,rfl⟩:=hv';refine⟨⟨a',aU⟩,.slice a' (l.length+news.length) aU,w',X,μ,trivial,?_,?_⟩
 ·rw[<-hc.hP];simp only[execOp,hop,resolve,invoke,builtin,Sem.run_bind,Sem.run_pure,Result.andThen_ok,List.map_toArray,List.map_cons,List.map_nil,e1,e2];rw[q1];rfl
 ·have hap:=P'.own.apart
  rw[how]at hap;simp only[hG];refine aIb (r:=(Value.slice a0 n cap).ownBlock) (by rw[hc.hnt];exact hd) H q3 (by simpa using q2) (λf hf=>by rw[how];exact .tail _ hf) (List.Pairwise.of_cons hap) (λb hb=>⟨_,hf0,hb⟩) (λf hf b hb hb'=>List.rel_of_pairwise_cons hap hf b hb hb') q4 ?_;rcases q4 with h6 | h6
  ·exact .inr h6
  ·exact .inl (World.ownsRow.lt q2 _ h6).2
theorem aQ0 {kd:IntKind}{l:List Int}{v:Value}{X:Nat->Prop}{w:World}(h:(mY kd l).p v X w)(hne:1<=l.length):∃ad c',v=.slice (some ad) l.length c'/\∀j z,l[j]?=some z->w.cell? (ad.add j)=some (.int kd z):=by
 obtain⟨a,cap,rfl,_,h3⟩:=h;match a,h3 with
 | none,h3=>rw[h3.1]at hne;simp at hne
 | some (b,o),⟨h3,cs,ty,h4,h5⟩=>exact⟨⟨b,o,none⟩,cap,rfl,λj z hz=>by simp[add_eq,World.cell?,h4,h5 j z hz]⟩
theorem aRg {kd:IntKind}{j bt:Nat}{e1 e2:IE}(hj:S.hp[j]?=some (.c bt [.i kd e1,.i kd e2])){X:Nat->Prop}{μ:Mu}{a:Act}{w:World}{v:Value}(H:Sim c K S X μ a w)(hv:aD μ (.sl j 0 (.l 2) 2)=some v):
  ∃ad c',v=.slice (some ad) [e1.den,e2.den].length c'/\∀j z,[e1.den,e2.den][j]?=some z->w.cell? (ad.add j)=some (.int kd z):=by
 have P':=H.toP
 obtain⟨b,o1,hb1,e2'⟩:=oH hv (by simp[IE.den]);simp only[IE.den]at e2';obtain⟨m,hm1,hm2⟩:=yD hb1;have hok:=P'.heap j _ m hj hm1;match m,hm2,hok,hm1 with
 | .own b',hm2,hok,hm1=>
  simp only[MV.at,Option.some.injEq,Prod.mk.injEq]at hm2;obtain⟨rfl,rfl⟩:=hm2;obtain⟨vs,hvs,aA4⟩:=hok;simp only[aF,aD,Option.some.injEq]at hvs;subst hvs;refine⟨_,_,e2',λq z hq=>?_⟩;match q,hq with
  | 0,hq=>simp at hq;subst hq;simp[add_eq,World.cell?,aA4]
  | 1,hq=>simp at hq;subst hq;simp[add_eq,World.cell?,aA4]
  | q+2,hq=>simp at hq
theorem bCt {ks:List KI}(d k:Nat){bt n:Nat}{kd:IntKind}{G:Option Addr->Nat->Nat->List Int->OF}(hG:∀a n cap l,G a n cap l=OF.row (.slice a n cap) c.B.heap.size bt kd l){cells:List AV}{news:List Int}{l:List (Nat × AV)}{K':List KF}(hp:jT ks=true)(hk:S.hp[k]?=some (.c bt cells))(hd:look S.sl d=some (.sl k 0 (.l (n:Int)) n))(iW:aF hJ cells=some (news.map (Value.int kd)))(aJ1:news.length=n)(h63:n<=9223372036854775807)(hl:aE0 S k l)(hb:(S.hp.set k .e).all (Blk.fr k)=true)(hK:aCa k K K')(hO:aEz k S.ow)
  (h:∀b,Goal c K' ⟨ks,⟨(d,.xs (some ⟨b,0,none⟩) n n)::l,S.hp.set k .e,G (some ⟨b,0,none⟩) n n news::S.ow⟩,[]⟩):Goal c K ⟨ks,S,[]⟩:=by
 simp only[hG]at h;refine jD (ι:=Nat) (K':=λ_=>K') (S':=λb=>⟨(d,.xs (some ⟨b,0,none⟩) n n)::l,S.hp.set k .e,OF.row (.slice (some ⟨b,0,none⟩) n n) c.B.heap.size bt kd news::S.ow⟩) (p:=λ_=>True) hp (λX μ a w H=>?_) (λb _=>h b);have P:=H.toP;have hkl:k<S.hp.length:=(List.getElem?_eq_some_iff.1 hk).1;obtain⟨m,hm⟩:=P.all k hkl;have hok:=P.heap k _ m hk hm;match m,hok,hm with
 | .own b,hok,hm=>
 obtain⟨vs,hvs,hbk⟩:=hok;have aXf:news.map (Value.int kd)=vs:=by rw[cW iW]at hvs;injection hvs
 have hvl:vs.length=cells.length:=bC hvs
 have hlen:(S.hp.set k .e).length=S.hp.length:=zA
 have fG:∀j b',(μ.upd k (.val undef)) j=some (.own b')->j≠k/\μ j=some (.own b'):=λj b' hj=>by
  by_cases e:j=k
  ·subst e;rw[Mu.upd_same]at hj;injection hj with hj;cases hj
  ·rw[(fP e).2.2]at hj;exact⟨e,hj⟩
 refine⟨b,X,μ.upd k (.val undef),trivial,⟨⟨P.dfr,P.size,?_,?_,?_,?_,?_,P.xlt,P.xnew,P.xold,P.bel,?_,?_⟩,?_⟩⟩
 ·intro t av _ ht;by_cases e:d=t
  ·subst e;rw[bK]at ht;injection ht with ht;subst ht
   obtain⟨v,e1,e2⟩:=P.slots d _ trivial hd;have hv:v=.slice (some ⟨b,0,none⟩) n n:=by
    obtain⟨q,h1,h2,h3,h4⟩:=pH e1;simp only[atS,hm,MV.atS,Option.bind_some,Option.some.injEq]at h1;subst h1;simpa[IE.den]using h2
   exact⟨v,by rw[hv];rfl,e2⟩
  ·rw[bE e]at ht;obtain⟨a',e1,e2,e3⟩:=hl.look t av ht;obtain⟨v,e4,e5⟩:=P.slots t a' trivial e1;exact⟨v,by rw[xJ _ e2,<-e3 μ];exact e4,e5⟩
 ·intro j bj m hj hmj;by_cases e:j=k
  ·subst e;rw[Mu.upd_same]at hmj;injection hmj with hmj;subst hmj
   have hse:(S.hp.set j .e)[j]?=some .e:=by simp[hkl]
   have hj:some Blk.e=some bj:=hse.symm.trans hj
   injection hj with hj;subst hj;trivial
  ·rw[(fP e).2.2]at hmj;have hfr:bj.fr k=true:=List.all_eq_true.1 hb _ (List.mem_of_getElem? hj);rw[List.getElem?_set_ne (λe'=>e e'.symm)]at hj;exact Blk.ok_fr hfr (P.heap j bj m hj hmj)
 ·intro j hj;rw[hlen]at hj;by_cases e:j=k
  ·subst e;exact⟨_,Mu.upd_same _ _ _⟩
  ·obtain⟨m,hm⟩:=P.all j hj;exact⟨m,by rw[(fP e).2.2];exact hm⟩
 ·intro j j' b' h1 h2;exact P.inj j j' b' (fG _ _ h1).2 (fG _ _ h2).2
 ·intro j b' h1;exact P.loc j b' (fG _ _ h1).2
 ·intro f hf;obtain⟨h1,h2⟩:=hK.mem f hf;exact h2.out _ _ _ _ (P.kf f h1)
 ·obtain⟨l1,l2,l3⟩:=P.loc k b hm;refine⟨λf hf=>?_,List.Pairwise.cons (λg hg j hj=>?_) ?_⟩
  ·rcases List.mem_cons.1 hf with e | e
   ·subst e;subst aJ1;refine⟨⟨zA,.inr ⟨b,news.length,vs.toArray,rfl,l1,hbk,lRf _,by simpa[maxLen]using h63,by rw[<-aXf];simp,by rw[<-aXf];exact List.take_of_length_le zA⟩⟩,λj hj=>?_⟩;have hj:j=b:=(Option.some.inj hj).symm;subst hj;exact⟨l1,l3,l2,λk' hk'=>(fG _ _ hk').1 (P.inj _ _ _ (fG _ _ hk').2 hm)⟩
   ·obtain⟨h1,h2⟩:=P.own.at_ f e;obtain⟨h3,h4⟩:=(hO.mem f e).out μ w undef h1;refine⟨h3,λj hj=>?_⟩;obtain⟨q1,q2,q3,q4⟩:=h2 j ((h4 j).1 hj);exact⟨q1,q2,q3,λk' hk'=>q4 k' (fG _ _ hk').2⟩
  ·have hj:j=b:=(Option.some.inj hj).symm
   subst hj;intro hg';obtain⟨h1,h2⟩:=P.own.at_ g hg;exact(h2 j ((((hO.mem g hg).out μ w undef h1).2 j).1 hg')).2.2.2 k hm
  ·refine P.own.apart.imp_of_mem λ{f g} hf hg hq j hj hj'=>?_;exact hq j ((((hO.mem f hf).out μ w undef (P.own.at_ f hf).1).2 j).1 hj) ((((hO.mem g hg).out μ w undef (P.own.at_ g hg).1).2 j).1 hj')
 ·intro j hj;rw[hlen]at hj;have e:j≠k:=zW;rw[(fP e).2.2];exact H.dom j hj
theorem aQ4 {ks:List KI}(k n:Nat){bt:Nat}{kd:IntKind}{l l':List Int}(hp:okc ks=true)(hk:S.hp[k]?=some (.w bt kd l))(hl':l'=l.take n)
  (h:Goal c K ⟨ks,{S with hp:=S.hp.set k (.w bt kd l')},[]⟩):Goal c K ⟨ks,S,[]⟩:=by
 subst hl';refine pN hp (λX μ a w H=>?_) h rfl;have P:=H.toP;have hkl:k<S.hp.length:=(List.getElem?_eq_some_iff.1 hk).1;refine⟨X,μ,⟨⟨P.dfr,P.size,P.slots,?_,?_,P.inj,P.loc,P.xlt,P.xnew,P.xold,P.bel,P.kf,P.own⟩,?_⟩⟩
 ·intro j bj m hj hm;by_cases e:k=j
  ·subst e;have hse:(S.hp.set k (.w bt kd (l.take n)))[k]?=some (.w bt kd (l.take n)):=by simp[hkl]
   have hj:some (Blk.w bt kd (l.take n))=some bj:=hse.symm.trans hj
   injection hj with hj;subst hj
   have hok:=P.heap k _ m hk hm
   match m,hok with
   | .own b,⟨rest,hok⟩=>exact⟨(l.drop n).map (Value.int kd)++rest,by rw[<-List.append_assoc,<-List.map_append,List.take_append_drop];exact hok⟩
  ·have hj:(S.hp.set k (.w bt kd (l.take n)))[j]?=some bj:=hj
   rw[List.getElem?_set_ne e]at hj;exact P.heap j bj m hj hm
 ·intro j hj;exact P.all j (by simpa using hj)
 ·intro j hj;exact H.dom j (by simpa using hj)
end
end Go.Ai
namespace Go.Num
open Go.Lib
def leD:Nat->Nat->List Int
 | 0,_=>[]
 | j+1,n=>((48+n%10:Nat):Int)::leD j (n/10)
theorem uL:∀(j n:Nat),(leD j n).length=j
 | 0,_=>rfl
 | j+1,n=>by simp[leD,uL j]
theorem aKa:∀(j n:Nat),leD (j+1) n=leD j n++[((48+n/10^j%10:Nat):Int)]
 | 0,n=>by simp[leD]
 | j+1,n=>by
  rw[leD,aKa j (n/10),leD,List.cons_append,Nat.div_div_eq_div_mul,Nat.pow_succ,Nat.mul_comm 10]
theorem aUj:∀(j n:Nat) (x:Int),x∈leD j n->48<=x/\x<=57
 | j+1,n,x,h=>by
  rw[leD]at h;rcases List.mem_cons.1 h with h | h
  ·omega
  ·exact aUj j _ x h
theorem aC2 {d:Nat}(h:d<10):(UInt8.ofNat (48+d)).toNat=48+d:=by
 simp only[UInt8.toNat_ofNat'];omega
theorem aO2:∀(j n:Nat),1<=j->n<10^j->10^(j - 1)<=n\/j=1->(leD j n).reverse=(decDigits n).map λc=>((c.toNat:Nat):Int)
 | 1,n,_,h,_=>by
  have h:n<10:=by simpa using h
  rw[bT h];simp only[leD,List.reverse_cons,List.reverse_nil,List.nil_append,List.map_cons,List.map_nil];rw[aC2 zW];congr 2;omega
 | j+2,n,_,h,h'=>by
  have h':10^(j+1)<=n:=by
   rcases h' with h' | h'
   ·exact h'
   ·omega
  rw[Nat.pow_succ]at h h';have hp:0<10^j:=Nat.pow_pos zV;have h10:¬n<10:=zW;rw[eH h10,leD,List.reverse_cons,aO2 (j+1) (n/10) zW (by rw[Nat.pow_succ]at h |-;omega) (.inl (by show 10^j<=n/10;omega)),List.map_append];simp only[List.map_cons,List.map_nil];rw[aC2 zW]
theorem bAw {x k:Nat}(h:k<9):x%1000000000/10^k%10=x/10^k%10:=by
 match k,h with
 | 0,_=>simp
 | 1,_=>simp;omega
 | 2,_=>simp;omega
 | 3,_=>simp;omega
 | 4,_=>simp;omega
 | 5,_=>simp;omega
 | 6,_=>simp;omega
 | 7,_=>simp;omega
 | 8,_=>simp;omega
theorem aBs:∀(i n:Nat),(aC n).getD i 0=((n/1000000000^i%1000000000:Nat):Int)
 | i,0=>by rw[bV];simp
 | 0,n+1=>by rw[bZ zW];simp
 | i+1,n+1=>by
  rw[bZ zW,List.getD_cons_succ,aBs i,Nat.div_div_eq_div_mul,Nat.pow_succ,Nat.mul_comm (1000000000:Nat)]
def Tx (n N i:Nat)(out:List Int):Prop:=(i<N/\out=leD (9*i) n)\/(i=N/\∃L,1<=L/\L<=9*N/\out=leD L n/\n<10^L/\10^(L - 1)<=n)
structure Ty (n N i k:Nat)(w:Int)(out:List Int):Prop where
 hi:i<N
 hk:k<=9
 out:out=leD (9*i+k) n
 w:w=((n/1000000000^i%1000000000/10^k:Nat):Int)
 low:i+1=N->k=0\/10^(9*i+k - 1)<=n
theorem bCe (i:Nat):(1000000000:Nat)^i=10^(9*i):=by rw[Nat.pow_mul]
theorem Ty.init {n N i:Nat}{w:Int}{out:List Int}(h:Tx n N i out)(hi:i<N)(hw:w=(aC n).getD i 0):Ty n N i 0 w out:=by
 rcases h with⟨_,h⟩ | ⟨h,_⟩
 ·exact⟨hi,zW,h,by rw[hw,aBs];simp,λ_=>.inl rfl⟩
 ·omega
theorem Ty.step {n N i k:Nat}{w:Int}{out:List Int}(h:Ty n N i k w out)(hN:(aC n).length=N)(hk:k<9)(hc:i+1<N\/0<w):Ty n N i (k+1) (w/10) (out++[48+w%10])/\0<=w/\w<1000000000:=by
 have e:10^(9*i+k)=1000000000^i*10^k:=by rw[bCe,Nat.pow_add]
 have hb:n/1000000000^i%1000000000/10^k<1000000000:=Nat.lt_of_le_of_lt (Nat.div_le_self _ _) (Nat.mod_lt _ zV)
 have hd:=bAw (x:=n/1000000000^i) hk
 have hw0:0<=w/\w<1000000000:=by
  have hw:=h.w
  generalize n/1000000000^i%1000000000/10^k=W at *;omega
 refine⟨⟨h.hi,hk,?_,?_,λhN'=>.inr ?_⟩,hw0⟩
 ·rw[show 9*i+(k+1)=(9*i+k)+1 from rfl,aKa,<-h.out,e,<-Nat.div_div_eq_div_mul,<-hd,h.w];congr 2
 ·rw[h.w,Nat.pow_succ,<-Nat.div_div_eq_div_mul];rfl
 ·rw[show 9*i+(k+1) - 1=9*i+k by omega];rcases hc with hc | hc
  ·omega
  ·rw[h.w]at hc;have h1:n/1000000000^i%1000000000/10^k<=n/1000000000^i/10^k:=Nat.div_le_div_right (Nat.mod_le _ _);rw[Nat.div_div_eq_div_mul,<-e]at h1;have h2:0<n/10^(9*i+k):=zW;exact(Nat.div_pos_iff.1 h2).2
theorem Ty.done {n N i k:Nat}{w:Int}{out:List Int}(h:Ty n N i k w out)(hN:(aC n).length=N)(hc:k=9\/(i+1=N/\w=0)):Tx n N (i+1) out:=by
 have hlt:n<1000000000^N:=aT zW
 rcases Nat.lt_or_ge (i+1) N with h1 | h1
 ·left
  have hk:k=9:=zW
  exact⟨h1,by rw[h.out,hk];rfl⟩
 ·right
  have hi:=h.hi
  have hN':i+1=N:=zW
  refine⟨hN',9*i+k,?_,?_,h.out,?_,?_⟩
  ·have:k≠0:=λhk0=>by
    rcases hc with hc | ⟨_,hc⟩
    ·omega
    ·have aT9:=yV (m:=n) (k:=i) zW
     have:=h.w
     rw[aBs]at aT9;rw[hk0,Nat.pow_zero,Nat.div_one]at this;generalize n/1000000000^i%1000000000=W at *;omega
   omega
  ·have:=h.hk;omega
  ·rcases hc with hc | ⟨_,hc⟩
   ·rw[hc,show 9*i+9=9*(i+1) by omega,<-bCe,hN'];exact hlt
   ·have e:10^(9*i+k)=1000000000^i*10^k:=by rw[bCe,Nat.pow_add]
    have hw:=h.w
    have h2:n/1000000000^i<1000000000:=(Nat.div_lt_iff_lt_mul (Nat.pow_pos zV)).2 (by rw[<-hN',Nat.pow_succ,Nat.mul_comm]at hlt;exact hlt)
    rw[Nat.mod_eq_of_lt h2,Nat.div_div_eq_div_mul,<-e]at hw;have h3:n/10^(9*i+k)=0:=zW;rcases Nat.div_eq_zero_iff.1 h3 with h4 | h4
    ·have:0<10^(9*i+k):=Nat.pow_pos zV
     omega
    ·exact h4
  ·rcases h.low hN' with hk0 | h1
   ·exact absurd hk0 (λhk0=>by
     rcases hc with hc | ⟨_,hc⟩
     ·omega
     ·have aT9:=yV (m:=n) (k:=i) zW
      have:=h.w
      rw[aBs]at aT9;rw[hk0,Nat.pow_zero,Nat.div_one]at this;generalize n/1000000000^i%1000000000=W at *;omega)
   ·exact h1
theorem Tx.done {n N:Nat}{out:List Int}(h:Tx n N N out):out.reverse=(decDigits n).map (λc=>((c.toNat:Nat):Int))/\1<=out.length/\out.length<=9*N/\∀x,x∈out->48<=x/\x<=57:=by
 rcases h with⟨h,_⟩ | ⟨_,L,h1,h2,rfl,h3,h4⟩
 ·omega
 ·exact⟨aO2 L n h1 h3 (.inl h4),by rw[uL];exact h1,by rw[uL];exact h2,aUj L n⟩
theorem Tx.len {n N i:Nat}{out:List Int}(h:Tx n N i out):out.length<=9*i:=by
 rcases h with⟨_,rfl⟩ | ⟨hi,L,h1,h2,rfl,_⟩
 ·rw[uL];exact lRf _
 ·rw[uL,hi];exact h2
structure Sw (out l:List Int)(i:Nat):Prop where
 len:l.length=out.length
 hi:2*i<=out.length
 at_:∀t,t<out.length->l.getD t 0=if t<i\/out.length - i<=t then out.getD (out.length - 1 - t) 0 else out.getD t 0
theorem Sw.init (out:List Int):Sw out out 0:=⟨rfl,zW,λt ht=>by rw[if_neg zW]⟩
theorem aJt (l:List Int)(i j:Nat)(x:Int):(l.set i x).getD j 0=if i=j/\i<l.length then x else l.getD j 0:=by
 simp only[List.getD_eq_getElem?_getD,List.getElem?_set];split
 ·rename_i h;subst h;split
  ·rename_i h2;rw[if_pos ⟨rfl,h2⟩];rfl
  ·rename_i h2;rw[if_neg (λh=>h2 h.2)];simp[List.getElem?_eq_none (zW:l.length<=i)]
 ·rename_i h;rw[if_neg (λh'=>h h'.1)]
theorem Sw.step {out l:List Int}{i k:Nat}(h:Sw out l i)(hk:k+i+1=out.length)(hik:i<k):Sw out ((l.set i (l.getD k 0)).set k (l.getD i 0)) (i+1):=by
 have hl:=h.len
 have a1:=h.at_ i zW
 have a2:=h.at_ k zW
 rw[if_neg zW]at a1 a2;refine⟨by simp[hl],zW,λt ht=>?_⟩;rw[aJt,aJt,List.length_set];by_cases e1:k=t
 ·subst e1;rw[if_pos ⟨rfl,zW⟩,if_pos zW,a1,show out.length - 1 - k=i by omega]
 ·rw[if_neg (λh=>e1 h.1)];by_cases e2:i=t
  ·subst e2;rw[if_pos ⟨rfl,zW⟩,if_pos zW,a2,show out.length - 1 - i=k by omega]
  ·rw[if_neg (λh=>e2 h.1),h.at_ t ht];by_cases e3:t<i\/out.length - i<=t
   ·rw[if_pos e3,if_pos zW]
   ·rw[if_neg e3,if_neg zW]
theorem Sw.done {out l:List Int}{i:Nat}(h:Sw out l i)(hi:out.length<=2*i+1):l=out.reverse:=by
 have hl:=h.len
 have hi':=h.hi
 refine List.ext_getElem? λt=>?_;rcases Nat.lt_or_ge t out.length with ht | ht
 ·have a:=h.at_ t ht
  rw[List.getElem?_eq_getElem zW,List.getElem?_reverse ht,List.getElem?_eq_getElem zW];simp only[List.getD_eq_getElem?_getD]at a;rw[List.getElem?_eq_getElem (zW:t<l.length)]at a;simp only[Option.getD_some]at a;rw[a];by_cases e3:t<i\/out.length - i<=t
  ·rw[if_pos e3,List.getElem?_eq_getElem zW];rfl
  ·rw[if_neg e3,List.getElem?_eq_getElem ht];have:out.length - 1 - t=t:=zW;simp only[this];rfl
 ·rw[List.getElem?_eq_none zW,List.getElem?_eq_none (by simpa using ht)]
theorem Kn.init2 {n m f k T:Nat}{U z:List Int}(hw:Wd U)(hv:val U=(n*f:Nat))(hz:z=List.replicate T 0)(hk:(aC m).length=k)(h1:1<=k)(hf:1<=f)(hT:T+k=U.length)(hl:U.length=(aC n).length+1):
  Kn (n*f:Nat) (m*f:Nat) k T U z:=by
 refine⟨hw,by rw[hz];exact nP T,by rw[hz,List.length_replicate];omega,?_,?_⟩
 ·rw[hz,List.drop_of_length_le zA,hv];simp[val]
 ·have h2:=kN (l:=U) (q:=T) zW
  have h3:=cL (hw.take T)
  have h4:=cL (hw.drop T)
  apply Classical.byContradiction;intro hc;have hc:((m*f:Nat):Int)<=val (U.drop T):=zW;obtain⟨d,hd⟩:∃d:Nat,val (U.drop T)=d:=⟨(val (U.drop T)).toNat,zW⟩;rw[hd]at hc h2;have hc:m*f<=d:=zW;have h5:1000000000^T*d<=n*f:=by
   have:((1000000000^T*d:Nat):Int)=(1000000000:Int)^T*d:=zA
   omega
  have hn:n<1000000000^(aC n).length:=aT (lRf _)
  have hm:1000000000^(k - 1)<=m:=by
   apply Classical.byContradiction;intro h;have:=bP (n:=m) (k:=k - 1) zW;omega
  have h6:1000000000^T*(m*f)<=n*f:=lTr (Nat.mul_le_mul_left _ hc) h5
  rw[<-Nat.mul_assoc]at h6;have h7:1000000000^T*m<=n:=Nat.le_of_mul_le_mul_right h6 zW;have h8:1000000000^T*1000000000^(k - 1)<=n:=lTr (Nat.mul_le_mul_left _ hm) h7;rw[<-Nat.pow_add,show T+(k - 1)=(aC n).length by omega]at h8;omega
end Go.Num
