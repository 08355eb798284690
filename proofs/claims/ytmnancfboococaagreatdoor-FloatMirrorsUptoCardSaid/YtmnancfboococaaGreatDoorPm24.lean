/- Part 25 of the proof: garboardlaw17.FloatMirrors returns true, where what it reads is of bulk at most 1048576. -/
import Derived.Test.YtmnancfboococaaGreatDoorPm6
import Derived.Test.YtmnancfboococaaGreatDoorPm10
import Derived.Test.YtmnancfboococaaGreatDoorPm12
set_option linter.all false
namespace Go.Ai
open Go
section
variable {c:Cx}{P:Program}{ty:Nat→Option TyI}{nt:Nat}{K:List KF}{S:St}
theorem aD2 (hc:Ctx c P ty nt){all:Array Oper}{i:Nat}{k:List KI}(o:Oper)(ho:all[i]?=some o)(hg:guardOf all S.sl o=some true)(hd:cF nt o.dst=true){t e n cap:Nat}{x y:Operand}{ya:AV}{kd:IntKind}{a0:Option Addr}{ti ei:TyI}{l news:List Int}{ow':List OF}{bytes:Nat}{G:Option Addr→Nat→Nat→List Int→OF}(hG:∀a n cap l,G a n cap l=OF.row (.slice a n cap) c.B.heap.size e kd l)
  (hop:o.op=.call {callee:=.builtin .append,args:=#[x,y],argTypes:=#[t,t]}) (hx:fG S.sl x=some (.xs a0 n cap)) (hy:fG S.sl y=some ya) (how:S.ow=G a0 n cap l::ow')
  (hti:ty t=some ti) (hk:ti.kind=.slice e 1) (hei:ty e=some ei) (hag:ei.kind.agg=false) (hby:(P.info? e).map (·.bytes)=some bytes) (hle:(l.length+news.length)*bytes≤140737488355328) (h63:l.length+news.length≤9223372036854775807) (hne:1≤news.length)
  (hv:∀X μ a w v,Sim c K S X μ a w→aC μ ya=some v→∃ad c',v=.slice (some ad) news.length c'∧∀j z,news[j]?=some z→w.cell? (ad.add j)=some (.int kd z))
  (h:∀a' n' aZ l',n'=l.length+news.length→l'=l++news→Goal c K ⟨.ops all (i+1)::k,S.putO o.dst (.xs a' n' aZ) none (G a' n' aZ l'::ow'),[]⟩):Goal c K ⟨.ops all i::k,S,[]⟩:=by
 refine tG hc o ho hg (ι:=RowZ) (K':=fun _=>K) (S':=fun z=>S.putO o.dst (.xs z.a (l.length+news.length) z.cap) none (G z.a (l.length+news.length) z.cap (l++news)::ow')) (p:=fun _=>True) (fun X μ a w H=>?_) (fun z _=>h z.a (l.length+news.length) z.cap _ rfl rfl);have P':=H.toP
 rw[hG]at how;have e1:=lI (aI H.toP hx (fun _ _=>trivial))
 obtain⟨ad,c',e2,gX⟩:=hv X μ a w _ H (aI H.toP hy (fun _ _=>trivial));have T:=c.tok t ti (by rw[hc.hty];exact hti)
 have hu:=T.und
 rw[hk]at hu;obtain⟨u1,tj,u2,u3⟩:=hu;obtain⟨tj',z,h1,h2,h3,h4,h5⟩:=(c.tok e ei (by rw[hc.hty];exact hei)).info;rw[u2]at h1;injection h1 with h1;subst h1
 have hzs:z.cells.size=1:=by rw[cells_one (h5.2 hag)];rfl
 have hb2:tj.bytes=bytes:=by rw[←hc.hP,u2]at hby;simpa using hby
 have hf0:OF.row (.slice a0 n cap) c.B.heap.size e kd l∈S.ow:=by rw[how];exact .head _
 obtain⟨hr0,hr1⟩:=P'.own.at_ _ hf0;have hr0:w.ownsRow c.B.heap.size e 1 (.slice a0 n cap) l.length (l.map (Value.int kd)):=hr0
 obtain⟨v',w',q1,q2,q3,q4⟩:=aCx (P:=c.P) c.B.heap.size t o.type e tj z bytes u1 u2 h3 u3 hb2 hzs _ _ _ hr0 ad news.length c' (news.map (Value.int kd)) (by simp) (fun q u hq=>by
   rw[List.getElem?_map]at hq;cases hz:news[q]? with
   | none=>rw[hz]at hq;cases hq
   | some y=>rw[hz]at hq;injection hq with hq;rw[←hq];exact gX q y hz) (fun u hu=>by obtain⟨y,_,rfl⟩:=List.mem_map.1 hu;rfl) (by simpa[maxLen]using h63) hle P'.bel.size
 have hv':∃a' aZ,v'=.slice a' (l.length+news.length) aZ:=by
  rcases q2.2 with⟨h6,h7⟩ | ⟨g,aZ,cur,h6,_⟩
  ·omega
  ·exact⟨_,_,h6⟩
 obtain⟨a',aZ,rfl⟩:=hv';refine⟨⟨a',aZ⟩,.slice a' (l.length+news.length) aZ,w',X,μ,trivial,?_,?_⟩
 ·rw[←hc.hP];simp only[execOp,hop,resolve,invoke,builtin,Sem.run_bind,Sem.run_pure,Result.andThen_ok,List.map_toArray,List.map_cons,List.map_nil,e1,e2];rw[q1]
  rfl
 ·have hap:=P'.own.apart
  rw[how]at hap;simp only[hG];refine aFv (r:=(Value.slice a0 n cap).ownBlock) (by rw[hc.hnt];exact hd) H q3 (by simpa using q2) (fun f hf=>by rw[how];exact .tail _ hf) (List.Pairwise.of_cons hap) (fun b hb=>⟨_,hf0,hb⟩) (fun f hf b hb hb'=>List.rel_of_pairwise_cons hap hf b hb hb') q4 ?_
  rcases q4 with h6 | h6
  ·exact .inr h6
  ·exact .inl (World.ownsRow.lt q2 _ h6).2
theorem aOs {kd:IntKind}{l:List Int}{v:Value}{X:Nat→Prop}{w:World}(h:(lE kd l).p v X w)(hne:1≤l.length):∃ad c',v=.slice (some ad) l.length c'∧∀j z,l[j]?=some z→w.cell? (ad.add j)=some (.int kd z):=by
 obtain⟨a,cap,rfl,_,h3⟩:=h
 match a,h3 with
 | none,h3=>rw[h3.1]at hne;simp at hne
 | some (b,o),⟨h3,cs,ty,h4,h5⟩=>exact⟨⟨b,o,none⟩,cap,rfl,fun j z hz=>by simp[add_eq,World.cell?,h4,h5 j z hz]⟩
theorem aO9 {kd:IntKind}{j bt:Nat}{e1 e2:IE}(hj:S.hp[j]?=some (.c bt [.i kd e1,.i kd e2])){X:Nat→Prop}{μ:Mu}{a:Act}{w:World}{v:Value}(H:Sim c K S X μ a w)(hv:aC μ (.sl j 0 (.l 2) 2)=some v):
  ∃ad c',v=.slice (some ad) [e1.den,e2.den].length c'∧∀j z,[e1.den,e2.den][j]?=some z→w.cell? (ad.add j)=some (.int kd z):=by
 have P':=H.toP
 obtain⟨b,o1,hb1,e2'⟩:=mG hv (by simp[IE.den]);simp only[IE.den]at e2';obtain⟨m,hm1,hm2⟩:=vS hb1;have hok:=P'.heap j _ m hj hm1
 match m,hm2,hok,hm1 with
 | .own b',hm2,hok,hm1=>
  simp only[MV.at,Option.some.injEq,Prod.mk.injEq]at hm2;obtain⟨rfl,rfl⟩:=hm2;obtain⟨vs,hvs,sZ⟩:=hok;simp only[aH,aC,Option.some.injEq]at hvs;subst hvs;refine⟨_,_,e2',fun q z hq=>?_⟩
  match q,hq with
  | 0,hq=>simp at hq;subst hq;simp[add_eq,World.cell?,sZ]
  | 1,hq=>simp at hq;subst hq;simp[add_eq,World.cell?,sZ]
  | q+2,hq=>simp at hq
theorem aZ4 {ks:List KI}(d k:Nat){bt n:Nat}{kd:IntKind}{G:Option Addr→Nat→Nat→List Int→OF}(hG:∀a n cap l,G a n cap l=OF.row (.slice a n cap) c.B.heap.size bt kd l){cells:List AV}{news:List Int}{l:List (Nat × AV)}{K':List KF}(hp:iO ks=true)(hk:S.hp[k]?=some (.c bt cells))(hd:look S.sl d=some (.sl k 0 (.l (n:Int)) n))(gX:aH iJ cells=some (news.map (Value.int kd)))(aHe:news.length=n)(h63:n≤9223372036854775807)(hl:aCt S k l)(hb:(S.hp.set k .e).all (Blk.fr k)=true)(hK:aAe k K K')(hO:aCs k S.ow)
  (h:∀b,Goal c K' ⟨ks,⟨(d,.xs (some ⟨b,0,none⟩) n n)::l,S.hp.set k .e,G (some ⟨b,0,none⟩) n n news::S.ow⟩,[]⟩):Goal c K ⟨ks,S,[]⟩:=by
 simp only[hG]at h;refine gO (ι:=Nat) (K':=fun _=>K') (S':=fun b=>⟨(d,.xs (some ⟨b,0,none⟩) n n)::l,S.hp.set k .e,OF.row (.slice (some ⟨b,0,none⟩) n n) c.B.heap.size bt kd news::S.ow⟩) (p:=fun _=>True) hp (fun X μ a w H=>?_) (fun b _=>h b);have P:=H.toP
 have hkl:k<S.hp.length:=(List.getElem?_eq_some_iff.1 hk).1
 obtain⟨m,hm⟩:=P.all k hkl;have hok:=P.heap k _ m hk hm
 match m,hok,hm with
 | .own b,hok,hm=>
 obtain⟨vs,hvs,hbk⟩:=hok;have aU1:news.map (Value.int kd)=vs:=by rw[cS gX]at hvs;injection hvs
 have hvl:vs.length=cells.length:=aY hvs
 have hlen:(S.hp.set k .e).length=S.hp.length:=by simp
 have dW:∀j b',(μ.upd k (.val undef)) j=some (.own b')→j≠k∧μ j=some (.own b'):=fun j b' hj=>by
  by_cases e:j=k
  ·subst e;rw[Mu.upd_same]at hj;injection hj with hj;cases hj
  ·rw[(eO e).2.2]at hj;exact⟨e,hj⟩
 refine⟨b,X,μ.upd k (.val undef),trivial,⟨⟨P.dfr,P.size,?_,?_,?_,?_,?_,P.xlt,P.xnew,P.xold,P.bel,?_,?_⟩,?_⟩⟩
 ·intro t av _ ht
  by_cases e:d=t
  ·subst e;rw[bF]at ht;injection ht with ht;subst ht
   obtain⟨v,e1,e2⟩:=P.slots d _ trivial hd;have hv:v=.slice (some ⟨b,0,none⟩) n n:=by
    obtain⟨q,h1,h2,h3,h4⟩:=nO e1;simp only[atS,hm,MV.atS,Option.bind_some,Option.some.injEq]at h1;subst h1
    simpa[IE.den]using h2
   exact⟨v,by rw[hv];rfl,e2⟩
  ·rw[bA e]at ht;obtain⟨a',e1,e2,e3⟩:=hl.look t av ht;obtain⟨v,e4,e5⟩:=P.slots t a' trivial e1;exact⟨v,by rw[uT _ e2,←e3 μ];exact e4,e5⟩
 ·intro j bj m hj hmj
  by_cases e:j=k
  ·subst e;rw[Mu.upd_same]at hmj;injection hmj with hmj;subst hmj
   have hse:(S.hp.set j .e)[j]?=some .e:=by simp[hkl]
   have hj:some Blk.e=some bj:=hse.symm.trans hj
   injection hj with hj;subst hj;trivial
  ·rw[(eO e).2.2]at hmj;have hfr:bj.fr k=true:=List.all_eq_true.1 hb _ (List.mem_of_getElem? hj)
   rw[List.getElem?_set_ne (fun e'=>e e'.symm)]at hj;exact Blk.ok_fr hfr (P.heap j bj m hj hmj)
 ·intro j hj;rw[hlen]at hj
  by_cases e:j=k
  ·subst e;exact⟨_,Mu.upd_same _ _ _⟩
  ·obtain⟨m,hm⟩:=P.all j hj;exact⟨m,by rw[(eO e).2.2];exact hm⟩
 ·intro j j' b' h1 h2;exact P.inj j j' b' (dW _ _ h1).2 (dW _ _ h2).2
 ·intro j b' h1;exact P.loc j b' (dW _ _ h1).2
 ·intro f hf;obtain⟨h1,h2⟩:=hK.mem f hf;exact h2.out _ _ _ _ (P.kf f h1)
 ·obtain⟨l1,l2,l3⟩:=P.loc k b hm;refine⟨fun f hf=>?_,List.Pairwise.cons (fun g hg j hj=>?_) ?_⟩
  ·rcases List.mem_cons.1 hf with e | e
   ·subst e;subst aHe;refine⟨⟨by simp,.inr ⟨b,news.length,vs.toArray,rfl,l1,hbk,lRf _,by simpa[maxLen]using h63,by rw[←aU1];simp,by rw[←aU1];exact List.take_of_length_le (by simp)⟩⟩,fun j hj=>?_⟩;have hj:j=b:=(Option.some.inj hj).symm
    subst hj;exact⟨l1,l3,l2,fun k' hk'=>(dW _ _ hk').1 (P.inj _ _ _ (dW _ _ hk').2 hm)⟩
   ·obtain⟨h1,h2⟩:=P.own.at_ f e;obtain⟨h3,h4⟩:=(hO.mem f e).out μ w undef h1;refine⟨h3,fun j hj=>?_⟩;obtain⟨q1,q2,q3,q4⟩:=h2 j ((h4 j).1 hj);exact⟨q1,q2,q3,fun k' hk'=>q4 k' (dW _ _ hk').2⟩
  ·have hj:j=b:=(Option.some.inj hj).symm
   subst hj;intro hg';obtain⟨h1,h2⟩:=P.own.at_ g hg;exact(h2 j ((((hO.mem g hg).out μ w undef h1).2 j).1 hg')).2.2.2 k hm
  ·refine P.own.apart.imp_of_mem fun {f g} hf hg hq j hj hj'=>?_
   exact hq j ((((hO.mem f hf).out μ w undef (P.own.at_ f hf).1).2 j).1 hj) ((((hO.mem g hg).out μ w undef (P.own.at_ g hg).1).2 j).1 hj')
 ·intro j hj;rw[hlen]at hj;have e:j≠k:=by omega
  rw[(eO e).2.2];exact H.dom j hj
theorem aOw {ks:List KI}(k n:Nat){bt:Nat}{kd:IntKind}{l l':List Int}(hp:okc ks=true)(hk:S.hp[k]?=some (.w bt kd l))(hl':l'=l.take n)
  (h:Goal c K ⟨ks,{S with hp:=S.hp.set k (.w bt kd l')},[]⟩):Goal c K ⟨ks,S,[]⟩:=by
 subst hl';refine nV hp (fun X μ a w H=>?_) h rfl;have P:=H.toP
 have hkl:k<S.hp.length:=(List.getElem?_eq_some_iff.1 hk).1
 refine⟨X,μ,⟨⟨P.dfr,P.size,P.slots,?_,?_,P.inj,P.loc,P.xlt,P.xnew,P.xold,P.bel,P.kf,P.own⟩,?_⟩⟩
 ·intro j bj m hj hm
  by_cases e:k=j
  ·subst e;have hse:(S.hp.set k (.w bt kd (l.take n)))[k]?=some (.w bt kd (l.take n)):=by simp[hkl]
   have hj:some (Blk.w bt kd (l.take n))=some bj:=hse.symm.trans hj
   injection hj with hj;subst hj
   have hok:=P.heap k _ m hk hm
   match m,hok with
   | .own b,⟨rest,hok⟩=>exact⟨(l.drop n).map (Value.int kd)++rest,by rw[←List.append_assoc,←List.map_append,List.take_append_drop];exact hok⟩
  ·have hj:(S.hp.set k (.w bt kd (l.take n)))[j]?=some bj:=hj
   rw[List.getElem?_set_ne e]at hj;exact P.heap j bj m hj hm
 ·intro j hj;exact P.all j (by simpa using hj)
 ·intro j hj;exact H.dom j (by simpa using hj)
end
end Go.Ai
namespace Go.Num
open Go.Lib
def leD:Nat→Nat→List Int
 | 0,_=>[]
 | j+1,n=>((48+n%10:Nat):Int)::leD j (n/10)
theorem sF:∀(j n:Nat),(leD j n).length=j
 | 0,_=>rfl
 | j+1,n=>by simp[leD,sF j]
theorem aHq:∀(j n:Nat),leD (j+1) n=leD j n++[((48+n/10^j%10:Nat):Int)]
 | 0,n=>by simp[leD]
 | j+1,n=>by
  rw[leD,aHq j (n/10),leD,List.cons_append,Nat.div_div_eq_div_mul,Nat.pow_succ,Nat.mul_comm 10]
theorem aR1:∀(j n:Nat) (x:Int),x∈leD j n→48≤x∧x≤57
 | j+1,n,x,h=>by
  rw[leD]at h
  rcases List.mem_cons.1 h with h | h
  ·omega
  ·exact aR1 j _ x h
theorem aAy {d:Nat}(h:d<10):(UInt8.ofNat (48+d)).toNat=48+d:=by
 simp only[UInt8.toNat_ofNat'];omega
theorem aMh:∀(j n:Nat),1≤j→n<10^j→10^(j - 1)≤n∨j=1→(leD j n).reverse=(decDigits n).map fun c=>((c.toNat:Nat):Int)
 | 1,n,_,h,_=>by
  have h:n<10:=by simpa using h
  rw[bM h];simp only[leD,List.reverse_cons,List.reverse_nil,List.nil_append,List.map_cons,List.map_nil];rw[aAy (by omega)]
  congr 2;omega
 | j+2,n,_,h,h'=>by
  have h':10^(j+1)≤n:=by
   rcases h' with h' | h'
   ·exact h'
   ·omega
  rw[Nat.pow_succ]at h h';have hp:0<10^j:=Nat.pow_pos (by decide)
  have h10:¬n<10:=by omega
  rw[dR h10,leD,List.reverse_cons,aMh (j+1) (n/10) (by omega) (by rw[Nat.pow_succ]at h ⊢;omega) (.inl (by show 10^j≤n/10;omega)),List.map_append];simp only[List.map_cons,List.map_nil];rw[aAy (by omega)]
theorem aX6 {x k:Nat}(h:k<9):x%1000000000/10^k%10=x/10^k%10:=by
 match k,h with
 | 0,_=>simp
 | 1,_=>simp;omega
 | 2,_=>simp;omega
 | 3,_=>simp;omega
 | 4,_=>simp;omega
 | 5,_=>simp;omega
 | 6,_=>simp;omega
 | 7,_=>simp;omega
 | 8,_=>simp;omega
theorem zM:∀(i n:Nat),(aF n).getD i 0=((n/1000000000^i%1000000000:Nat):Int)
 | i,0=>by rw[bO];simp
 | 0,n+1=>by rw[bY (by omega)];simp
 | i+1,n+1=>by
  rw[bY (by omega),List.getD_cons_succ,zM i,Nat.div_div_eq_div_mul,Nat.pow_succ,Nat.mul_comm (1000000000:Nat)]
def Tx (n N i:Nat)(out:List Int):Prop:=(i<N∧out=leD (9*i) n)∨(i=N∧∃L,1≤L∧L≤9*N∧out=leD L n∧n<10^L∧10^(L - 1)≤n)
structure Ty (n N i k:Nat)(w:Int)(out:List Int):Prop where
 hi:i<N
 hk:k≤9
 out:out=leD (9*i+k) n
 w:w=((n/1000000000^i%1000000000/10^k:Nat):Int)
 low:i+1=N→k=0∨10^(9*i+k - 1)≤n
theorem aZr (i:Nat):(1000000000:Nat)^i=10^(9*i):=by rw[Nat.pow_mul]
theorem Ty.init {n N i:Nat}{w:Int}{out:List Int}(h:Tx n N i out)(hi:i<N)(hw:w=(aF n).getD i 0):Ty n N i 0 w out:=by
 rcases h with⟨_,h⟩ | ⟨h,_⟩
 ·exact⟨hi,by omega,h,by rw[hw,zM];simp,fun _=>.inl rfl⟩
 ·omega
theorem Ty.step {n N i k:Nat}{w:Int}{out:List Int}(h:Ty n N i k w out)(hN:(aF n).length=N)(hk:k<9)(hc:i+1<N∨0<w):Ty n N i (k+1) (w/10) (out++[48+w%10])∧0≤w∧w<1000000000:=by
 have e:10^(9*i+k)=1000000000^i*10^k:=by rw[aZr,Nat.pow_add]
 have hb:n/1000000000^i%1000000000/10^k<1000000000:=Nat.lt_of_le_of_lt (Nat.div_le_self _ _) (Nat.mod_lt _ (by decide))
 have hd:=aX6 (x:=n/1000000000^i) hk
 have hw0:0≤w∧w<1000000000:=by
  have hw:=h.w
  generalize n/1000000000^i%1000000000/10^k=W at *;omega
 refine⟨⟨h.hi,hk,?_,?_,fun hN'=>.inr ?_⟩,hw0⟩
 ·rw[show 9*i+(k+1)=(9*i+k)+1 from rfl,aHq,←h.out,e,←Nat.div_div_eq_div_mul,←hd,h.w]
  congr 2
 ·rw[h.w,Nat.pow_succ,←Nat.div_div_eq_div_mul];rfl
 ·rw[show 9*i+(k+1) - 1=9*i+k by omega]
  rcases hc with hc | hc
  ·omega
  ·rw[h.w]at hc;have h1:n/1000000000^i%1000000000/10^k≤n/1000000000^i/10^k:=Nat.div_le_div_right (Nat.mod_le _ _)
   rw[Nat.div_div_eq_div_mul,←e]at h1;have h2:0<n/10^(9*i+k):=by omega
   exact(Nat.div_pos_iff.1 h2).2
theorem Ty.done {n N i k:Nat}{w:Int}{out:List Int}(h:Ty n N i k w out)(hN:(aF n).length=N)(hc:k=9∨(i+1=N∧w=0)):Tx n N (i+1) out:=by
 have hlt:n<1000000000^N:=bG (by omega)
 rcases Nat.lt_or_ge (i+1) N with h1 | h1
 ·left
  have hk:k=9:=by omega
  exact⟨h1,by rw[h.out,hk];rfl⟩
 ·right
  have hi:=h.hi
  have hN':i+1=N:=by omega
  refine⟨hN',9*i+k,?_,?_,h.out,?_,?_⟩
  ·have:k≠0:=fun hk0=>by
    rcases hc with hc | ⟨_,hc⟩
    ·omega
    ·have aRt:=wL (m:=n) (k:=i) (by omega)
     have:=h.w
     rw[zM]at aRt;rw[hk0,Nat.pow_zero,Nat.div_one]at this;generalize n/1000000000^i%1000000000=W at *;omega
   omega
  ·have:=h.hk;omega
  ·rcases hc with hc | ⟨_,hc⟩
   ·rw[hc,show 9*i+9=9*(i+1) by omega,←aZr,hN'];exact hlt
   ·have e:10^(9*i+k)=1000000000^i*10^k:=by rw[aZr,Nat.pow_add]
    have hw:=h.w
    have h2:n/1000000000^i<1000000000:=(Nat.div_lt_iff_lt_mul (Nat.pow_pos (by decide))).2 (by rw[←hN',Nat.pow_succ,Nat.mul_comm]at hlt;exact hlt)
    rw[Nat.mod_eq_of_lt h2,Nat.div_div_eq_div_mul,←e]at hw;have h3:n/10^(9*i+k)=0:=by omega
    rcases Nat.div_eq_zero_iff.1 h3 with h4 | h4
    ·have:0<10^(9*i+k):=Nat.pow_pos (by decide)
     omega
    ·exact h4
  ·rcases h.low hN' with hk0 | h1
   ·exact absurd hk0 (fun hk0=>by
     rcases hc with hc | ⟨_,hc⟩
     ·omega
     ·have aRt:=wL (m:=n) (k:=i) (by omega)
      have:=h.w
      rw[zM]at aRt;rw[hk0,Nat.pow_zero,Nat.div_one]at this;generalize n/1000000000^i%1000000000=W at *;omega)
   ·exact h1
theorem Tx.done {n N:Nat}{out:List Int}(h:Tx n N N out):out.reverse=(decDigits n).map (fun c=>((c.toNat:Nat):Int))∧1≤out.length∧out.length≤9*N∧∀x,x∈out→48≤x∧x≤57:=by
 rcases h with⟨h,_⟩ | ⟨_,L,h1,h2,rfl,h3,h4⟩
 ·omega
 ·exact⟨aMh L n h1 h3 (.inl h4),by rw[sF];exact h1,by rw[sF];exact h2,aR1 L n⟩
theorem Tx.len {n N i:Nat}{out:List Int}(h:Tx n N i out):out.length≤9*i:=by
 rcases h with⟨_,rfl⟩ | ⟨hi,L,h1,h2,rfl,_⟩
 ·rw[sF];exact lRf _
 ·rw[sF,hi];exact h2
structure Sw (out l:List Int)(i:Nat):Prop where
 len:l.length=out.length
 hi:2*i≤out.length
 at_:∀t,t<out.length→l.getD t 0=if t<i∨out.length - i≤t then out.getD (out.length - 1 - t) 0 else out.getD t 0
theorem Sw.init (out:List Int):Sw out out 0:=⟨rfl,by omega,fun t ht=>by rw[if_neg (by omega)]⟩
theorem aG7 (l:List Int)(i j:Nat)(x:Int):(l.set i x).getD j 0=if i=j∧i<l.length then x else l.getD j 0:=by
 simp only[List.getD_eq_getElem?_getD,List.getElem?_set];split
 ·rename_i h;subst h;split
  ·rename_i h2;rw[if_pos ⟨rfl,h2⟩];rfl
  ·rename_i h2;rw[if_neg (fun h=>h2 h.2)];simp[List.getElem?_eq_none (by omega:l.length≤i)]
 ·rename_i h;rw[if_neg (fun h'=>h h'.1)]
theorem Sw.step {out l:List Int}{i k:Nat}(h:Sw out l i)(hk:k+i+1=out.length)(hik:i<k):Sw out ((l.set i (l.getD k 0)).set k (l.getD i 0)) (i+1):=by
 have hl:=h.len
 have a1:=h.at_ i (by omega)
 have a2:=h.at_ k (by omega)
 rw[if_neg (by omega)]at a1 a2;refine⟨by simp[hl],by omega,fun t ht=>?_⟩;rw[aG7,aG7,List.length_set]
 by_cases e1:k=t
 ·subst e1;rw[if_pos ⟨rfl,by omega⟩,if_pos (by omega),a1,show out.length - 1 - k=i by omega]
 ·rw[if_neg (fun h=>e1 h.1)]
  by_cases e2:i=t
  ·subst e2;rw[if_pos ⟨rfl,by omega⟩,if_pos (by omega),a2,show out.length - 1 - i=k by omega]
  ·rw[if_neg (fun h=>e2 h.1),h.at_ t ht]
   by_cases e3:t<i∨out.length - i≤t
   ·rw[if_pos e3,if_pos (by omega)]
   ·rw[if_neg e3,if_neg (by omega)]
theorem Sw.done {out l:List Int}{i:Nat}(h:Sw out l i)(hi:out.length≤2*i+1):l=out.reverse:=by
 have hl:=h.len
 have hi':=h.hi
 refine List.ext_getElem? fun t=>?_
 rcases Nat.lt_or_ge t out.length with ht | ht
 ·have a:=h.at_ t ht
  rw[List.getElem?_eq_getElem (by omega),List.getElem?_reverse ht,List.getElem?_eq_getElem (by omega)];simp only[List.getD_eq_getElem?_getD]at a;rw[List.getElem?_eq_getElem (by omega:t<l.length)]at a;simp only[Option.getD_some]at a;rw[a]
  by_cases e3:t<i∨out.length - i≤t
  ·rw[if_pos e3,List.getElem?_eq_getElem (by omega)];rfl
  ·rw[if_neg e3,List.getElem?_eq_getElem ht];have:out.length - 1 - t=t:=by omega
   simp only[this];rfl
 ·rw[List.getElem?_eq_none (by omega),List.getElem?_eq_none (by simpa using ht)]
theorem Kn.init2 {n m f k T:Nat}{U z:List Int}(hw:Wd U)(hv:val U=(n*f:Nat))(hz:z=List.replicate T 0)(hk:(aF m).length=k)(h1:1≤k)(hf:1≤f)(hT:T+k=U.length)(hl:U.length=(aF n).length+1):
  Kn (n*f:Nat) (m*f:Nat) k T U z:=by
 refine⟨hw,by rw[hz];exact lP T,by rw[hz,List.length_replicate];omega,?_,?_⟩
 ·rw[hz,List.drop_of_length_le (by simp),hv];simp[val]
 ·have h2:=jD (l:=U) (q:=T) (by omega)
  have h3:=cH (hw.take T)
  have h4:=cH (hw.drop T)
  apply Classical.byContradiction;intro hc;have hc:((m*f:Nat):Int)≤val (U.drop T):=by omega
  obtain⟨d,hd⟩:∃d:Nat,val (U.drop T)=d:=⟨(val (U.drop T)).toNat,by omega⟩;rw[hd]at hc h2;have hc:m*f≤d:=by omega
  have h5:1000000000^T*d≤n*f:=by
   have:((1000000000^T*d:Nat):Int)=(1000000000:Int)^T*d:=by simp
   omega
  have hn:n<1000000000^(aF n).length:=bG (lRf _)
  have hm:1000000000^(k - 1)≤m:=by
   apply Classical.byContradiction;intro h;have:=bR (n:=m) (k:=k - 1) (by omega)
   omega
  have h6:1000000000^T*(m*f)≤n*f:=lTr (Nat.mul_le_mul_left _ hc) h5
  rw[←Nat.mul_assoc]at h6;have h7:1000000000^T*m≤n:=Nat.le_of_mul_le_mul_right h6 (by omega)
  have h8:1000000000^T*1000000000^(k - 1)≤n:=lTr (Nat.mul_le_mul_left _ hm) h7
  rw[←Nat.pow_add,show T+(k - 1)=(aF n).length by omega]at h8;omega
end Go.Num
