/- Part 9: lemmas for garboardlaw17.FloatDivides -/
import Derived.Test.YtmnancfboococaaGreatDoorProg
import Derived.Test.YtmnancfboococaaGreatDoorPd7
set_option linter.all false
namespace Go.Ai
open Go Go.RowKit
section
variable {c:Cx}{P:Program}{ty:Nat->Option TyI}{nt:Nat}{K:List KF}{S:St}
theorem iA {ks:List KI}(j:Nat){bt:Nat}{cells:List AV}(cells':List AV)(hp:iJ ks=true)(hj:S.hp[j]?=some (.c bt cells))(he:∀μ,aF μ cells=aF μ cells')
  (h:Goal c K ⟨ks,{S with hp:=S.hp.set j (.c bt cells')},[]⟩):Goal c K ⟨ks,S,[]⟩:=by
 refine nS hp (λX μ a w H=>⟨X,μ,?_⟩) h;have P:=H.toP;refine⟨⟨P.dfr,P.size,P.slots,λk blk m hk hm=>?_,by simpa using P.all,P.inj,P.loc,P.xlt,P.xnew,P.xold,P.bel,P.kf,P.own⟩,by simpa using H.dom⟩;simp only[List.getElem?_set]at hk;split at hk
 ·rename_i e;subst e;split at hk
  ·injection hk with hk;subst hk
   have:=P.heap _ _ m hj hm
   cases m with
   | own b=>obtain⟨vs,h1,h2⟩:=this;exact⟨vs,by rw[<-he];exact h1,h2⟩
   | ext x=>exact this.elim
   | val v=>exact this.elim
  ·cases hk
 ·exact P.heap k blk m hk hm
theorem jD {all:Array Oper}{i:Nat}{k:List KI}(h:Goal c K ⟨k,S,[]⟩)(hi:Nat.ble all.size i=true:=by exact rfl)(hk:iJ k=true:=by exact rfl):Goal c K ⟨.ops all i::k,S,[]⟩:=
 .mk0 (xG (lbl hi) (nP hk h))
theorem aTq {ks:List KI}{S':St}(hp:iJ ks=true)(hhp:S'.hp=S.hp)(how:S'.ow=S.ow)(hsl:∀t av,look S'.sl t=some av->look S.sl t=some av)(h:Goal c K ⟨ks,S',[]⟩):Goal c K ⟨ks,S,[]⟩:=
 .mk0 (xH (S':=S') (by
  match ks,hp with
  | [],_=>rfl
  | .code _::_,_=>rfl
  | .ops _ _::_,_=>rfl
  | .blk _::_,_=>rfl
  | .hole _::_,_=>rfl
  | .ord _ _::_,_=>rfl) ⟨hhp,how,λt b hb=>⟨b,hsl t b hb,λ_=>rfl⟩⟩ h.so)
def Ls (b4 b5 b6 b7 b8:Bool):Array Bool:=#[true,true,true,true,b4,b5,b6,b7,b8]
theorem aE1 (hc:Ctx c P ty nt){mt kt et n:Nat}(T:KeyTy P mt kt et n){all:Array Oper}{n0:Nat}{K0:List KF}{k:List KI}{M:Nat->fN->OF}(hM:∀r es,M r es=OF.mp r es){r:Nat}{ks:List ByteArray}{es:fN}(pre:List OF){post:List OF}{a b d4 d5 d6 d7:Nat}{kav:AV}{bop:BinOp}(dl:Int)
  (hsz:all.size=9) {o4 o5 o6 o7 o8:Oper} (g4:all[4]?=some o4) (g5:all[5]?=some o5) (g6:all[6]?=some o6) (g7:all[7]?=some o7) (g8:all[8]?=some o8)
  (e4:o4.op=.lookup mt (.tmp a) (.tmp b) false) (f4:o4.dst=some d4) (q4:o4.guard=none)
  (e5:o5.op=.binOp bop 3 (.tmp d4) (.const (.int .i64 1)) 3) (f5:o5.dst=some d5) (q5:o5.guard=none)
  (e6:o6.op=.mapEntry mt (.tmp a) (.tmp b)) (f6:o6.dst=some d6) (q6:o6.guard=none)
  (e7:o7.op=.extract (.tmp d6) 1) (f7:o7.dst=some d7) (q7:o7.guard=none)
  (e8:o8.op=.entryStore mt (.tmp a) (.tmp d7) (.tmp d5)) (f8:o8.dst=none) (q8:o8.guard=none)
  (hb:(bop=.add/\dl=1)\/(bop=.sub/\dl=-1)) (hz:-4611686018427387904<=gF es ks/\gF es ks<=4611686018427387904)
  (hdd:(decide (d4<nt)&&decide (d5<nt)&&decide (d6<nt)&&decide (d7<nt))=true) (aH9:[a,b,d4,d5,d6,d7].Nodup)
  (sa:look S.sl a=some (.o (.map (some r)))) (sb:look S.sl b=some kav) (hk:aD iN kav=some (jK ks)) (hn:ks.length=n) (hes:iS n es) (how:S.ow=pre++M r es::post)
  (w4:look S.sl d4=none) (w5:look S.sl d5=none) (w6:look S.sl d6=none) (w7:look S.sl d7=none)
  (r0:Region.ready .any all (Ls false false false false false)=[4,6]) (r4:Region.ready .any all (Ls true false false false false)=[5,6]) (r6:Region.ready .any all (Ls false false true false false)=[4,7])
  (r45:Region.ready .any all (Ls true true false false false)=[6]) (r46:Region.ready .any all (Ls true false true false false)=[5,7]) (r67:Region.ready .any all (Ls false false true true false)=[4])
  (r456:Region.ready .any all (Ls true true true false false)=[7]) (r467:Region.ready .any all (Ls true false true true false)=[5]) (r4567:Region.ready .any all (Ls true true true true false)=[8]) (r8:Region.ready .any all (Ls true true true true true)=[])
  (hd:tK all 4=true) (hkk:iJ k=true) (h:Goal c K ⟨k,{S with ow:=pre++M r (fR ks dl es)::post},[]⟩):Goal c K ⟨.dops all 4 n0 K0::k,S,[]⟩:=by
 simp only[Bool.and_eq_true,decide_eq_true_eq]at hdd;obtain⟨⟨⟨l4,l5⟩,l6⟩,l7⟩:=hdd;simp only[List.nodup_cons,List.mem_cons,List.not_mem_nil,not_or,or_false,not_false_eq_true,List.nodup_nil,and_true]at aH9;obtain⟨⟨n1,n2,n3,n4,n5⟩,⟨n6,n7,n8,n9⟩,⟨n10,n11,n12⟩,⟨n13,n14⟩,n15⟩:=aH9;have hd4:cA nt o4.dst=true:=by rw[f4];simpa[cA]using l4
 have hd5:cA nt o5.dst=true:=by rw[f5];simpa[cA]using l5
 have hd6:cA nt o6.dst=true:=by rw[f6];simpa[cA]using l6
 have hd7:cA nt o7.dst=true:=by rw[f7];simpa[cA]using l7
 have gd:∀(o:Oper) (sl:List (Nat × AV)),o.guard=none->guardOf #[o] sl o=some true:=λo sl h=>by simp[guardOf,h]
 have aKs:=hes.touch (k:=ks) hn
 obtain⟨z,hz'⟩:=nm (gF es ks);rw[<-hz']at hz;obtain⟨st,hst⟩:=nm (lZ es ks);obtain⟨es1,aB5⟩:=nm (gL es ks);rw[<-aB5]at aKs;have hlt:st<es1.length:=by rw[hst,aB5];exact aE8 es ks
 have hz1:z=gF es1 ks:=by rw[aB5,aB2];exact hz'
 let e5e:IE:=if bop=.add then .add (.v z) (.l 1)else .sub (.v z) (.l 1)
 have he5:e5e.den=z+dl:=by
  rcases hb with⟨h1,h2⟩ | ⟨h1,h2⟩
  ·simp only[e5e,h1,h2,if_true,IE.den]
  ·simp only[e5e,h1,h2,if_neg (show ¬BinOp.sub=BinOp.add by intro h;cases h),IE.den];omega
 have iV:mL es1 st e5e.den=fR ks dl es:=by rw[he5,aB5,hst,hz'];exact aJc es ks dl
 have t4:∀(S1:St) (L:Array Bool) (es0:fN),iS n es0->z=gF es0 ks->look S1.sl a=some (.o (.map (some r)))->look S1.sl b=some kav->S1.ow=pre++M r es0::post->
   Goal c K ⟨.ord all L::k,{S1 with sl:=(d4,.i .i64 (.v z))::S1.sl},[]⟩->Goal c K ⟨.ops #[o4] 0::.ord all L::k,S1,[]⟩:=by
  intro S1 L es0 u1 u2 u3 u4 u5 g;refine aNv hc o4 rfl (gd _ _ q4) hd4 T pre hM e4 u3 u4 hk hn u1 u5 z u2 ?_;refine jD ?_;simp only[St.put,St.putO,f4];exact g
 have t5:∀(S1:St) (L:Array Bool),look S1.sl d4=some (.i .i64 (.v z))->Goal c K ⟨.ord all L::k,{S1 with sl:=(d5,.i .i64 e5e)::S1.sl},[]⟩->Goal c K ⟨.ops #[o5] 0::.ord all L::k,S1,[]⟩:=by
  intro S1 L u1 g;have hf:fop c.ty S1.hp.length S1 o5.op=some ⟨.i .i64 e5e,none,[.inR .i64 e5e]⟩:=by
   rw[e5];rcases hb with⟨h1,h2⟩ | ⟨h1,h2⟩
   ·subst h1;simp only[fop,fE,u1,wP,aJz,IE.mkAdd,rD,if_true,e5e]
   ·subst h1;simp only[fop,fE,u1,wP,aJz,IE.mkSub,rD,if_true,e5e,if_neg (show ¬BinOp.sub=BinOp.add by intro h;cases h)]
  have hs:Goal c K ⟨.ops #[o5] 1::.ord all L::k,S1.put o5.dst (.i .i64 e5e) none,[]⟩:=by
   refine jD ?_;simp only[St.put,St.putO,f5];exact g
  refine .mk0 (show bG c K _ _ from lD (Kn:=[]) (o:=o5) rfl (λX μ a w H=>iM q5 _) (by rw[hc.hnt];exact hd5) (jW hf ⟨?_,trivial⟩ (λ_ _=>trivial)) hs.so);show lo .i64<=e5e.den/\e5e.den<=hi .i64
  rw[he5];simp only[lo,hi];rcases hb with⟨_,h2⟩ | ⟨_,h2⟩<;>omega
 have t6:∀(S1:St) (L:Array Bool),look S1.sl a=some (.o (.map (some r)))->look S1.sl b=some kav->S1.ow=pre++M r es::post->
   (∀v,Goal c K ⟨.ord all L::k,{S1 with sl:=(d6,.t [.q v,.i .i64 (.n st)])::S1.sl,ow:=pre++M r es1::post},[]⟩)->Goal c K ⟨.ops #[o6] 0::.ord all L::k,S1,[]⟩:=by
  intro S1 L u3 u4 u5 g;refine aCs hc o6 rfl (gd _ _ q6) hd6 T pre hM e6 u3 u4 hk hn hes u5 aB5 hst (λv=>?_);refine jD ?_;simp only[St.putO,f6];exact g v
 have t7:∀(S1:St) (L:Array Bool) (v:Value),look S1.sl d6=some (.t [.q v,.i .i64 (.n st)])->Goal c K ⟨.ord all L::k,{S1 with sl:=(d7,.i .i64 (.n st))::S1.sl},[]⟩->Goal c K ⟨.ops #[o7] 0::.ord all L::k,S1,[]⟩:=by
  intro S1 L v u1 g;have hf:fop c.ty S1.hp.length S1 o7.op=some ⟨.i .i64 (.n st),none,[]⟩:=by
   rw[e7];simp only[fop,fE,u1,dS,List.getElem?_cons_succ,List.getElem?_cons_zero]
  have hs:Goal c K ⟨.ops #[o7] 1::.ord all L::k,S1.put o7.dst (.i .i64 (.n st)) none,[]⟩:=by
   refine jD ?_;simp only[St.put,St.putO,f7];exact g
  exact .mk0 (show bG c K _ _ from lD (Kn:=[]) (o:=o7) rfl (λX μ a w H=>iM q7 _) (by rw[hc.hnt];exact hd7) (jW hf trivial (λ_ _=>trivial)) hs.so)
 have t8:∀(S1:St),look S1.sl a=some (.o (.map (some r)))->look S1.sl d7=some (.i .i64 (.n st))->look S1.sl d5=some (.i .i64 e5e)->S1.ow=pre++M r es1::post->S1.hp=S.hp->(∀t av,look S.sl t=some av->look S1.sl t=some av)->
   Goal c K ⟨.ops #[o8] 0::.ord all (Ls true true true true true)::k,S1,[]⟩:=by
  intro S1 u1 u2 u3 u4 u5 u6;refine wZ hc o8 rfl (gd _ _ q8) f8 pre hM e8 u1 u2 u3 hlt u4 iV.symm ?_;refine jD ?_;refine yL r8 hkk ?_;exact aTq (S':={S with ow:=pre++M r (fR ks dl es)::post}) hkk u5.symm rfl u6 h
 have ne:∀{d t:Nat},¬t=d->(d==t)=false:=λh=>by simp;exact λe=>h e.symm
 have keep:∀(l:List (Nat × AV)),(∀x,x∈l->x.1=d4\/x.1=d5\/x.1=d6\/x.1=d7)->∀t av,look S.sl t=some av->look (l++S.sl) t=some av:=by
  intro l;induction l with
  | nil=>intro _ t av h;exact h
  | cons x l ih=>
   intro hl t av ht;have hx:=hl x zA;rw[List.cons_append];obtain⟨j,v⟩:=x;rw[bB]
   ·exact ih (λy hy=>hl y (List.mem_cons_of_mem _ hy)) t av ht
   ·intro e;simp only at e hx;subst e;rcases hx with e | e | e | e<;>subst e
    ·rw[w4]at ht;cases ht
    ·rw[w5]at ht;cases ht
    ·rw[w6]at ht;cases ht
    ·rw[w7]at ht;cases ht
 have L0:firstM all.size 4=Ls false false false false false:=by rw[hsz];rfl
 refine aGq hc hd zW ?_;rw[L0];have A:=n1;have m1:∀{x y:Nat} {av:AV} {l:List (Nat × AV)},¬y=x->look ((x,av)::l) y=look l y:=λh=>bB (λe=>h e.symm) _ _;have m2:∀{x y:Nat} {av:AV} {l:List (Nat × AV)},¬x=y->look ((x,av)::l) y=look l y:=λh=>bB h _ _;have m3:∀{x:Nat} {av:AV} {l:List (Nat × AV)},look ((x,av)::l) x=some av:=bH _ _ _;refine cB [4,6] r0 rfl (λi hi=>?_);simp only[List.mem_cons,List.not_mem_nil,or_false]at hi;rcases hi with rfl | rfl
 ·
  refine⟨o4,g4,q4,t4 S _ es hes hz' sa sb how ?_⟩;refine cB [5,6] r4 rfl (λi hi=>?_);simp only[List.mem_cons,List.not_mem_nil,or_false]at hi;rcases hi with rfl | rfl
  ·refine⟨o5,g5,q5,t5 _ _ m3 ?_⟩;refine cB [6] r45 rfl (λi hi=>?_);simp only[List.mem_cons,List.not_mem_nil,or_false]at hi;subst hi;refine⟨o6,g6,q6,t6 _ _ ((m1 n3).trans ((m1 n2).trans sa)) ((m1 n7).trans ((m1 n6).trans sb)) how (λv=>?_)⟩;refine cB [7] r456 rfl (λi hi=>?_);simp only[List.mem_cons,List.not_mem_nil,or_false]at hi;subst hi;refine⟨o7,g7,q7,t7 _ _ v m3 ?_⟩;refine cB [8] r4567 rfl (λi hi=>?_);simp only[List.mem_cons,List.not_mem_nil,or_false]at hi;subst hi;exact⟨o8,g8,q8,t8 _ ((m1 n5).trans ((m1 n4).trans ((m1 n3).trans ((m1 n2).trans sa)))) m3 ((m1 n14).trans ((m1 n13).trans m3)) rfl rfl (keep [(d7,_),(d6,_),(d5,_),(d4,_)] zA)⟩
  ·refine⟨o6,g6,q6,t6 _ _ ((m1 n2).trans sa) ((m1 n6).trans sb) how (λv=>?_)⟩;refine cB [5,7] r46 rfl (λi hi=>?_);simp only[List.mem_cons,List.not_mem_nil,or_false]at hi;rcases hi with rfl | rfl
   ·refine⟨o5,g5,q5,t5 _ _ ((m1 n11).trans m3) ?_⟩;refine cB [7] r456 rfl (λi hi=>?_);simp only[List.mem_cons,List.not_mem_nil,or_false]at hi;subst hi;refine⟨o7,g7,q7,t7 _ _ v ((m2 n13).trans m3) ?_⟩;refine cB [8] r4567 rfl (λi hi=>?_);simp only[List.mem_cons,List.not_mem_nil,or_false]at hi;subst hi;exact⟨o8,g8,q8,t8 _ ((m1 n5).trans ((m1 n3).trans ((m1 n4).trans ((m1 n2).trans sa)))) m3 ((m1 n14).trans m3) rfl rfl (keep [(d7,_),(d5,_),(d6,_),(d4,_)] zA)⟩
   ·refine⟨o7,g7,q7,t7 _ _ v m3 ?_⟩;refine cB [5] r467 rfl (λi hi=>?_);simp only[List.mem_cons,List.not_mem_nil,or_false]at hi;subst hi;refine⟨o5,g5,q5,t5 _ _ ((m1 n12).trans ((m1 n11).trans m3)) ?_⟩;refine cB [8] r4567 rfl (λi hi=>?_);simp only[List.mem_cons,List.not_mem_nil,or_false]at hi;subst hi;exact⟨o8,g8,q8,t8 _ ((m1 n3).trans ((m1 n5).trans ((m1 n4).trans ((m1 n2).trans sa)))) ((m2 n14).trans m3) m3 rfl rfl (keep [(d5,_),(d7,_),(d6,_),(d4,_)] zA)⟩
 ·
  refine⟨o6,g6,q6,t6 S _ sa sb how (λv=>?_)⟩;refine cB [4,7] r6 rfl (λi hi=>?_);simp only[List.mem_cons,List.not_mem_nil,or_false]at hi;rcases hi with rfl | rfl
  ·refine⟨o4,g4,q4,t4 _ _ es1 aKs hz1 ((m1 n4).trans sa) ((m1 n8).trans sb) rfl ?_⟩;refine cB [5,7] r46 rfl (λi hi=>?_);simp only[List.mem_cons,List.not_mem_nil,or_false]at hi;rcases hi with rfl | rfl
   ·refine⟨o5,g5,q5,t5 _ _ m3 ?_⟩;refine cB [7] r456 rfl (λi hi=>?_);simp only[List.mem_cons,List.not_mem_nil,or_false]at hi;subst hi;refine⟨o7,g7,q7,t7 _ _ v ((m2 n13).trans ((m2 n11).trans m3)) ?_⟩;refine cB [8] r4567 rfl (λi hi=>?_);simp only[List.mem_cons,List.not_mem_nil,or_false]at hi;subst hi;exact⟨o8,g8,q8,t8 _ ((m1 n5).trans ((m1 n3).trans ((m1 n2).trans ((m1 n4).trans sa)))) m3 ((m1 n14).trans m3) rfl rfl (keep [(d7,_),(d5,_),(d4,_),(d6,_)] zA)⟩
   ·refine⟨o7,g7,q7,t7 _ _ v ((m2 n11).trans m3) ?_⟩;refine cB [5] r467 rfl (λi hi=>?_);simp only[List.mem_cons,List.not_mem_nil,or_false]at hi;subst hi;refine⟨o5,g5,q5,t5 _ _ ((m1 n12).trans m3) ?_⟩;refine cB [8] r4567 rfl (λi hi=>?_);simp only[List.mem_cons,List.not_mem_nil,or_false]at hi;subst hi;exact⟨o8,g8,q8,t8 _ ((m1 n3).trans ((m1 n5).trans ((m1 n2).trans ((m1 n4).trans sa)))) ((m2 n14).trans m3) m3 rfl rfl (keep [(d5,_),(d7,_),(d4,_),(d6,_)] zA)⟩
  ·refine⟨o7,g7,q7,t7 _ _ v m3 ?_⟩;refine cB [4] r67 rfl (λi hi=>?_);simp only[List.mem_cons,List.not_mem_nil,or_false]at hi;subst hi;refine⟨o4,g4,q4,t4 _ _ es1 aKs hz1 ((m1 n5).trans ((m1 n4).trans sa)) ((m1 n9).trans ((m1 n8).trans sb)) rfl ?_⟩;refine cB [5] r467 rfl (λi hi=>?_);simp only[List.mem_cons,List.not_mem_nil,or_false]at hi;subst hi;refine⟨o5,g5,q5,t5 _ _ m3 ?_⟩;refine cB [8] r4567 rfl (λi hi=>?_);simp only[List.mem_cons,List.not_mem_nil,or_false]at hi;subst hi;exact⟨o8,g8,q8,t8 _ ((m1 n3).trans ((m1 n2).trans ((m1 n5).trans ((m1 n4).trans sa)))) ((m2 n14).trans ((m2 n12).trans m3)) m3 rfl rfl (keep [(d5,_),(d4,_),(d7,_),(d6,_)] zA)⟩
end
end Go.Ai
namespace Go.Ai
open Go Go.RowKit
def iZ (l:Nat):Value:=.func (.yield l) #[] #[]
def yF (D:Nat):Deferred:={target:=.collected D,args:=#[]}
def OF.lp (l:Nat)(tm:Array Value)(ps:Array Tmp)(zas bd:Code)(D:Nat)(st:LoopState):OF where
 F _ b:=b=l
 p _ w:=∃fn,w.heap[l]?=some (.loop {state:=st,pending:=none,fn,tmps:=tm,params:=ps,assign:=zas,body:=bd,defers:=D})
 st _ _ w w' _ hk h:=⟨by obtain⟨fn,h⟩:=h;exact⟨fn,by rw[hk l rfl];exact h⟩,λ_=>Iff.rfl⟩
def OF.dd (D:Nat):OF where
 F _ b:=b=D
 p _ w:=w.heap[D]?=some (.deferred (some []))
 st _ _ w w' _ hk h:=⟨by rw[hk D rfl];exact h,λ_=>Iff.rfl⟩
def OF.any (D:Nat):OF where
 F _ b:=b=D
 p _ _:=True
 st _ _ _ _ _ _ h:=⟨h,λ_=>Iff.rfl⟩
theorem OFr.lp (n l:Nat)(tm:Array Value)(ps:Array Tmp)(zas bd:Code)(D:Nat)(st:LoopState):OFr n (OF.lp l tm ps zas bd D st):=⟨λ_ _ h=>⟨h,λ_ h=>h⟩⟩
theorem OFr.dd (n D:Nat):OFr n (OF.dd D):=⟨λ_ _ h=>⟨h,λ_ h=>h⟩⟩
section
variable {c:Cx}{P:Program}{ty:Nat->Option TyI}{nt:Nat}{K:List KF}{S:St}{X:Nat->Prop}{μ:Mu}{a:Act}{w:World}
def bB1 (c:Cx)(fn:Func)(R:Value->World->Prop):Prop:=
 c.R=λa w=>LeavesInM Fence.wide 0 c.P fn a.tmps (λe w'=>∃v,e=.returned v/\R v w') a.defers .returning w
structure RetM (c:Cx)(fn:Func)(R:VF):Prop where
 rd:c.rd=none
 df:c.df=[]
 out:bB1 c fn λv w'=>∃X',Below c.B.heap.size c.B w'/\(∀b,c.X0 b->X' b)/\(∀b,X' b->c.X0 b\/(c.B.heap.size<=b/\b<w'.heap.size))/\R.p v X' w'
theorem aZk {g:Nat}{fn:Func}{code:Code}{args:List Value}{avs:List AV}{B:World}{X0:Nat->Prop}{R:Value->World->Prop}
  (tok:∀t i,ty t=some i->TyOk P t i) (hf:P.funcs[g]?=some fn) (hb:fn.body=some code) (hn:args.length<=fn.ntmps) (ha:aF iN avs=some args) (hgl:Glob P B) (hx:∀b,X0 b->b<B.heap.size) (hk:∀f,f∈K->f.p X0 iN B)
  (h:∀c:Cx,c.P=P->c.ty=ty->c.nt=fn.ntmps->c.B=B->c.X0=X0->c.rd=none->c.df=[]->bB1 c fn R->bG c K [.code code] ⟨pS 0 avs,[],[]⟩):
  Calls P g args.toArray B λe w'=>∃v,e=.returned v/\R v w':=by
 refine(callsIn_wide (n:=0)).1 (callsIn_of_wp_marks hf hb trivial ?_ rfl);have:=h ⟨P,ty,tok,fn.ntmps,B,X0,hgl,λa w=>LeavesInM Fence.wide 0 P fn a.tmps (λe w'=>∃v,e=.returned v/\R v w') a.defers .returning w,none,[]⟩ rfl rfl rfl rfl rfl rfl rfl rfl X0 iN {tmps:=args.toArray++Array.replicate (fn.ntmps - args.length) undef,defers:=[]} B
  ⟨⟨rfl,by simp;omega,?_,?_,?_,?_,?_,hx,λb h=>.inl h,λb h=>h,Below.refl _ _,hk,OwnOk.nil _ _ _ _⟩,λ_ _=>rfl⟩
 ·simp only[aQ]at this;change Code.wpIn Fence.wide 0 P code _ _ B at this;refine wpIn_mono (by simpa using this) λe a w hq=>?_;cases e<;>simp only[aQ]at hq
  ·exact hq
  ·exact hq
 ·intro t av _ hl;obtain⟨_,h1⟩:=mY _ _ _ _ hl;obtain⟨v,h2,h3⟩:=gS ha t av (by simpa using h1);refine⟨v,h3,?_⟩;have hlt:=(List.getElem?_eq_some_iff.1 h2).1;simp only[List.append_toArray,Array.getElem?_append,List.size_toArray];rw[if_pos hlt];simpa using h2
 ·intro k blk b hk;simp at hk
 ·intro k hk;simp at hk
 ·intro k k' b h1;cases h1
 ·intro k b h1;cases h1
theorem aVt (hm:P.follows .mixedOrders=true)(tok:∀t i,ty t=some i->TyOk P t i){g:Nat}{fn:Func}{code:Code}{args:List Value}(avs:List AV){X:Nat->Prop}{w:World}{R:VF}
  (hf:P.funcs[g]?=some fn) (hb:fn.body=some code) (ha:aF iN avs=some args) (hn:args.length<=fn.ntmps) (hnt:fn.ntmps=nt) (hx:∀b,X b->b<w.heap.size) (hk:∀f,f∈K->f.p X iN w)
  (h:∀(c:Cx),Ctx c P ty nt->RetM c fn R->Goal c K ⟨[.code code],⟨pS 0 avs,[],[]⟩,[]⟩):Fn P g args X w R:=by
 intro hgl;refine Calls.mono (aZk tok hf hb hn ha hgl (K:=K) (X0:=X) (R:=λv w'=>∃X',Below w.heap.size w w'/\(∀b,X b->X' b)/\(∀b,X' b->X b\/(w.heap.size<=b/\b<w'.heap.size))/\R.p v X' w') hx hk λc h1 h2 h3 h4 h5 h6 h7 h8=>?_) ?_
 ·subst h4;subst h5;exact(h c ⟨h1,h2,h3.trans hnt,hm⟩ ⟨h6,h7,h8⟩).so
 ·rintro e w' ⟨v,rfl,X',h1,h2,h3,h4⟩;exact⟨v,X',rfl,h1,h2,h3,h4⟩
def Cx.mark (c:Cx)(D:Nat):Cx:={c with df:=[yF D]}
theorem Ctx.mark (hc:Ctx c P ty nt)(D:Nat):Ctx (c.mark D) P ty nt:=⟨hc.hP,hc.hty,hc.hnt,hc.hm⟩
theorem aI7 (S:St)(ow:List OF):∀l,aGo ty {S with ow:=ow} l=aGo ty S l
 | []=>rfl
 | r::l=>by
  unfold aGo;rw[aI7 S ow l];have:aWt ty {S with ow:=ow} r=aWt ty S r:=by cases r<;>rfl
  rw[this]
theorem bBg (hc:Ctx c P ty nt){D:Nat}{fn:Func}{R:VF}(hR:RetM c fn R){av:AV}(pre:List OF){post:List OF}{DD:Nat->OF}(hDD:∀d,DD d=OF.dd d)(how:S.ow=pre++DD D::post)(h:oM ty S fn.results.toList=some av)
  (hr:∀X μ a w v,Sim (c.mark D) K {S with ow:=pre++OF.any D::post} X μ a w->aD μ av=some v->R.p v X w):Goal (c.mark D) K ⟨[],S,[]⟩:=by
 refine .mk0 (λX μ a w H=>?_);rw[hDD]at how;simp only[aQ];rw[show(c.mark D).R=c.R from rfl,hR.out];have hdf:a.defers=[yF D]:=H.toP.dfr;show LeavesInM Fence.wide 0 c.P fn a.tmps _ a.defers .returning w
 rw[hdf];have hD:w.heap[D]?=some (.deferred (some [])):=(H.toP.own.at_ (OF.dd D) (by rw[how];simp)).1;have H1:Sim (c.mark D) K {S with ow:=pre++OF.any D::post} X μ a (w.putObj D (.deferred none)):=
  vH (f:=OF.dd D) (f':=OF.any D) (r:=D) H how (λj=>Iff.rfl) (λj=>Iff.rfl) trivial rfl rfl rfl zA (λj hj=>World.putObj_heap_other hj)
 have hty:(c.mark D).ty=ty:=hc.hty
 obtain⟨v,h1,h2⟩:=aA3 H1 (fn:=fn) (av:=av) (by rw[hty];unfold oM at h |-;rw[aI7];exact h);refine⟨λe=>(by cases e),.inl ⟨D,w.putObj D (.deferred none),rfl,run_takeDeferred hD,?_⟩⟩;refine⟨v,h2,v,rfl,X,H1.toP.bel,H1.toP.xold,λb hb=>(H1.toP.xnew b hb).imp id (λh=>⟨h,H1.toP.xlt b hb⟩),hr X μ a _ v H1 h1⟩
structure LinkY (c c1:Cx)(fn1:Func)(l D:Nat)(ps:Array Tmp)(zas bd:Code)(k:List KI)(tm:Array Value):Prop where
 out:∃(a:Act),a.tmps=tm/\a.defers=[]/\tm.size=c.nt/\c1.df=[]/\c1.R=aEe c.P fn1 (λv w'=>∃jump w4,(Instr.endLoop l).run c.P w'=.ok jump w4/\jump=none/\aQ c.F c.P c.R k .normal {a with defers:=[yF D]} w4)
 B:c1.B=c.B
 X0:c1.X0=c.X0
 P:c1.P=c.P
 ty:c1.ty=c.ty
 ne:l≠D
theorem aTu (hc:Ctx c P ty nt)(hrd:c.rd=none)(hdf:c.df=[]){g:Operand}{ps:Array Tmp}{zas bd:Code}{k:List KI}{gf:Nat}{cap:List AV}(hg:fE S.sl g=some (.f (.func gf) [] cap)){fn1:Func}{code:Code}{nt1:Nat}
  (hf:P.funcs[gf]?=some fn1) (hb:fn1.body=some code) (hn:Nat.ble (cap.length+1) fn1.ntmps=true) (aR6:aB P gf) (hnt:fn1.ntmps=nt1)
  (h:∀c1 tm FR l D,∀LP:Nat->Array Value->Nat->LoopState->OF,∀DD:Nat->OF,(∀l tm D st,LP l tm D st=OF.lp l tm ps zas bd D st)->(∀d,DD d=OF.dd d)->FR=KF.fr S.sl tm->c1.rd=none->Ctx c1 P ty nt1->LinkY c c1 fn1 l D ps zas bd k tm->
   Goal c1 (FR::K) ⟨[.code code],⟨pS 0 (.o (iZ l)::cap),S.hp,LP l tm D .ready::DD D::S.ow⟩,[]⟩):Goal c K ⟨.code (.rangeFunc g ps zas bd)::k,S,[]⟩:=by
 subst hnt;refine .mk0 (λX μ a w H=>?_);have P':=H.toP;have ev:=aG P' hg (λ_ _=>trivial);obtain⟨us,vs,e0,e1,e2⟩:=aFz ev;simp only[aF]at e0;injection e0 with e0;subst e0
 simp only[aQ];have hF:c.F=Fence.wide:=by unfold Cx.F;rw[hrd];rfl
 rw[hF];refine wpIn_rangeFunc (λfn _=>?_);let W1:World:=(w.alloc (.deferred (some []))).alloc (.loop {state:=.ready,pending:=none,fn,tmps:=a.tmps,params:=ps,assign:=zas,body:=bd,defers:=w.heap.size});let l:=w.heap.size+1;let D:=w.heap.size;obtain⟨fnr,q1,q2,q3⟩:=aR6.out;have q2':¬fnr.name= "runtime.NumGoroutine":=by simpa using q2
 have q3':¬fnr.body=none:=by intro e;rw[e]at q3;cases q3
 have eg:∀args w,(callFunc gf args).run c.P w=.ok (.enter gf args) w:=λargs w=>by
  rw[hc.hP];simp[callFunc,q1,q2',q3']
 have bCr:a.defers=[]:=P'.dfr.trans hdf
 refine⟨l,[yF D],W1,{target:=.fn (.func gf) vs.toArray,args:=#[iZ l]},W1,gf,#[iZ l]++vs.toArray,W1,run_enterLoop_outer _ _ _ _ _,?_,λ_ _=>trivial,?_,λe=>(by cases e),(callsIn_wide (n:=0)).2 ?_⟩
 ·simp[resolve,rangeCall,e2,Deferred.ofValue,iZ];rfl
 ·simp[invoke,eg]
 let RR:Value->World->Prop:=λv w'=>∃jump w4,(Instr.endLoop l).run c.P w'=.ok jump w4/\jump=none/\aQ c.F c.P c.R k .normal {a with defers:=[yF D]} w4
 let c1:Cx:=⟨c.P,c.ty,c.tok,fn1.ntmps,c.B,c.X0,c.gB,aEe c.P fn1 RR,none,[]⟩
 have hL:LinkY c c1 fn1 l D ps zas bd k a.tmps:=⟨⟨a,rfl,bCr,P'.size,rfl,rfl⟩,rfl,rfl,rfl,rfl,by show w.heap.size+1≠w.heap.size;omega⟩
 have G:=(h c1 a.tmps _ l D (λl tm D st=>OF.lp l tm ps zas bd D st) OF.dd (λ_ _ _ _=>rfl) (λ_=>rfl) rfl rfl ⟨hc.hP,hc.hty,rfl,hc.hm⟩ hL).so
 have H0:=tT (f':=OF.dd D) (o:=.deferred (some [])) H (λj=>Iff.rfl) (by show(w.alloc _).heap[w.heap.size]?=_;exact heap_alloc_new w _)
 have hs1:(w.alloc (.deferred (some []))).heap.size=l:=by show(w.heap.push _).size=_;simp;rfl
 have H1:=tT (f':=OF.lp l a.tmps ps zas bd D .ready) (o:=.loop {state:=.ready,pending:=none,fn,tmps:=a.tmps,params:=ps,assign:=zas,body:=bd,defers:=w.heap.size}) H0 (λj=>by rw[hs1];exact Iff.rfl) (by
  refine⟨fn,?_⟩;rw[<-hs1];exact heap_alloc_new _ _)
 have P1:=H1.toP
 have aXp:aF μ (.o (iZ l)::cap)=some (iZ l::vs):=by
  simp only[aF,aD,e1];rfl
 have hlen:=aW aXp
 have bAe:=lbl hn
 have GG:=G X μ {tmps:=(iZ l::vs).toArray++Array.replicate (fn1.ntmps - (iZ l::vs).length) undef,defers:=[]} W1
  ⟨⟨rfl,by show((iZ l::vs).toArray++Array.replicate (fn1.ntmps - (iZ l::vs).length) undef).size=fn1.ntmps;simp at hlen |-;omega,?_,P1.heap,P1.all,P1.inj,P1.loc,P1.xlt,P1.xnew,P1.xold,P1.bel,λf hf=>?_,P1.own⟩,H1.dom⟩
 ·have bCy:fn1.body=some code:=hb
  refine Calls.mono (calls_of_wp (hc.hP▸hf) bCy (args:=#[iZ l]++vs.toArray) (R:=λe w''=>∃v,e=.returned v/\RR v w'') ((wpIn_wide (n:=0)).1 ?_)) (λe w'' he=>?_)
  ·have e3:(#[iZ l]++vs.toArray)=(iZ l::vs).toArray:=by apply Array.ext';simp
   rw[e3,show(iZ l::vs).toArray.size=(iZ l::vs).length by simp];refine wpIn_mono GG λe a' w' hq=>?_;cases e<;>simp only[aQ]at hq
   ·obtain⟨q1,v,q2,q3⟩:=hq;exact⟨q1,v,q2,v,rfl,q3⟩
   ·obtain⟨q1,v,q2,q3⟩:=hq;exact⟨q1,v,q2,v,rfl,q3⟩
  ·obtain⟨v,rfl,jump,w4,r1,r2,r3⟩:=he;subst r2;refine⟨none,w4,r1,?_⟩;rw[hF]at r3;rw[bCr];exact r3
 ·intro t av _ hl;obtain⟨_,e1'⟩:=mY _ _ _ _ hl;obtain⟨v,e2',e3⟩:=gS aXp t av (by simpa using e1');refine⟨v,e3,?_⟩;have hlt:=(List.getElem?_eq_some_iff.1 e2').1;simp only[Array.getElem?_append,List.size_toArray];rw[if_pos hlt];simpa using e2'
 ·rcases List.mem_cons.1 hf with e | e
  ·subst e;exact λt av hl=>P1.slots t av trivial hl
  ·exact P1.kf f e
theorem bBi {c1:Cx}{K':List KF}{nt1:Nat}(hc1:Ctx c1 P ty nt1){fn1:Func}{l D:Nat}{ps:Array Tmp}{zas bd:Code}{k:List KI}{tm:Array Value}(L:LinkY c c1 fn1 l D ps zas bd k tm){sl:List (Nat × AV)}{FR:KF}(hFR:FR=KF.fr sl tm)(hm:FR∈K')
  {LP:Nat->Array Value->Nat->LoopState->OF} (hLP:∀l tm D st,LP l tm D st=OF.lp l tm ps zas bd D st) {S1:St} (pre:List OF) {post:List OF} (how:S1.ow=pre++LP l tm D .ready::post) {av:AV}
  (h:oM ty S1 fn1.results.toList=some av) (aM6:Goal (c.mark D) K' ⟨k,⟨sl,S1.hp,pre++OF.any l::post⟩,[]⟩) (hk:iJ k=true):Goal c1 K' ⟨[],S1,[]⟩:=by
 obtain⟨a,ha,hdf,hsz,bFm,hR⟩:=L.out;refine .mk0 (λX μ a' w H=>?_);have P':=H.toP;simp only[aQ];rw[hR];obtain⟨v,e1,e2⟩:=aA3 H (av:=av) (by rw[hc1.hty];exact h);rw[L.P]at e2;rw[hLP]at how;obtain⟨fn,hlp⟩:∃fn,w.heap[l]?=some (.loop {state:=.ready,pending:=none,fn,tmps:=tm,params:=ps,assign:=zas,body:=bd,defers:=D}):=(P'.own.at_ (OF.lp l tm ps zas bd D .ready) (by rw[how];simp)).1;refine⟨P'.dfr.trans bFm,v,e2,none,_,run_endLoop hlp zA,rfl,?_⟩;have H1:=vH (f:=OF.lp l tm ps zas bd D .ready) (f':=OF.any l) (r:=l) H how (λj=>Iff.rfl) (λj=>Iff.rfl) trivial rfl rfl rfl zA (λj hj=>World.putObj_heap_other hj) (w':=w.putObj l (.loop {state:=.exhausted,pending:=none,fn,tmps:=tm,params:=ps,assign:=zas,body:=bd,defers:=D}));have P1:=H1.toP;have hfr:∀t av,look sl t=some av->∃v,aD μ av=some v/\tm[t]?=some v:=by have:=P'.kf FR hm;rw[hFR]at this;exact this
 refine nP hk aM6 X μ {a with defers:=[yF D]} _ ⟨⟨rfl,by show a.tmps.size=c.nt;rw[ha];exact hsz,?_,P1.heap,P1.all,P1.inj,?_,P1.xlt,?_,?_,?_,P1.kf,?_⟩,H1.dom⟩
 ·intro t b _ hl;obtain⟨u,h1,h2⟩:=hfr t b hl;exact⟨u,h1,by show a.tmps[t]?=some u;rw[ha];exact h2⟩
 ·intro k' b hk';have:=P1.loc k' b hk';rw[L.B]at this;exact this
 ·intro b hb;have:=P1.xnew b hb;rw[L.X0,L.B]at this;exact this
 ·intro b hb;exact P1.xold b (by rw[L.X0];exact hb)
 ·have:=P1.bel;rw[L.B]at this;exact this
 ·have:=P1.own;rw[L.B]at this;exact this
def aE6:List (Nat × AV)->List Nat->List AV->List (Nat × AV)
 | sl,p::ps,x::xs=>aE6 ((p,x)::sl) ps xs
 | sl,_,_=>sl
def kN:Array Value->List Nat->List Value->Array Value
 | tm,p::ps,x::xs=>kN (tm.setIfInBounds p x) ps xs
 | tm,_,_=>tm
theorem aJe:∀(ps:List Nat) (xs:List Value) (tm:Array Value),kN tm ps xs=(ps.zip xs).foldl (λtmps (t,a)=>tmps.setIfInBounds t a) tm
 | [],_,tm=>by simp[kN]
 | _::_,[],tm=>by simp[kN]
 | p::ps,x::xs,tm=>by simp only[kN,List.zip_cons_cons,List.foldl_cons];exact aJe ps xs _
theorem aCv:∀(ps:List Nat) (xs:List Value) (tm:Array Value),(kN tm ps xs).size=tm.size
 | [],_,tm=>by simp[kN]
 | _::_,[],tm=>by simp[kN]
 | p::ps,x::xs,tm=>by simp only[kN];rw[aCv];simp
theorem aT1 {μ:Mu}:∀(ps:List Nat) (avs:List AV) (aK:List Value) (sl:List (Nat × AV)) (tm:Array Value),aF μ avs=some aK->(∀p,p∈ps->p<tm.size)->(∀t av,look sl t=some av->∃v,aD μ av=some v/\tm[t]?=some v)->
  ∀t av,look (aE6 sl ps avs) t=some av->∃v,aD μ av=some v/\(kN tm ps aK)[t]?=some v
 | [],avs,aK,sl,tm,_,_,h=>by simpa[aE6,kN]using h
 | p::ps,[],aK,sl,tm,hv,_,h=>by simp[aF]at hv;subst hv;simpa[aE6,kN]using h
 | p::ps,x::avs,aK,sl,tm,hv,hp,h=>by
  simp only[aF]at hv;split at hv
  ·rename_i v us h1 h2;injection hv with hv;subst hv
   simp only[aE6,kN];refine aT1 ps avs us _ _ h2 (λq hq=>by simpa using hp q (List.mem_cons_of_mem _ hq)) (λt av hl=>?_);by_cases e:p=t
   ·subst e;rw[bH]at hl;injection hl with hl;subst hl
    exact⟨v,h1,by simp[hp p zA]⟩
   ·rw[bB e]at hl;obtain⟨u,q1,q2⟩:=h t av hl;exact⟨u,q1,by rw[Array.getElem?_setIfInBounds_ne e];exact q2⟩
  ·cases hv
def yieldOf (sl:List (Nat × AV)):Op->Option (Nat × List AV)
 | .call {callee:=.value f,args,..}=>match fE sl f,aIx sl args.toList with
  | some (.o (.func (.yield l) ⟨[]⟩ ⟨[]⟩)),some zas=>some (l,zas)
  | _,_=>none
 | _=>none
theorem iB {c1:Cx}{nt1:Nat}(hc1:Ctx c1 P ty nt1)(hrd:c1.rd=none){all:Array Oper}{i:Nat}{k:List KI}(o:Oper){l D nt0:Nat}{avs:List AV}
  {ps:Array Tmp} {zas bd:Code} {tm:Array Value} {sl0:List (Nat × AV)} {FR:KF} (hFR:FR=KF.fr sl0 tm) (hm:FR∈K) {LP:Nat->Array Value->Nat->LoopState->OF} (hLP:∀l tm D st,LP l tm D st=OF.lp l tm ps zas bd D st) (pre:List OF) {post:List OF} 
    (hsz:tm.size=nt0)
  (h:∀(c3:Cx) (tm1:Array Value) (FR1:KF) (p1 p2:Act->World->Prop),FR1=KF.fr S.sl tm1->Ctx c3 P ty nt0->c3.B=c1.B->
   (∀K' S' pre' post',S'.ow=pre'++LP l tm D .ready::post'->Goal c3 K' ⟨[.code bd,.hole p2],{S' with ow:=pre'++LP l tm D .busy::post'},[]⟩->Goal c3 K' ⟨[.hole p1],S',[]⟩)->
   (∀K' S' pre' post',FR1∈K'->S'.ow=pre'++LP l tm D .busy::post'->Goal c1 K' ⟨.ops all (i+1)::k,⟨match o.dst with | some d=>(d,.b (.l true))::S.sl | none=>S.sl,S'.hp,pre'++LP l tm D .ready::post'⟩,[]⟩->Goal c3 K' ⟨[.hole p2],S',[]⟩)->
   Goal c3 (FR1::K) ⟨[.code zas,.hole p1],⟨aE6 sl0 ps.toList avs,S.hp,S.ow⟩,[]⟩)(ho:all[i]?=some o:=by exact rfl)(hg:guardOf all S.sl o=some true:=by exact rfl)(hd:cA nt1 o.dst=true:=by exact rfl)(hy:yieldOf S.sl o.op=some (l,avs):=by exact rfl)(how:S.ow=pre++LP l tm D .ready::post:=by exact rfl)(hps:ps.size=avs.length:=by exact rfl)(hlt:ps.toList.all (λp=>decide (p<nt0))=true:=by exact rfl):Goal c1 K ⟨.ops all i::k,S,[]⟩:=by
 refine .mk0 (λX μ a w H=>?_);have P':=H.toP;have bF4:i<all.size:=(Array.getElem?_eq_some_iff.1 ho).1;simp only[aQ];rw[gH bF4];simp only[wpOpsIn,ho];rw[if_pos (cE P' hg (λ_ _=>trivial))];rw[hLP]at how;obtain⟨fn,hlp⟩:∃fn,w.heap[l]?=some (.loop {state:=.ready,pending:=none,fn,tmps:=tm,params:=ps,assign:=zas,body:=bd,defers:=D}):=(P'.own.at_ (OF.lp l tm ps zas bd D .ready) (by rw[how];simp)).1;obtain⟨aK,aI,aKu⟩:∃aK,aF μ avs=some aK/\(execOp a.eval o).run c1.P w=.ok (.round l fn (kN tm ps.toList aK) zas bd) w:=by
  unfold yieldOf at hy;split at hy
  ·rename_i f args tys hx;split at hy
   ·rename_i l' as' hf' has;injection hy with hy
    injection hy with e1 e2
    subst e1;subst e2;have h1:=qB (aG P' hf' (λ_ _=>trivial));have h2:=nQ P' has (λ_ _=>trivial);refine⟨_,h2,?_⟩;have hl2:=aW h2;have hy2:=run_yield (P:=c1.P) (args:=args.map a.eval) hlp (by simp at hl2 |-;omega);have e3:(ps.zip (args.map a.eval)).foldl (λtmps (t,a)=>tmps.setIfInBounds t a) tm=kN tm ps.toList (args.toList.map a.eval):=by
     rw[aJe,<-Array.foldl_toList];simp
    simp only[e3]at hy2;simp[execOp,hx,resolve,h1,Deferred.ofValue,invoke,hy2]
   ·cases hy
  ·cases hy
 refine⟨λ_ _=>trivial,?_⟩;rw[tR _ aKu (λd e=>by cases e),Oper.uponIn_round];refine⟨λe=>(by cases e),?_⟩;let c3:Cx:=⟨c1.P,c1.ty,c1.tok,nt0,c1.B,c1.X0,c1.gB,λ_ _=>False,some l,[]⟩;have hF:c3.F=c1.F.inRound l:=rfl;obtain⟨Rr,hRr⟩:∃Rr:Ending->World->Prop,Rr=λe w''=>match e with
   | .returned v=>wpOpsIn c1.F 0 c1.P all (aQ c1.F c1.P c1.R k) (List.range' (i+1) (all.size - (i+1))) (a.put o.dst v) w''
   | .panicked chain=>aQ c1.F c1.P c1.R k (.panic chain) a w''
   | .outgrown=>LetsOut (aQ c1.F c1.P c1.R k):=⟨_,rfl⟩
 let p2:Act->World->Prop:=λa3 w3=>∃v w',(Instr.endRound l none).run c1.P w3=.ok v w'/\Rr (.returned v) w'
 let p1:Act->World->Prop:=λa1 w1=>∃w2,(Instr.beginRound l).run c1.P w1=.ok () w2/\bd.wpIn c3.F 0 c1.P (roundPost c1.P l Rr) a1 w2
 have aZx:∀K' S' pre' post',S'.ow=pre'++LP l tm D .ready::post'->Goal c3 K' ⟨[.code bd,.hole p2],{S' with ow:=pre'++LP l tm D .busy::post'},[]⟩->Goal c3 K' ⟨[.hole p1],S',[]⟩:=by
  intro K' S' pre' post' aDh g;refine .mk0 (λX μ a3 w3 H3=>?_);simp only[aQ];rw[hLP]at aDh;obtain⟨fn',aSl⟩:∃fn,w3.heap[l]?=some (.loop {state:=.ready,pending:=none,fn,tmps:=tm,params:=ps,assign:=zas,body:=bd,defers:=D}):=(H3.toP.own.at_ (OF.lp l tm ps zas bd D .ready) (by rw[aDh];simp)).1;refine⟨_,run_beginRound aSl rfl,?_⟩;have H4:=vH (f:=OF.lp l tm ps zas bd D .ready) (f':=OF.lp l tm ps zas bd D .busy) (r:=l) H3 aDh (λj=>Iff.rfl) (λj=>Iff.rfl) ⟨fn',World.putObj_heap_same (Array.getElem?_eq_some_iff.1 aSl).1⟩ rfl rfl rfl zA (λj hj=>World.putObj_heap_other hj) (w':=w3.putObj l (.loop {state:=.busy,pending:=none,fn:=fn',tmps:=tm,params:=ps,assign:=zas,body:=bd,defers:=D}));have:=g.so X μ a3 _ (by rw[hLP];exact H4);simp only[aQ]at this;refine wpIn_mono this λe a4 w4 hq=>?_;cases e<;>simp only[aQ]at hq
  ·exact hq
  ·exact hq.elim
 have iV:∀K' S' pre' post',KF.fr S.sl a.tmps∈K'->S'.ow=pre'++LP l tm D .busy::post'->Goal c1 K' ⟨.ops all (i+1)::k,⟨match o.dst with | some d=>(d,.b (.l true))::S.sl | none=>S.sl,S'.hp,pre'++LP l tm D .ready::post'⟩,[]⟩->Goal c3 K' ⟨[.hole p2],S',[]⟩:=by
  intro K' S' pre' post' hm' aDh g;refine .mk0 (λX μ a3 w3 H3=>?_);simp only[aQ];rw[hLP]at aDh;obtain⟨fn',aSl⟩:∃fn,w3.heap[l]?=some (.loop {state:=.busy,pending:=none,fn,tmps:=tm,params:=ps,assign:=zas,body:=bd,defers:=D}):=(H3.toP.own.at_ (OF.lp l tm ps zas bd D .busy) (by rw[aDh];simp)).1;refine⟨_,_,run_endRound none aSl,?_⟩;have H4:=vH (f:=OF.lp l tm ps zas bd D .busy) (f':=OF.lp l tm ps zas bd D .ready) (r:=l) H3 aDh (λj=>Iff.rfl) (λj=>Iff.rfl) ⟨fn',World.putObj_heap_same (Array.getElem?_eq_some_iff.1 aSl).1⟩ rfl rfl rfl zA (λj hj=>World.putObj_heap_other hj) (w':=w3.putObj l (.loop {state:=.ready,pending:=none,fn:=fn',tmps:=tm,params:=ps,assign:=zas,body:=bd,defers:=D}));have P4:=H4.toP;rw[hRr];have hfr:∀t av,look S.sl t=some av->∃v,aD μ av=some v/\a.tmps[t]?=some v:=P4.kf _ hm';have hs:=g.so X μ (a.put o.dst (.bool true)) (w3.putObj l (.loop {state:=.ready,pending:=none,fn:=fn',tmps:=tm,params:=ps,assign:=zas,body:=bd,defers:=D})) ⟨⟨by rw[put_defers];exact P'.dfr,by rw[wS];exact P'.size,?_,P4.heap,P4.all,P4.inj,P4.loc,P4.xlt,P4.xnew,P4.xold,P4.bel,P4.kf,by rw[hLP];exact P4.own⟩,H4.dom⟩
  ·simpa[aQ]using hs
  ·intro t b _ hl;cases hdd:o.dst with
   | none=>
    rw[hdd]at hl;obtain⟨u,h1,h2⟩:=hfr t b hl;exact⟨u,h1,h2⟩
   | some d=>
    rw[hdd]at hl hd;simp only at hl;have hdn:d<a.tmps.size:=by simp only[cA,decide_eq_true_eq]at hd;rw[P'.size,hc1.hnt];exact hd
    by_cases ht:d=t
    ·subst ht;rw[bH]at hl;injection hl with hl;subst hl
     exact⟨.bool true,rfl,mK hdn⟩
    ·rw[bB ht]at hl;obtain⟨u,h1,h2⟩:=hfr t b hl;exact⟨u,h1,by rw[nR (by simpa using ht)];exact h2⟩
 have G:=(h c3 a.tmps _ p1 p2 rfl ⟨hc1.hP,hc1.hty,rfl,hc1.hm⟩ rfl aZx iV).so X μ {tmps:=kN tm ps.toList aK,defers:=[]} w
  ⟨⟨rfl,by show(kN tm ps.toList aK).size=nt0;rw[aCv];exact hsz,?_,P'.heap,P'.all,P'.inj,P'.loc,P'.xlt,P'.xnew,P'.xold,P'.bel,λf hf=>?_,P'.own⟩,H.dom⟩
 ·have R0:RoundIn c1.F 0 c1.P l fn (kN tm ps.toList aK) zas bd w Rr:=by
   refine roundIn_of_wpIn trivial ?_;simp only[aQ]at G;rw[hF]at G;refine wpIn_mono G λe a4 w4 hq=>?_;cases e<;>simp only[aQ]at hq
   ·exact hq
   ·exact hq.elim
  refine RoundIn.mono R0 (λe w'' he=>?_);rw[hRr]at he;cases e with
  | returned v=>exact he
  | panicked ch=>exact he
  | outgrown=>exact he
 ·intro t av _ hl;refine aT1 ps.toList avs aK sl0 tm aI (λp hp=>?_) (λt av hl=>?_) t av hl
  ·have:=List.all_eq_true.1 hlt p hp
   rw[hsz];simpa using this
  ·have:=P'.kf FR hm
   rw[hFR]at this;exact this t av hl
 ·rcases List.mem_cons.1 hf with e | e
  ·subst e;exact λt av hl=>P'.slots t av trivial hl
  ·exact P'.kf f e
theorem LinkY.size {c c1:Cx}{nt:Nat}(hc:Ctx c P ty nt){fn1:Func}{l D:Nat}{ps:Array Tmp}{zas bd:Code}{k:List KI}{tm:Array Value}(L:LinkY c c1 fn1 l D ps zas bd k tm):tm.size=nt:=by
 obtain⟨a,h1,h2,h3,_⟩:=L.out;rw[<-hc.hnt];exact h3
end
end Go.Ai
set_option maxRecDepth 100000
namespace Go.Ai
open Go
def nFu:Option TyI:=some ⟨1,.other,[.o .nilFunc],none⟩
def tt:TT:=(.nd (.nd (.nd (.nd (.nd (.nd (.nd (.nd (.nd .e nFu .e) nFu (.nd .e (some ⟨0,.struct [(0,0)],[],none⟩) .e)) nFu (.nd (.nd .e nFu .e) nFu .e)) (some ⟨1,.int .i64,[.i .i64 (.l (0))],none⟩) (.nd (.nd (.nd .e (some ⟨2,.array 2 286 1,[.o .nilFunc,.o .nilFunc],none⟩) .e) nFu .e) (some ⟨4,.struct [(0,3),(3,1)],[.s (.v ⟨#[]⟩),.s (.v ⟨#[]⟩),.s (.v ⟨#[]⟩),.s (.v ⟨#[]⟩)],some [.s,.s,.s,.s]⟩) (.nd (.nd .e nFu .e) nFu .e))) (some ⟨1,.other,[.o (.pointer none)],none⟩) (.nd (.nd (.nd (.nd .e nFu .e) nFu .e) none (.nd .e nFu .e)) (some ⟨3,.struct [(0,2),(2,1)],[.b (.l false),.xs none 0 0,.xs none 0 0],none⟩) (.nd (.nd (.nd .e (some ⟨1,.other,[.o .nilIface],none⟩) .e) (some ⟨1,.slice 65 9,[.xs none 0 0],none⟩) .e) nFu (.nd .e nFu .e)))) (some ⟨4,.struct [(0,1),(1,1),(2,1),(3,1)],[.i .i64 (.l (0)),.i .i64 (.l (0)),.b (.l false),.i .u8 (.l (0))],none⟩) (.nd (.nd (.nd (.nd (.nd .e nFu .e) nFu .e) nFu (.nd (.nd .e nFu .e) (some ⟨1,.other,[.o (.map none)],none⟩) .e)) nFu (.nd (.nd (.nd .e nFu .e) nFu .e) (some ⟨1,.slice 161 6,[.xs none 0 0],none⟩) (.nd (.nd .e nFu .e) nFu .e))) (some ⟨1,.slice 38 9,[.xs none 0 0],none⟩) (.nd (.nd (.nd (.nd .e nFu .e) nFu .e) nFu (.nd (.nd .e (some ⟨1,.other,[.o (.pointer none)],none⟩) .e) (some ⟨1,.slice 4 1,[.xs none 0 0],none⟩) .e)) nFu (.nd (.nd (.nd .e (some ⟨1,.int .u64,[.i .u64 (.l (0))],none⟩) .e) nFu .e) nFu (.nd (.nd .e nFu .e) nFu .e))))) (some ⟨1,.int .i64,[.i .i64 (.l (0))],none⟩) (.nd (.nd (.nd (.nd (.nd (.nd .e nFu .e) nFu (.nd .e (some ⟨1,.int .i32,[.i .i32 (.l (0))],none⟩) .e)) nFu (.nd (.nd .e nFu .e) none .e)) (some ⟨3,.struct [(0,1),(1,1),(2,1)],[.s (.v ⟨#[]⟩),.s (.v ⟨#[]⟩),.s (.v ⟨#[]⟩)],none⟩) (.nd (.nd (.nd .e nFu .e) nFu .e) (some ⟨9,.struct [(0,3),(3,3),(6,3)],[.s (.v ⟨#[]⟩),.s (.v ⟨#[]⟩),.s (.v ⟨#[]⟩),.s (.v ⟨#[]⟩),.s (.v ⟨#[]⟩),.s (.v ⟨#[]⟩),.s (.v ⟨#[]⟩),.s (.v ⟨#[]⟩),.s (.v ⟨#[]⟩)],some [.s,.s,.s,.s,.s,.s,.s,.s,.s]⟩) (.nd (.nd .e nFu .e) (some ⟨1,.other,[.o (.pointer none)],none⟩) .e))) (some ⟨1,.struct [(0,1)],[.o (.pointer none)],none⟩) (.nd (.nd (.nd (.nd .e nFu .e) nFu .e) (some ⟨2,.struct [(0,1),(1,1)],[.s (.v ⟨#[]⟩),.s (.v ⟨#[]⟩)],some [.s,.s]⟩) (.nd (.nd .e nFu .e) (some ⟨10,.struct [(0,9),(9,1)],[.s (.v ⟨#[]⟩),.s (.v ⟨#[]⟩),.s (.v ⟨#[]⟩),.s (.v ⟨#[]⟩),.s (.v ⟨#[]⟩),.s (.v ⟨#[]⟩),.s (.v ⟨#[]⟩),.s (.v ⟨#[]⟩),.s (.v ⟨#[]⟩),.b (.l false)],none⟩) .e)) none (.nd .e nFu (.nd (.nd .e nFu .e) none .e)))) (some ⟨1,.str,[.s (.v ⟨#[]⟩)],none⟩) (.nd (.nd (.nd (.nd (.nd .e nFu .e) nFu .e) nFu (.nd (.nd .e nFu .e) (some ⟨3,.struct [(0,3)],[.s (.v ⟨#[]⟩),.s (.v ⟨#[]⟩),.s (.v ⟨#[]⟩)],some [.s,.s,.s]⟩) .e)) (some ⟨1,.slice 138 1,[.xs none 0 0],none⟩) (.nd (.nd (.nd .e nFu .e) (some ⟨9,.array 3 47 3,[.b (.l false),.xs none 0 0,.xs none 0 0,.b (.l false),.xs none 0 0,.xs none 0 0,.b (.l false),.xs none 0 0,.xs none 0 0],none⟩) .e) nFu (.nd (.nd .e nFu .e) none .e))) nFu (.nd (.nd (.nd .e nFu .e) nFu (.nd (.nd .e (some ⟨24,.array 24 5 1,[.i .u8 (.l (0)),.i .u8 (.l (0)),.i .u8 (.l (0)),.i .u8 (.l (0)),.i .u8 (.l (0)),.i .u8 (.l (0)),.i .u8 (.l (0)),.i .u8 (.l (0)),.i .u8 (.l (0)),.i .u8 (.l (0)),.i .u8 (.l (0)),.i .u8 (.l (0)),.i .u8 (.l (0)),.i .u8 (.l (0)),.i .u8 (.l (0)),.i .u8 (.l (0)),.i .u8 (.l (0)),.i .u8 (.l (0)),.i .u8 (.l (0)),.i .u8 (.l (0)),.i .u8 (.l (0)),.i .u8 (.l (0)),.i .u8 (.l (0)),.i .u8 (.l (0))],none⟩) .e) nFu .e)) (some ⟨1,.slice 69 27,[.xs none 0 0],none⟩) (.nd (.nd (.nd .e nFu .e) nFu .e) nFu (.nd (.nd .e (some ⟨4,.struct [(0,1),(1,1),(2,1),(3,1)],[.o (.pointer none),.o (.pointer none),.o (.pointer none),.s (.v ⟨#[]⟩)],none⟩) .e) nFu .e)))))) nFu (.nd (.nd (.nd (.nd (.nd (.nd (.nd .e nFu .e) nFu (.nd .e (some ⟨1,.int .u8,[.i .u8 (.l (0))],none⟩) .e)) (some ⟨9,.struct [(0,3),(3,3),(6,3)],[.b (.l false),.xs none 0 0,.xs none 0 0,.b (.l false),.xs none 0 0,.xs none 0 0,.b (.l false),.xs none 0 0,.xs none 0 0],none⟩) (.nd .e nFu .e)) nFu (.nd (.nd (.nd .e nFu .e) (some ⟨6,.array 2 36 3,[.s (.v ⟨#[]⟩),.s (.v ⟨#[]⟩),.s (.v ⟨#[]⟩),.s (.v ⟨#[]⟩),.s (.v ⟨#[]⟩),.s (.v ⟨#[]⟩)],none⟩) .e) nFu (.nd .e (some ⟨1,.slice 228 1,[.xs none 0 0],none⟩) .e))) (some ⟨1,.other,[.o (.pointer none)],none⟩) (.nd (.nd (.nd (.nd .e (some ⟨2,.struct [(0,1),(1,1)],[.b (.l false),.s (.v ⟨#[]⟩)],some [.b,.s]⟩) .e) nFu .e) nFu (.nd (.nd .e nFu .e) nFu .e)) nFu (.nd (.nd (.nd .e nFu .e) nFu .e) (some ⟨30,.struct [(0,3),(3,9),(12,18)],[.b (.l false),.xs none 0 0,.xs none 0 0,.b (.l false),.xs none 0 0,.xs none 0 0,.b (.l false),.xs none 0 0,.xs none 0 0,.b (.l false),.xs none 0 0,.xs none 0 0,.b (.l false),.xs none 0 0,.xs none 0 0,.b (.l false),.xs none 0 0,.xs none 0 0,.b (.l false),.xs none 0 0,.xs none 0 0,.b (.l false),.xs none 0 0,.xs none 0 0,.b (.l false),.xs none 0 0,.xs none 0 0,.b (.l false),.xs none 0 0,.xs none 0 0],none⟩) (.nd (.nd .e nFu .e) nFu .e)))) (some ⟨1,.str,[.s (.v ⟨#[]⟩)],none⟩) (.nd (.nd (.nd (.nd (.nd .e nFu .e) nFu .e) nFu (.nd (.nd .e (some ⟨2,.struct [(0,1),(1,1)],[.o (.pointer none),.xs none 0 0],none⟩) .e) (some ⟨6,.struct [(0,3),(3,3)],[.s (.v ⟨#[]⟩),.s (.v ⟨#[]⟩),.s (.v ⟨#[]⟩),.s (.v ⟨#[]⟩),.s (.v ⟨#[]⟩),.s (.v ⟨#[]⟩)],some [.s,.s,.s,.s,.s,.s]⟩) .e)) nFu (.nd (.nd (.nd .e (some ⟨1,.slice 138 1,[.xs none 0 0],none⟩) .e) nFu .e) nFu (.nd (.nd .e (some ⟨3,.struct [(0,1),(1,1),(2,1)],[.s (.v ⟨#[]⟩),.s (.v ⟨#[]⟩),.o .nilIface],none⟩) .e) (some ⟨2,.struct [(0,1),(1,1)],[.s (.v ⟨#[]⟩),.s (.v ⟨#[]⟩)],none⟩) .e))) (some ⟨2,.struct [(0,1),(1,1)],[.s (.v ⟨#[]⟩),.s (.v ⟨#[]⟩)],none⟩) (.nd (.nd (.nd (.nd .e nFu .e) nFu .e) (some ⟨1,.slice 83 2,[.xs none 0 0],none⟩) (.nd (.nd .e nFu .e) nFu .e)) nFu (.nd (.nd .e nFu .e) (some ⟨10,.struct [(0,1),(1,3),(4,1),(5,1),(6,1),(7,1),(8,1),(9,1)],[.s (.v ⟨#[]⟩),.s (.v ⟨#[]⟩),.s (.v ⟨#[]⟩),.s (.v ⟨#[]⟩),.s (.v ⟨#[]⟩),.s (.v ⟨#[]⟩),.s (.v ⟨#[]⟩),.s (.v ⟨#[]⟩),.s (.v ⟨#[]⟩),.s (.v ⟨#[]⟩)],some [.s,.s,.s,.s,.s,.s,.s,.s,.s,.s]⟩) (.nd (.nd .e (some ⟨32,.array 32 5 1,[.i .u8 (.l (0)),.i .u8 (.l (0)),.i .u8 (.l (0)),.i .u8 (.l (0)),.i .u8 (.l (0)),.i .u8 (.l (0)),.i .u8 (.l (0)),.i .u8 (.l (0)),.i .u8 (.l (0)),.i .u8 (.l (0)),.i .u8 (.l (0)),.i .u8 (.l (0)),.i .u8 (.l (0)),.i .u8 (.l (0)),.i .u8 (.l (0)),.i .u8 (.l (0)),.i .u8 (.l (0)),.i .u8 (.l (0)),.i .u8 (.l (0)),.i .u8 (.l (0)),.i .u8 (.l (0)),.i .u8 (.l (0)),.i .u8 (.l (0)),.i .u8 (.l (0)),.i .u8 (.l (0)),.i .u8 (.l (0)),.i .u8 (.l (0)),.i .u8 (.l (0)),.i .u8 (.l (0)),.i .u8 (.l (0)),.i .u8 (.l (0)),.i .u8 (.l (0))],none⟩) .e) none .e))))) (some ⟨1,.int .u8,[.i .u8 (.l (0))],none⟩) (.nd (.nd (.nd (.nd (.nd (.nd .e nFu .e) nFu (.nd .e (some ⟨11,.struct [(0,1),(1,1),(2,1),(3,1),(4,1),(5,1),(6,1),(7,1),(8,1),(9,1),(10,1)],[.i .u64 (.l (0)),.i .u64 (.l (0)),.i .u32 (.l (0)),.i .u8 (.l (0)),.i .u8 (.l (0)),.i .u8 (.l (0)),.i .u8 (.l (0)),.o .nilFunc,.o (.pointer none),.i .i32 (.l (0)),.i .i32 (.l (0))],none⟩) .e)) (some ⟨27,.array 3 65 9,[.b (.l false),.xs none 0 0,.xs none 0 0,.b (.l false),.xs none 0 0,.xs none 0 0,.b (.l false),.xs none 0 0,.xs none 0 0,.b (.l false),.xs none 0 0,.xs none 0 0,.b (.l false),.xs none 0 0,.xs none 0 0,.b (.l false),.xs none 0 0,.xs none 0 0,.b (.l false),.xs none 0 0,.xs none 0 0,.b (.l false),.xs none 0 0,.xs none 0 0,.b (.l false),.xs none 0 0,.xs none 0 0],none⟩) (.nd (.nd .e nFu .e) nFu .e)) (some ⟨9,.array 3 36 3,[.s (.v ⟨#[]⟩),.s (.v ⟨#[]⟩),.s (.v ⟨#[]⟩),.s (.v ⟨#[]⟩),.s (.v ⟨#[]⟩),.s (.v ⟨#[]⟩),.s (.v ⟨#[]⟩),.s (.v ⟨#[]⟩),.s (.v ⟨#[]⟩)],none⟩) (.nd (.nd (.nd .e nFu .e) nFu .e) nFu (.nd (.nd .e nFu .e) nFu .e))) (some ⟨1,.int .i32,[.i .i32 (.l (0))],none⟩) (.nd (.nd (.nd (.nd .e nFu .e) (some ⟨1,.slice 36 3,[.xs none 0 0],none⟩) .e) (some ⟨6,.struct [(0,2),(2,2),(4,2)],[.s (.v ⟨#[]⟩),.s (.v ⟨#[]⟩),.s (.v ⟨#[]⟩),.s (.v ⟨#[]⟩),.s (.v ⟨#[]⟩),.s (.v ⟨#[]⟩)],some [.s,.s,.s,.s,.s,.s]⟩) (.nd (.nd .e nFu .e) none .e)) nFu (.nd (.nd (.nd .e nFu .e) (some ⟨1,.int .u64,[.i .u64 (.l (0))],none⟩) .e) nFu (.nd (.nd .e (some ⟨1,.struct [(0,1)],[.s (.v ⟨#[]⟩)],none⟩) .e) nFu .e)))) (some ⟨2,.struct [(0,1),(1,1)],[.s (.v ⟨#[]⟩),.i .u64 (.l (0))],none⟩) (.nd (.nd (.nd (.nd (.nd .e (some ⟨3,.array 3 4 1,[.b (.l false),.b (.l false),.b (.l false)],none⟩) .e) nFu .e) nFu (.nd (.nd .e nFu .e) nFu .e)) (some ⟨2,.struct [(0,1),(1,1)],[.b (.l false),.xs none 0 0],none⟩) (.nd (.nd (.nd .e nFu .e) nFu .e) (some ⟨27,.struct [(0,9),(9,9),(18,9)],[.b (.l false),.xs none 0 0,.xs none 0 0,.b (.l false),.xs none 0 0,.xs none 0 0,.b (.l false),.xs none 0 0,.xs none 0 0,.b (.l false),.xs none 0 0,.xs none 0 0,.b (.l false),.xs none 0 0,.xs none 0 0,.b (.l false),.xs none 0 0,.xs none 0 0,.b (.l false),.xs none 0 0,.xs none 0 0,.b (.l false),.xs none 0 0,.xs none 0 0,.b (.l false),.xs none 0 0,.xs none 0 0],none⟩) (.nd (.nd .e (some ⟨65,.array 65 5 1,[.i .u8 (.l (0)),.i .u8 (.l (0)),.i .u8 (.l (0)),.i .u8 (.l (0)),.i .u8 (.l (0)),.i .u8 (.l (0)),.i .u8 (.l (0)),.i .u8 (.l (0)),.i .u8 (.l (0)),.i .u8 (.l (0)),.i .u8 (.l (0)),.i .u8 (.l (0)),.i .u8 (.l (0)),.i .u8 (.l (0)),.i .u8 (.l (0)),.i .u8 (.l (0)),.i .u8 (.l (0)),.i .u8 (.l (0)),.i .u8 (.l (0)),.i .u8 (.l (0)),.i .u8 (.l (0)),.i .u8 (.l (0)),.i .u8 (.l (0)),.i .u8 (.l (0)),.i .u8 (.l (0)),.i .u8 (.l (0)),.i .u8 (.l (0)),.i .u8 (.l (0)),.i .u8 (.l (0)),.i .u8 (.l (0)),.i .u8 (.l (0)),.i .u8 (.l (0)),.i .u8 (.l (0)),.i .u8 (.l (0)),.i .u8 (.l (0)),.i .u8 (.l (0)),.i .u8 (.l (0)),.i .u8 (.l (0)),.i .u8 (.l (0)),.i .u8 (.l (0)),.i .u8 (.l (0)),.i .u8 (.l (0)),.i .u8 (.l (0)),.i .u8 (.l (0)),.i .u8 (.l (0)),.i .u8 (.l (0)),.i .u8 (.l (0)),.i .u8 (.l (0)),.i .u8 (.l (0)),.i .u8 (.l (0)),.i .u8 (.l (0)),.i .u8 (.l (0)),.i .u8 (.l (0)),.i .u8 (.l (0)),.i .u8 (.l (0)),.i .u8 (.l (0)),.i .u8 (.l (0)),.i .u8 (.l (0)),.i .u8 (.l (0)),.i .u8 (.l (0)),.i .u8 (.l (0)),.i .u8 (.l (0)),.i .u8 (.l (0)),.i .u8 (.l (0)),.i .u8 (.l (0))],none⟩) .e) nFu .e))) (some ⟨6,.struct [(0,1),(1,1),(2,1),(3,1),(4,1),(5,1)],[.s (.v ⟨#[]⟩),.s (.v ⟨#[]⟩),.s (.v ⟨#[]⟩),.s (.v ⟨#[]⟩),.s (.v ⟨#[]⟩),.s (.v ⟨#[]⟩)],none⟩) (.nd (.nd (.nd (.nd .e nFu .e) nFu .e) nFu (.nd (.nd .e nFu .e) nFu .e)) nFu (.nd (.nd (.nd .e nFu .e) (some ⟨1,.slice 5 1,[.xs none 0 0],none⟩) .e) nFu (.nd (.nd .e (some ⟨0,.array 0 16 1,[],none⟩) .e) (some ⟨1,.slice 212 10,[.xs none 0 0],none⟩) .e))))))) none (.nd (.nd (.nd (.nd (.nd (.nd (.nd (.nd .e nFu .e) nFu (.nd .e (some ⟨1,.int .u8,[.i .u8 (.l (0))],none⟩) .e)) (some ⟨9,.struct [(0,3),(3,3),(6,3)],[.b (.l false),.xs none 0 0,.xs none 0 0,.b (.l false),.xs none 0 0,.xs none 0 0,.b (.l false),.xs none 0 0,.xs none 0 0],none⟩) (.nd (.nd .e nFu .e) nFu .e)) none (.nd (.nd (.nd .e (some ⟨4,.array 2 287 2,[.o .nilFunc,.o .nilFunc,.o .nilFunc,.o .nilFunc],none⟩) .e) (some ⟨1,.other,[.o (.map none)],none⟩) .e) none (.nd (.nd .e nFu .e) nFu .e))) (some ⟨1,.other,[.o (.pointer none)],none⟩) (.nd (.nd (.nd (.nd .e (some ⟨2,.struct [(0,1),(1,1)],[.b (.l false),.s (.v ⟨#[]⟩)],none⟩) .e) nFu .e) nFu (.nd (.nd .e nFu .e) nFu .e)) none (.nd (.nd .e nFu .e) (some ⟨18,.array 6 47 3,[.b (.l false),.xs none 0 0,.xs none 0 0,.b (.l false),.xs none 0 0,.xs none 0 0,.b (.l false),.xs none 0 0,.xs none 0 0,.b (.l false),.xs none 0 0,.xs none 0 0,.b (.l false),.xs none 0 0,.xs none 0 0,.b (.l false),.xs none 0 0,.xs none 0 0],none⟩) (.nd (.nd .e nFu .e) nFu .e)))) (some ⟨4,.struct [(0,1),(1,1),(2,1),(3,1)],[.i .i64 (.l (0)),.i .i64 (.l (0)),.b (.l false),.i .u8 (.l (0))],none⟩) (.nd (.nd (.nd (.nd (.nd .e nFu .e) nFu .e) none (.nd (.nd .e (some ⟨1,.other,[.o (.pointer none)],none⟩) .e) (some ⟨6,.struct [(0,3),(3,3)],[.s (.v ⟨#[]⟩),.s (.v ⟨#[]⟩),.s (.v ⟨#[]⟩),.s (.v ⟨#[]⟩),.s (.v ⟨#[]⟩),.s (.v ⟨#[]⟩)],none⟩) .e)) (some ⟨2,.array 2 24 1,[.s (.v ⟨#[]⟩),.s (.v ⟨#[]⟩)],none⟩) (.nd (.nd (.nd .e nFu .e) nFu .e) nFu (.nd (.nd .e nFu .e) nFu .e))) (some ⟨1,.str,[.s (.v ⟨#[]⟩)],none⟩) (.nd (.nd .e nFu (.nd (.nd .e nFu .e) nFu .e)) none (.nd (.nd (.nd .e nFu .e) nFu .e) (some ⟨10,.struct [(0,1),(1,3),(4,1),(5,1),(6,1),(7,1),(8,1),(9,1)],[.s (.v ⟨#[]⟩),.s (.v ⟨#[]⟩),.s (.v ⟨#[]⟩),.s (.v ⟨#[]⟩),.s (.v ⟨#[]⟩),.s (.v ⟨#[]⟩),.s (.v ⟨#[]⟩),.s (.v ⟨#[]⟩),.s (.v ⟨#[]⟩),.s (.v ⟨#[]⟩)],none⟩) (.nd (.nd .e nFu .e) nFu .e))))) (some ⟨1,.bool,[.b (.l false)],none⟩) (.nd (.nd (.nd (.nd (.nd (.nd .e nFu .e) none (.nd .e (some ⟨1,.int .i32,[.i .i32 (.l (0))],none⟩) .e)) nFu (.nd .e nFu .e)) (some ⟨3,.struct [(0,1),(1,1),(2,1)],[.s (.v ⟨#[]⟩),.s (.v ⟨#[]⟩),.s (.v ⟨#[]⟩)],some [.s,.s,.s]⟩) (.nd (.nd (.nd .e nFu .e) nFu .e) none (.nd (.nd .e (some ⟨1,.other,[.o (.pointer none)],none⟩) .e) (some ⟨1,.other,[.o (.pointer none)],none⟩) .e))) (some ⟨1,.other,[.o .nilIface],none⟩) (.nd (.nd (.nd (.nd .e nFu .e) nFu .e) (some ⟨6,.struct [(0,2),(2,2),(4,2)],[.s (.v ⟨#[]⟩),.s (.v ⟨#[]⟩),.s (.v ⟨#[]⟩),.s (.v ⟨#[]⟩),.s (.v ⟨#[]⟩),.s (.v ⟨#[]⟩)],none⟩) (.nd (.nd .e nFu .e) (some ⟨10,.struct [(0,9),(9,1)],[.s (.v ⟨#[]⟩),.s (.v ⟨#[]⟩),.s (.v ⟨#[]⟩),.s (.v ⟨#[]⟩),.s (.v ⟨#[]⟩),.s (.v ⟨#[]⟩),.s (.v ⟨#[]⟩),.s (.v ⟨#[]⟩),.s (.v ⟨#[]⟩),.b (.l false)],none⟩) .e)) nFu (.nd (.nd (.nd .e nFu .e) nFu .e) nFu (.nd (.nd .e (some ⟨1,.other,[.o (.pointer none)],none⟩) .e) nFu .e)))) (some ⟨1,.int .u64,[.i .u64 (.l (0))],none⟩) (.nd (.nd (.nd (.nd (.nd .e nFu .e) nFu .e) nFu (.nd (.nd .e nFu .e) nFu .e)) (some ⟨2,.struct [(0,1),(1,1)],[.b (.l false),.xs none 0 0],none⟩) (.nd (.nd (.nd .e nFu .e) nFu .e) (some ⟨27,.struct [(0,9),(9,9),(18,9)],[.b (.l false),.xs none 0 0,.xs none 0 0,.b (.l false),.xs none 0 0,.xs none 0 0,.b (.l false),.xs none 0 0,.xs none 0 0,.b (.l false),.xs none 0 0,.xs none 0 0,.b (.l false),.xs none 0 0,.xs none 0 0,.b (.l false),.xs none 0 0,.xs none 0 0,.b (.l false),.xs none 0 0,.xs none 0 0,.b (.l false),.xs none 0 0,.xs none 0 0,.b (.l false),.xs none 0 0,.xs none 0 0],none⟩) (.nd (.nd .e (some ⟨20,.array 20 181 1,[.i .u64 (.l (0)),.i .u64 (.l (0)),.i .u64 (.l (0)),.i .u64 (.l (0)),.i .u64 (.l (0)),.i .u64 (.l (0)),.i .u64 (.l (0)),.i .u64 (.l (0)),.i .u64 (.l (0)),.i .u64 (.l (0)),.i .u64 (.l (0)),.i .u64 (.l (0)),.i .u64 (.l (0)),.i .u64 (.l (0)),.i .u64 (.l (0)),.i .u64 (.l (0)),.i .u64 (.l (0)),.i .u64 (.l (0)),.i .u64 (.l (0)),.i .u64 (.l (0))],none⟩) .e) nFu .e))) nFu (.nd (.nd (.nd (.nd .e nFu .e) nFu .e) nFu (.nd (.nd .e nFu .e) nFu .e)) none (.nd (.nd .e nFu .e) nFu (.nd (.nd .e (some ⟨4,.struct [(0,1),(1,1),(2,1),(3,1)],[.o (.pointer none),.o (.pointer none),.o (.pointer none),.s (.v ⟨#[]⟩)],none⟩) .e) nFu .e)))))) (some ⟨1,.int .i64,[.i .i64 (.l (0))],none⟩) (.nd (.nd (.nd (.nd (.nd (.nd (.nd .e nFu .e) none (.nd .e nFu .e)) nFu (.nd (.nd .e nFu .e) nFu .e)) nFu (.nd (.nd .e nFu .e) (some ⟨9,.struct [(0,3),(3,3),(6,3)],[.s (.v ⟨#[]⟩),.s (.v ⟨#[]⟩),.s (.v ⟨#[]⟩),.s (.v ⟨#[]⟩),.s (.v ⟨#[]⟩),.s (.v ⟨#[]⟩),.s (.v ⟨#[]⟩),.s (.v ⟨#[]⟩),.s (.v ⟨#[]⟩)],none⟩) (.nd (.nd .e nFu .e) nFu .e))) (some ⟨1,.struct [(0,1)],[.o (.pointer none)],none⟩) (.nd (.nd (.nd .e nFu .e) (some ⟨2,.struct [(0,1),(1,1)],[.s (.v ⟨#[]⟩),.s (.v ⟨#[]⟩)],none⟩) (.nd (.nd .e nFu .e) nFu .e)) nFu (.nd (.nd (.nd .e nFu .e) nFu .e) (some ⟨30,.struct [(0,3),(3,9),(12,18)],[.b (.l false),.xs none 0 0,.xs none 0 0,.b (.l false),.xs none 0 0,.xs none 0 0,.b (.l false),.xs none 0 0,.xs none 0 0,.b (.l false),.xs none 0 0,.xs none 0 0,.b (.l false),.xs none 0 0,.xs none 0 0,.b (.l false),.xs none 0 0,.xs none 0 0,.b (.l false),.xs none 0 0,.xs none 0 0,.b (.l false),.xs none 0 0,.xs none 0 0,.b (.l false),.xs none 0 0,.xs none 0 0,.b (.l false),.xs none 0 0,.xs none 0 0],none⟩) (.nd .e nFu .e)))) (some ⟨1,.str,[.s (.v ⟨#[]⟩)],none⟩) (.nd (.nd (.nd (.nd (.nd .e nFu .e) (some ⟨1,.int .u32,[.i .u32 (.l (0))],none⟩) .e) none (.nd (.nd .e (some ⟨2,.struct [(0,1),(1,1)],[.o (.pointer none),.xs none 0 0],none⟩) .e) (some ⟨3,.struct [(0,3)],[.s (.v ⟨#[]⟩),.s (.v ⟨#[]⟩),.s (.v ⟨#[]⟩)],none⟩) .e)) (some ⟨1,.slice 138 1,[.xs none 0 0],none⟩) (.nd (.nd .e nFu .e) none (.nd (.nd .e (some ⟨3,.struct [(0,1),(1,1),(2,1)],[.s (.v ⟨#[]⟩),.s (.v ⟨#[]⟩),.o .nilIface],none⟩) .e) (some ⟨2,.struct [(0,1),(1,1)],[.s (.v ⟨#[]⟩),.s (.v ⟨#[]⟩)],some [.s,.s]⟩) .e))) (some ⟨2,.struct [(0,1),(1,1)],[.s (.v ⟨#[]⟩),.s (.v ⟨#[]⟩)],some [.s,.s]⟩) (.nd (.nd (.nd (.nd .e nFu .e) nFu .e) (some ⟨1,.slice 24 1,[.xs none 0 0],none⟩) (.nd (.nd .e nFu .e) nFu .e)) (some ⟨3,.array 3 24 1,[.s (.v ⟨#[]⟩),.s (.v ⟨#[]⟩),.s (.v ⟨#[]⟩)],none⟩) (.nd (.nd (.nd .e nFu .e) nFu .e) none (.nd (.nd .e (some ⟨64,.array 64 5 1,[.i .u8 (.l (0)),.i .u8 (.l (0)),.i .u8 (.l (0)),.i .u8 (.l (0)),.i .u8 (.l (0)),.i .u8 (.l (0)),.i .u8 (.l (0)),.i .u8 (.l (0)),.i .u8 (.l (0)),.i .u8 (.l (0)),.i .u8 (.l (0)),.i .u8 (.l (0)),.i .u8 (.l (0)),.i .u8 (.l (0)),.i .u8 (.l (0)),.i .u8 (.l (0)),.i .u8 (.l (0)),.i .u8 (.l (0)),.i .u8 (.l (0)),.i .u8 (.l (0)),.i .u8 (.l (0)),.i .u8 (.l (0)),.i .u8 (.l (0)),.i .u8 (.l (0)),.i .u8 (.l (0)),.i .u8 (.l (0)),.i .u8 (.l (0)),.i .u8 (.l (0)),.i .u8 (.l (0)),.i .u8 (.l (0)),.i .u8 (.l (0)),.i .u8 (.l (0)),.i .u8 (.l (0)),.i .u8 (.l (0)),.i .u8 (.l (0)),.i .u8 (.l (0)),.i .u8 (.l (0)),.i .u8 (.l (0)),.i .u8 (.l (0)),.i .u8 (.l (0)),.i .u8 (.l (0)),.i .u8 (.l (0)),.i .u8 (.l (0)),.i .u8 (.l (0)),.i .u8 (.l (0)),.i .u8 (.l (0)),.i .u8 (.l (0)),.i .u8 (.l (0)),.i .u8 (.l (0)),.i .u8 (.l (0)),.i .u8 (.l (0)),.i .u8 (.l (0)),.i .u8 (.l (0)),.i .u8 (.l (0)),.i .u8 (.l (0)),.i .u8 (.l (0)),.i .u8 (.l (0)),.i .u8 (.l (0)),.i .u8 (.l (0)),.i .u8 (.l (0)),.i .u8 (.l (0)),.i .u8 (.l (0)),.i .u8 (.l (0)),.i .u8 (.l (0))],none⟩) .e) nFu .e))))) (some ⟨1,.int .u8,[.i .u8 (.l (0))],none⟩) (.nd (.nd (.nd (.nd (.nd .e nFu (.nd .e (some ⟨11,.struct [(0,1),(1,1),(2,1),(3,1),(4,1),(5,1),(6,1),(7,1),(8,1),(9,1),(10,1)],[.i .u64 (.l (0)),.i .u64 (.l (0)),.i .u32 (.l (0)),.i .u8 (.l (0)),.i .u8 (.l (0)),.i .u8 (.l (0)),.i .u8 (.l (0)),.o .nilFunc,.o (.pointer none),.i .i32 (.l (0)),.i .i32 (.l (0))],none⟩) .e)) nFu (.nd .e nFu .e)) (some ⟨9,.array 3 36 3,[.s (.v ⟨#[]⟩),.s (.v ⟨#[]⟩),.s (.v ⟨#[]⟩),.s (.v ⟨#[]⟩),.s (.v ⟨#[]⟩),.s (.v ⟨#[]⟩),.s (.v ⟨#[]⟩),.s (.v ⟨#[]⟩),.s (.v ⟨#[]⟩)],none⟩) (.nd .e (some ⟨6,.array 2 36 3,[.s (.v ⟨#[]⟩),.s (.v ⟨#[]⟩),.s (.v ⟨#[]⟩),.s (.v ⟨#[]⟩),.s (.v ⟨#[]⟩),.s (.v ⟨#[]⟩)],none⟩) (.nd (.nd .e nFu .e) none .e))) (some ⟨1,.slice 38 9,[.xs none 0 0],none⟩) (.nd (.nd (.nd (.nd .e nFu .e) (some ⟨6,.array 3 83 2,[.s (.v ⟨#[]⟩),.s (.v ⟨#[]⟩),.s (.v ⟨#[]⟩),.s (.v ⟨#[]⟩),.s (.v ⟨#[]⟩),.s (.v ⟨#[]⟩)],none⟩) .e) none (.nd (.nd .e (some ⟨1,.int .i64,[.i .i64 (.l (0))],none⟩) .e) nFu .e)) nFu (.nd (.nd (.nd .e nFu .e) nFu .e) nFu (.nd (.nd .e (some ⟨1,.struct [(0,1)],[.s (.v ⟨#[]⟩)],none⟩) .e) nFu .e)))) (some ⟨2,.struct [(0,1),(1,1)],[.s (.v ⟨#[]⟩),.i .u64 (.l (0))],none⟩) (.nd (.nd (.nd (.nd (.nd .e nFu .e) nFu .e) (some ⟨4,.array 2 26 2,[.s (.v ⟨#[]⟩),.s (.v ⟨#[]⟩),.s (.v ⟨#[]⟩),.s (.v ⟨#[]⟩)],none⟩) (.nd (.nd .e nFu .e) (some ⟨2,.array 2 23 1,[.xs none 0 0,.xs none 0 0],none⟩) .e)) (some ⟨3,.struct [(0,2),(2,1)],[.b (.l false),.xs none 0 0,.xs none 0 0],none⟩) (.nd (.nd (.nd .e (some ⟨1,.other,[.o .nilIface],none⟩) .e) nFu .e) none (.nd (.nd .e nFu .e) (some ⟨1,.other,[.o (.map none)],none⟩) .e))) (some ⟨6,.struct [(0,1),(1,1),(2,1),(3,1),(4,1),(5,1)],[.s (.v ⟨#[]⟩),.s (.v ⟨#[]⟩),.s (.v ⟨#[]⟩),.s (.v ⟨#[]⟩),.s (.v ⟨#[]⟩),.s (.v ⟨#[]⟩)],some [.s,.s,.s,.s,.s,.s]⟩) (.nd (.nd (.nd (.nd .e nFu .e) nFu .e) (some ⟨4,.struct [(0,3),(3,1)],[.s (.v ⟨#[]⟩),.s (.v ⟨#[]⟩),.s (.v ⟨#[]⟩),.s (.v ⟨#[]⟩)],none⟩) .e) none (.nd (.nd (.nd .e nFu .e) nFu .e) nFu (.nd (.nd .e (some ⟨0,.struct [(0,0)],[],none⟩) .e) none .e))))))))
def ty:Nat->Option TyI:=tyF tt
theorem tok:∀t i,ty t=some i->TyOk Go.Proofs.Tryz.prog t i:=aKg zG
theorem mixed:Go.Proofs.Tryz.prog.follows .mixedOrders=true:=zG
theorem cal (g:Nat)(h:aVh Go.Proofs.Tryz.prog g=true):aB Go.Proofs.Tryz.prog g:=aHl h
theorem zK {g:Nat}(h:aVh Go.Proofs.Tryz.prog g=true:=by kernel_rfl):aB Go.Proofs.Tryz.prog g:=aHl h
end Go.Ai
