/- Part 28: lemmas for the particulars laws -/
import Derived.Test.YtafimpgfbgigeaaGreatDoorPh26
set_option linter.all false
namespace Go.Ai
open Go Go.RowKit
section
variable {c:Cx}{P:Program}{ty:Nat->Option TyI}{nt:Nat}{K:List KF}{S:St}
def Ls3 (b4 b5 b6 b7 b8:Bool):Array Bool:=#[true,true,true,b4,b5,b6,b7,b8]
theorem aU9 (hc:Ctx c P ty nt){mt kt et n:Nat}(T:KeyTy P mt kt et n){all:Array Oper}{n0:Nat}{K0:List KF}{k:List KI}{M:Nat->fQ->OF}(hM:∀r es,M r es=OF.mp r es){r:Nat}{ks:List ByteArray}{es:fQ}(pre:List OF){post:List OF}{a b d4 d5 d6 d7:Nat}{kav:AV}{bop:BinOp}(dl:Int)
  (hsz:all.size=8) {o4 o5 o6 o7 o8:Oper} (g4:all[3]?=some o4) (g5:all[4]?=some o5) (g6:all[5]?=some o6) (g7:all[6]?=some o7) (g8:all[7]?=some o8)
  (e4:o4.op=.lookup mt (.tmp a) (.tmp b) false) (f4:o4.dst=some d4) (q4:o4.guard=none)
  (e5:o5.op=.binOp bop 3 (.tmp d4) (.const (.int .i64 1)) 3) (f5:o5.dst=some d5) (q5:o5.guard=none)
  (e6:o6.op=.mapEntry mt (.tmp a) (.tmp b)) (f6:o6.dst=some d6) (q6:o6.guard=none)
  (e7:o7.op=.extract (.tmp d6) 1) (f7:o7.dst=some d7) (q7:o7.guard=none)
  (e8:o8.op=.entryStore mt (.tmp a) (.tmp d7) (.tmp d5)) (f8:o8.dst=none) (q8:o8.guard=none)
  (hb:(bop=.add/\dl=1)\/(bop=.sub/\dl=-1)) (hz:-4611686018427387904<=gL es ks/\gL es ks<=4611686018427387904)
  (hdd:(decide (d4<nt)&&decide (d5<nt)&&decide (d6<nt)&&decide (d7<nt))=true) (aJv:[a,b,d4,d5,d6,d7].Nodup)
  (sa:look S.sl a=some (.o (.map (some r)))) (sb:look S.sl b=some kav) (hk:aD hJ kav=some (jZ ks)) (hn:ks.length=n) (hes:jF n es) (how:S.ow=pre++M r es::post)
  (w4:look S.sl d4=none) (w5:look S.sl d5=none) (w6:look S.sl d6=none) (w7:look S.sl d7=none)
  (r0:Region.ready .any all (Ls3 false false false false false)=[3,5]) (r4:Region.ready .any all (Ls3 true false false false false)=[4,5]) (r6:Region.ready .any all (Ls3 false false true false false)=[3,6])
  (r45:Region.ready .any all (Ls3 true true false false false)=[5]) (r46:Region.ready .any all (Ls3 true false true false false)=[4,6]) (r67:Region.ready .any all (Ls3 false false true true false)=[3])
  (r456:Region.ready .any all (Ls3 true true true false false)=[6]) (r467:Region.ready .any all (Ls3 true false true true false)=[4]) (r4567:Region.ready .any all (Ls3 true true true true false)=[7]) (r8:Region.ready .any all (Ls3 true true true true true)=[])
  (hd:uJ all 3=true) (hkk:jT k=true) (h:Goal c K ⟨k,{S with ow:=pre++M r (gD ks dl es)::post},[]⟩):Goal c K ⟨.dops all 3 n0 K0::k,S,[]⟩:=by
 simp only[Bool.and_eq_true,decide_eq_true_eq]at hdd;obtain⟨⟨⟨l4,l5⟩,l6⟩,l7⟩:=hdd;simp only[List.nodup_cons,List.mem_cons,List.not_mem_nil,not_or,or_false,not_false_eq_true,List.nodup_nil,and_true]at aJv;obtain⟨⟨n1,n2,n3,n4,n5⟩,⟨n6,n7,n8,n9⟩,⟨n10,n11,n12⟩,⟨n13,n14⟩,n15⟩:=aJv;have hd4:cM nt o4.dst=true:=by rw[f4];simpa[cM]using l4
 have hd5:cM nt o5.dst=true:=by rw[f5];simpa[cM]using l5
 have hd6:cM nt o6.dst=true:=by rw[f6];simpa[cM]using l6
 have hd7:cM nt o7.dst=true:=by rw[f7];simpa[cM]using l7
 have gd:∀(o:Oper) (sl:List (Nat × AV)),o.guard=none->guardOf #[o] sl o=some true:=λo sl h=>by simp[guardOf,h]
 have aMj:=hes.touch (k:=ks) hn
 obtain⟨z,hz'⟩:=nm (gL es ks);rw[<-hz']at hz;obtain⟨st,hst⟩:=nm (nA es ks);obtain⟨es1,aDf⟩:=nm (gU es ks);rw[<-aDf]at aMj;have hlt:st<es1.length:=by rw[hst,aDf];exact aGm es ks
 have hz1:z=gL es1 ks:=by rw[aDf,aDc];exact hz'
 let e5e:IE:=if bop=.add then .add (.v z) (.l 1)else .sub (.v z) (.l 1)
 have he5:e5e.den=z+dl:=by
  rcases hb with⟨h1,h2⟩ | ⟨h1,h2⟩
  ·simp only[e5e,h1,h2,if_true,IE.den]
  ·simp only[e5e,h1,h2,if_neg (show ¬BinOp.sub=BinOp.add by intro h;cases h),IE.den];omega
 have jL:nL es1 st e5e.den=gD ks dl es:=by rw[he5,aDf,hst,hz'];exact aK0 es ks dl
 have t4:∀(S1:St) (L:Array Bool) (es0:fQ),jF n es0->z=gL es0 ks->look S1.sl a=some (.o (.map (some r)))->look S1.sl b=some kav->S1.ow=pre++M r es0::post->
   Goal c K ⟨.ord all L::k,{S1 with sl:=(d4,.i .i64 (.v z))::S1.sl},[]⟩->Goal c K ⟨.ops #[o4] 0::.ord all L::k,S1,[]⟩:=by
  intro S1 L es0 u1 u2 u3 u4 u5 g;refine aPk hc o4 rfl (gd _ _ q4) hd4 T pre hM e4 u3 u4 hk hn u1 u5 z u2 ?_;refine jU ?_;simp only[St.put,St.putO,f4];exact g
 have t5:∀(S1:St) (L:Array Bool),look S1.sl d4=some (.i .i64 (.v z))->Goal c K ⟨.ord all L::k,{S1 with sl:=(d5,.i .i64 e5e)::S1.sl},[]⟩->Goal c K ⟨.ops #[o5] 0::.ord all L::k,S1,[]⟩:=by
  intro S1 L u1 g;have hf:fop c.ty S1.hp.length S1 o5.op=some ⟨.i .i64 e5e,none,[.inR .i64 e5e]⟩:=by
   rw[e5];rcases hb with⟨h1,h2⟩ | ⟨h1,h2⟩
   ·subst h1;simp only[fop,fW,u1,yE,aLq,IE.mkAdd,sH,if_true,e5e]
   ·subst h1;simp only[fop,fW,u1,yE,aLq,IE.mkSub,sH,if_true,e5e,if_neg (show ¬BinOp.sub=BinOp.add by intro h;cases h)]
  have hs:Goal c K ⟨.ops #[o5] 1::.ord all L::k,S1.put o5.dst (.i .i64 e5e) none,[]⟩:=by
   refine jU ?_;simp only[St.put,St.putO,f5];exact g
  refine .mk0 (show bH c K _ _ from mC (Kn:=[]) (o:=o5) rfl (λX μ a w H=>iZ q5 _) (by rw[hc.hnt];exact hd5) (lA hf ⟨?_,trivial⟩ (λ_ _=>trivial)) hs.so);show lo .i64<=e5e.den/\e5e.den<=hi .i64
  rw[he5];simp only[lo,hi];rcases hb with⟨_,h2⟩ | ⟨_,h2⟩<;>omega
 have t6:∀(S1:St) (L:Array Bool),look S1.sl a=some (.o (.map (some r)))->look S1.sl b=some kav->S1.ow=pre++M r es::post->
   (∀v,Goal c K ⟨.ord all L::k,{S1 with sl:=(d6,.t [.q v,.i .i64 (.n st)])::S1.sl,ow:=pre++M r es1::post},[]⟩)->Goal c K ⟨.ops #[o6] 0::.ord all L::k,S1,[]⟩:=by
  intro S1 L u3 u4 u5 g;refine aD5 hc o6 rfl (gd _ _ q6) hd6 T pre hM e6 u3 u4 hk hn hes u5 aDf hst (λv=>?_);refine jU ?_;simp only[St.putO,f6];exact g v
 have t7:∀(S1:St) (L:Array Bool) (v:Value),look S1.sl d6=some (.t [.q v,.i .i64 (.n st)])->Goal c K ⟨.ord all L::k,{S1 with sl:=(d7,.i .i64 (.n st))::S1.sl},[]⟩->Goal c K ⟨.ops #[o7] 0::.ord all L::k,S1,[]⟩:=by
  intro S1 L v u1 g;have hf:fop c.ty S1.hp.length S1 o7.op=some ⟨.i .i64 (.n st),none,[]⟩:=by
   rw[e7];simp only[fop,fW,u1,eA,List.getElem?_cons_succ,List.getElem?_cons_zero]
  have hs:Goal c K ⟨.ops #[o7] 1::.ord all L::k,S1.put o7.dst (.i .i64 (.n st)) none,[]⟩:=by
   refine jU ?_;simp only[St.put,St.putO,f7];exact g
  exact .mk0 (show bH c K _ _ from mC (Kn:=[]) (o:=o7) rfl (λX μ a w H=>iZ q7 _) (by rw[hc.hnt];exact hd7) (lA hf trivial (λ_ _=>trivial)) hs.so)
 have t8:∀(S1:St),look S1.sl a=some (.o (.map (some r)))->look S1.sl d7=some (.i .i64 (.n st))->look S1.sl d5=some (.i .i64 e5e)->S1.ow=pre++M r es1::post->S1.hp=S.hp->(∀t av,look S.sl t=some av->look S1.sl t=some av)->
   Goal c K ⟨.ops #[o8] 0::.ord all (Ls3 true true true true true)::k,S1,[]⟩:=by
  intro S1 u1 u2 u3 u4 u5 u6;refine yN hc o8 rfl (gd _ _ q8) f8 pre hM e8 u1 u2 u3 hlt u4 jL.symm ?_;refine jU ?_;refine wK r8 hkk ?_;exact aVc (S':={S with ow:=pre++M r (gD ks dl es)::post}) hkk u5.symm rfl u6 h
 have ne:∀{d t:Nat},¬t=d->(d==t)=false:=λh=>by simp;exact λe=>h e.symm
 have keep:∀(l:List (Nat × AV)),(∀x,x∈l->x.1=d4\/x.1=d5\/x.1=d6\/x.1=d7)->∀t av,look S.sl t=some av->look (l++S.sl) t=some av:=by
  intro l;induction l with
  | nil=>intro _ t av h;exact h
  | cons x l ih=>
   intro hl t av ht;have hx:=hl x zA;rw[List.cons_append];obtain⟨j,v⟩:=x;rw[bE]
   ·exact ih (λy hy=>hl y (List.mem_cons_of_mem _ hy)) t av ht
   ·intro e;simp only at e hx;subst e;rcases hx with e | e | e | e<;>subst e
    ·rw[w4]at ht;cases ht
    ·rw[w5]at ht;cases ht
    ·rw[w6]at ht;cases ht
    ·rw[w7]at ht;cases ht
 have L0:firstM all.size 3=Ls3 false false false false false:=by rw[hsz];rfl
 refine aB5 hc hd zW ?_;rw[L0];have A:=n1;have m1:∀{x y:Nat} {av:AV} {l:List (Nat × AV)},¬y=x->look ((x,av)::l) y=look l y:=λh=>bE (λe=>h e.symm) _ _;have m2:∀{x y:Nat} {av:AV} {l:List (Nat × AV)},¬x=y->look ((x,av)::l) y=look l y:=λh=>bE h _ _;have m3:∀{x:Nat} {av:AV} {l:List (Nat × AV)},look ((x,av)::l) x=some av:=bK _ _ _;refine bU [3,5] r0 rfl (λi hi=>?_);simp only[List.mem_cons,List.not_mem_nil,or_false]at hi;rcases hi with rfl | rfl
 ·
  refine⟨o4,g4,q4,t4 S _ es hes hz' sa sb how ?_⟩;refine bU [4,5] r4 rfl (λi hi=>?_);simp only[List.mem_cons,List.not_mem_nil,or_false]at hi;rcases hi with rfl | rfl
  ·refine⟨o5,g5,q5,t5 _ _ m3 ?_⟩;refine bU [5] r45 rfl (λi hi=>?_);simp only[List.mem_cons,List.not_mem_nil,or_false]at hi;subst hi;refine⟨o6,g6,q6,t6 _ _ ((m1 n3).trans ((m1 n2).trans sa)) ((m1 n7).trans ((m1 n6).trans sb)) how (λv=>?_)⟩;refine bU [6] r456 rfl (λi hi=>?_);simp only[List.mem_cons,List.not_mem_nil,or_false]at hi;subst hi;refine⟨o7,g7,q7,t7 _ _ v m3 ?_⟩;refine bU [7] r4567 rfl (λi hi=>?_);simp only[List.mem_cons,List.not_mem_nil,or_false]at hi;subst hi;exact⟨o8,g8,q8,t8 _ ((m1 n5).trans ((m1 n4).trans ((m1 n3).trans ((m1 n2).trans sa)))) m3 ((m1 n14).trans ((m1 n13).trans m3)) rfl rfl (keep [(d7,_),(d6,_),(d5,_),(d4,_)] zA)⟩
  ·refine⟨o6,g6,q6,t6 _ _ ((m1 n2).trans sa) ((m1 n6).trans sb) how (λv=>?_)⟩;refine bU [4,6] r46 rfl (λi hi=>?_);simp only[List.mem_cons,List.not_mem_nil,or_false]at hi;rcases hi with rfl | rfl
   ·refine⟨o5,g5,q5,t5 _ _ ((m1 n11).trans m3) ?_⟩;refine bU [6] r456 rfl (λi hi=>?_);simp only[List.mem_cons,List.not_mem_nil,or_false]at hi;subst hi;refine⟨o7,g7,q7,t7 _ _ v ((m2 n13).trans m3) ?_⟩;refine bU [7] r4567 rfl (λi hi=>?_);simp only[List.mem_cons,List.not_mem_nil,or_false]at hi;subst hi;exact⟨o8,g8,q8,t8 _ ((m1 n5).trans ((m1 n3).trans ((m1 n4).trans ((m1 n2).trans sa)))) m3 ((m1 n14).trans m3) rfl rfl (keep [(d7,_),(d5,_),(d6,_),(d4,_)] zA)⟩
   ·refine⟨o7,g7,q7,t7 _ _ v m3 ?_⟩;refine bU [4] r467 rfl (λi hi=>?_);simp only[List.mem_cons,List.not_mem_nil,or_false]at hi;subst hi;refine⟨o5,g5,q5,t5 _ _ ((m1 n12).trans ((m1 n11).trans m3)) ?_⟩;refine bU [7] r4567 rfl (λi hi=>?_);simp only[List.mem_cons,List.not_mem_nil,or_false]at hi;subst hi;exact⟨o8,g8,q8,t8 _ ((m1 n3).trans ((m1 n5).trans ((m1 n4).trans ((m1 n2).trans sa)))) ((m2 n14).trans m3) m3 rfl rfl (keep [(d5,_),(d7,_),(d6,_),(d4,_)] zA)⟩
 ·
  refine⟨o6,g6,q6,t6 S _ sa sb how (λv=>?_)⟩;refine bU [3,6] r6 rfl (λi hi=>?_);simp only[List.mem_cons,List.not_mem_nil,or_false]at hi;rcases hi with rfl | rfl
  ·refine⟨o4,g4,q4,t4 _ _ es1 aMj hz1 ((m1 n4).trans sa) ((m1 n8).trans sb) rfl ?_⟩;refine bU [4,6] r46 rfl (λi hi=>?_);simp only[List.mem_cons,List.not_mem_nil,or_false]at hi;rcases hi with rfl | rfl
   ·refine⟨o5,g5,q5,t5 _ _ m3 ?_⟩;refine bU [6] r456 rfl (λi hi=>?_);simp only[List.mem_cons,List.not_mem_nil,or_false]at hi;subst hi;refine⟨o7,g7,q7,t7 _ _ v ((m2 n13).trans ((m2 n11).trans m3)) ?_⟩;refine bU [7] r4567 rfl (λi hi=>?_);simp only[List.mem_cons,List.not_mem_nil,or_false]at hi;subst hi;exact⟨o8,g8,q8,t8 _ ((m1 n5).trans ((m1 n3).trans ((m1 n2).trans ((m1 n4).trans sa)))) m3 ((m1 n14).trans m3) rfl rfl (keep [(d7,_),(d5,_),(d4,_),(d6,_)] zA)⟩
   ·refine⟨o7,g7,q7,t7 _ _ v ((m2 n11).trans m3) ?_⟩;refine bU [4] r467 rfl (λi hi=>?_);simp only[List.mem_cons,List.not_mem_nil,or_false]at hi;subst hi;refine⟨o5,g5,q5,t5 _ _ ((m1 n12).trans m3) ?_⟩;refine bU [7] r4567 rfl (λi hi=>?_);simp only[List.mem_cons,List.not_mem_nil,or_false]at hi;subst hi;exact⟨o8,g8,q8,t8 _ ((m1 n3).trans ((m1 n5).trans ((m1 n2).trans ((m1 n4).trans sa)))) ((m2 n14).trans m3) m3 rfl rfl (keep [(d5,_),(d7,_),(d4,_),(d6,_)] zA)⟩
  ·refine⟨o7,g7,q7,t7 _ _ v m3 ?_⟩;refine bU [3] r67 rfl (λi hi=>?_);simp only[List.mem_cons,List.not_mem_nil,or_false]at hi;subst hi;refine⟨o4,g4,q4,t4 _ _ es1 aMj hz1 ((m1 n5).trans ((m1 n4).trans sa)) ((m1 n9).trans ((m1 n8).trans sb)) rfl ?_⟩;refine bU [4] r467 rfl (λi hi=>?_);simp only[List.mem_cons,List.not_mem_nil,or_false]at hi;subst hi;refine⟨o5,g5,q5,t5 _ _ m3 ?_⟩;refine bU [7] r4567 rfl (λi hi=>?_);simp only[List.mem_cons,List.not_mem_nil,or_false]at hi;subst hi;exact⟨o8,g8,q8,t8 _ ((m1 n3).trans ((m1 n2).trans ((m1 n5).trans ((m1 n4).trans sa)))) ((m2 n14).trans ((m2 n12).trans m3)) m3 rfl rfl (keep [(d5,_),(d4,_),(d7,_),(d6,_)] zA)⟩
theorem aVb {ks:List KI}(d k:Nat){bt n sz:Nat}{G:Option Addr->Nat->Nat->List Value->OF}(hG:∀a n cap l,G a n cap l=OF.rv (.slice a n cap) c.B.heap.size bt sz n l){cells:List AV}{news:List Value}{l:List (Nat × AV)}{K':List KF}(hp:jT ks=true)(hk:S.hp[k]?=some (.c bt cells))(hd:look S.sl d=some (.sl k 0 (.l (n:Int)) n))(iW:aF hJ cells=some news)(aJ1:cells.length=n*sz)(h63:n<=9223372036854775807)(h1n:Nat.ble 1 n=true)(hl:aE0 S k l)(hb:(S.hp.set k .e).all (Blk.fr k)=true)(hK:aCa k K K')(hO:aEz k S.ow)
  (h:∀b,Goal c K' ⟨ks,⟨(d,.xs (some ⟨b,0,none⟩) n n)::l,S.hp.set k .e,G (some ⟨b,0,none⟩) n n news::S.ow⟩,[]⟩):Goal c K ⟨ks,S,[]⟩:=by
 simp only[hG]at h;refine jD (ι:=Nat) (K':=λ_=>K') (S':=λb=>⟨(d,.xs (some ⟨b,0,none⟩) n n)::l,S.hp.set k .e,OF.rv (.slice (some ⟨b,0,none⟩) n n) c.B.heap.size bt sz n news::S.ow⟩) (p:=λ_=>True) hp (λX μ a w H=>?_) (λb _=>h b);have P:=H.toP;have hkl:k<S.hp.length:=(List.getElem?_eq_some_iff.1 hk).1;obtain⟨m,hm⟩:=P.all k hkl;have hok:=P.heap k _ m hk hm;match m,hok,hm with
 | .own b,hok,hm=>
 obtain⟨vs,hvs,hbk⟩:=hok;have h1n:=lbl h1n;have aXf:news=vs:=by rw[cW iW]at hvs;injection hvs
 have hvl:vs.length=cells.length:=bC hvs
 have hlen:(S.hp.set k .e).length=S.hp.length:=zA
 have fG:∀j b',(μ.upd k (.val undef)) j=some (.own b')->j≠k/\μ j=some (.own b'):=λj b' hj=>by
  by_cases e:j=k
  ·subst e;rw[Mu.upd_same]at hj;injection hj with hj;cases hj
  ·rw[(fP e).2.2]at hj;exact⟨e,hj⟩
 refine⟨b,X,μ.upd k (.val undef),trivial,⟨⟨P.dfr,P.size,?_,?_,?_,?_,?_,P.xlt,P.xnew,P.xold,P.bel,?_,?_⟩,?_⟩⟩
 ·intro t av _ ht;by_cases e:d=t
  ·subst e;rw[bK]at ht;injection ht with ht;subst ht
   obtain⟨v,e1,e2⟩:=P.slots d _ trivial hd;have hv:v=.slice (some ⟨b,0,none⟩) n n:=by
    obtain⟨b0,o0,h1,h2⟩:=oH e1 (by simp only[IE.den];omega);rw[rB hm]at h1;injection h1 with h1;injection h1 with h1 h1';subst h1;subst h1'
    simpa[IE.den]using h2
   exact⟨v,by rw[hv];rfl,e2⟩
  ·rw[bE e]at ht;obtain⟨a',e1,e2,e3⟩:=hl.look t av ht;obtain⟨v,e4,e5⟩:=P.slots t a' trivial e1;exact⟨v,by rw[xJ _ e2,<-e3 μ];exact e4,e5⟩
 ·intro j bj m hj hmj;by_cases e:j=k
  ·subst e;rw[Mu.upd_same]at hmj;injection hmj with hmj;subst hmj
   have hse:(S.hp.set j .e)[j]?=some .e:=by simp[hkl]
   have hj:some Blk.e=some bj:=hse.symm.trans hj
   injection hj with hj;subst hj;trivial
  ·rw[(fP e).2.2]at hmj;have hfr:bj.fr k=true:=List.all_eq_true.1 hb _ (List.mem_of_getElem? hj);rw[List.getElem?_set_ne (λe'=>e e'.symm)]at hj;exact Blk.ok_fr hfr (P.heap j bj m hj hmj)
 ·intro j hj;rw[hlen]at hj;by_cases e:j=k
  ·subst e;exact⟨_,Mu.upd_same _ _ _⟩
  ·obtain⟨m,hm⟩:=P.all j hj;exact⟨m,by rw[(fP e).2.2];exact hm⟩
 ·intro j j' b' h1 h2;exact P.inj j j' b' (fG _ _ h1).2 (fG _ _ h2).2
 ·intro j b' h1;exact P.loc j b' (fG _ _ h1).2
 ·intro f hf;obtain⟨h1,h2⟩:=hK.mem f hf;exact h2.out _ _ _ _ (P.kf f h1)
 ·obtain⟨l1,l2,l3⟩:=P.loc k b hm;refine⟨λf hf=>?_,List.Pairwise.cons (λg hg j hj=>?_) ?_⟩
  ·rcases List.mem_cons.1 hf with e | e
   ·subst e;refine⟨⟨by rw[bC iW,aJ1],.inr ⟨b,n,vs.toArray,rfl,l1,hbk,lRf _,by simpa[maxLen]using h63,by rw[List.size_toArray,hvl,aJ1],by rw[<-aXf];exact List.take_of_length_le (by rw[bC iW,aJ1];exact lRf _)⟩⟩,λj hj=>?_⟩;have hj:j=b:=(Option.some.inj hj).symm;subst hj;exact⟨l1,l3,l2,λk' hk'=>(fG _ _ hk').1 (P.inj _ _ _ (fG _ _ hk').2 hm)⟩
   ·obtain⟨h1,h2⟩:=P.own.at_ f e;obtain⟨h3,h4⟩:=(hO.mem f e).out μ w undef h1;refine⟨h3,λj hj=>?_⟩;obtain⟨q1,q2,q3,q4⟩:=h2 j ((h4 j).1 hj);exact⟨q1,q2,q3,λk' hk'=>q4 k' (fG _ _ hk').2⟩
  ·have hj:j=b:=(Option.some.inj hj).symm
   subst hj;intro hg';obtain⟨h1,h2⟩:=P.own.at_ g hg;exact(h2 j ((((hO.mem g hg).out μ w undef h1).2 j).1 hg')).2.2.2 k hm
  ·refine P.own.apart.imp_of_mem λ{f g} hf hg hq j hj hj'=>?_;exact hq j ((((hO.mem f hf).out μ w undef (P.own.at_ f hf).1).2 j).1 hj) ((((hO.mem g hg).out μ w undef (P.own.at_ g hg).1).2 j).1 hj')
 ·intro j hj;rw[hlen]at hj;have e:j≠k:=zW;rw[(fP e).2.2];exact H.dom j hj
end
end Go.Ai
namespace Go.Ai
open Go Go.Proofs Go.Num V3
theorem aLw:aB PP 76:=zK
theorem pF:aB PP 139:=zK
theorem aQk {u v:V3}(hu:u.le (2^26))(hv:v.le (2^26)):Pure PP 139 [gA u,gA v] (.string (aA (u.dot v))):=by
 have k1:=bGa hu hv
 clear hu hv;unfold gA gT at *;generalize aA u.x=a,aA u.y=b,aA u.z=d,aA v.x=a',aA v.y=b',aA v.z=d',aA (u.dot v)=r at *;refine zF [iI a b d,iI a' b' d'] Tryz.func139 λc hc hR=>?_;cbv;refine zC (.t [.s (.v r),.i .i64 (.l 0)]) k1 aSk ?_;cbv;exact zR
def vK (a:V3):List ByteArray:=[aA a.x,aA a.y,aA a.z]
def ptL (l:List V3):List ByteArray:=l.flatMap vK
theorem aPd:∀(l:List V3),(ptL l).length=3*l.length
 | []=>rfl
 | t::l=>by
  have:=aPd l
  unfold ptL at this |-;rw[List.flatMap_cons,List.length_append,this];show 3+_=_
  rw[List.length_cons];omega
theorem aB1:∀{l:List V3} {j i:Nat} {t:V3},l[j]?=some t->i<3->(ptL l)[j*3+i]?=(vK t)[i]?
 | [],j,i,t,h,_=>by simp at h
 | u::l,0,i,t,h,hi=>by
  simp at h;subst h;unfold ptL;rw[List.flatMap_cons,List.getElem?_append_left (by show _<3;omega)];simp
 | u::l,j+1,i,t,h,hi=>by
  have:=aB1 (l:=l) (j:=j) (i:=i) (t:=t) (by simpa using h) hi
  unfold ptL at this |-;rw[List.flatMap_cons,List.getElem?_append_right (by show 3<=_;omega),<-this];congr 1;show _ - 3=_
  omega
def ends (l:List Seg):List V3:=l.flatMap λg=>[g.a,g.b]
theorem aJq:∀(l:List Seg),(ends l).length=2*l.length
 | []=>rfl
 | g::l=>by
  have:=aJq l
  unfold ends at this |-;rw[List.flatMap_cons,List.length_append,this];show 2+_=_
  rw[List.length_cons];omega
theorem aP9 {l:List Seg}{i:Nat}{g:Seg}(h:l[i]?=some g):ends (l.take (i+1))=ends (l.take i)++[g.a,g.b]:=by
 obtain⟨h1,h2⟩:=List.getElem?_eq_some_iff.1 h;unfold ends;rw[List.take_succ_eq_append_getElem h1,List.flatMap_append,h2];simp
theorem aXw (l m:List V3):ptL (l++m)=ptL l++ptL m:=by unfold ptL;simp
def aJj (es:fQ)(g:Seg):fQ:=gD (vK g.b) (-1) (gD (vK g.a) 1 es)
def vW (l:List Seg):fQ:=l.foldl aJj []
def aPo (l:List Seg):Bool:=(vW l).all λx=>decide (x.2=0)
def wS (n m:Nat)(es:fQ):Prop:=jF n es/\∀x,x∈es->-(m:Int)<=x.2/\x.2<=m
theorem wS.add {n:Nat}{k:List ByteArray}{d:Int}(hk:k.length=n)(hd:-1<=d/\d<=1){m:Nat}:∀{es:fQ},wS n m es->wS n (m+1) (gD k d es):=by
 intro es h;refine⟨h.1.add hk,?_⟩;have h2:=h.2;clear h;induction es with
 | nil=>intro x hx;simp[gD]at hx;subst hx;simp only;omega
 | cons y l ih=>
  obtain⟨q,v⟩:=y;have hq:=h2 (q,v) zA;have hl:∀x,x∈l->-(m:Int)<=x.2/\x.2<=m:=λx hx=>h2 x (List.mem_cons_of_mem _ hx);simp only at hq;unfold gD;split
  ·intro x hx;rcases List.mem_cons.1 hx with e | e
   ·subst e;simp only;omega
   ·have:=hl x e;omega
  ·intro x hx;rcases List.mem_cons.1 hx with e | e
   ·subst e;simp only;omega
   ·exact ih hl x e
theorem wS.get {n m:Nat}{es:fQ}(h:wS n m es)(k:List ByteArray):-(m:Int)<=gL es k/\gL es k<=m:=by
 unfold gL;cases hf:gC k es 0 with
 | none=>simp only;omega
 | some x=>
  obtain⟨j,v⟩:=x;have:=(qL hf).2.2;exact h.2 (k,v) (List.mem_of_getElem? this)
theorem wS.s {m:Nat}{es:fQ}(h:wS 3 m es)(g:Seg):wS 3 (m+2) (aJj es g):=
 wS.add (n:=3) (k:=vK g.b) (d:=-1) rfl zW (wS.add (n:=3) (k:=vK g.a) (d:=1) rfl zW h)
theorem aAw {l:List Seg}{i:Nat}{t:Seg}(h:l[i]?=some t):vW (l.take (i+1))=aJj (vW (l.take i)) t:=by
 unfold vW;exact lY aJj [] h
theorem vY (l:List Seg):∀i,i<=l.length->wS 3 (2*i) (vW (l.take i))
 | 0,_=>⟨(λx hx=>by cases hx),λx hx=>by cases hx⟩
 | i+1,h=>by
  have h1:l[i]?=some l[i]:=zA
  rw[aAw h1];exact(vY l i zW).s _
theorem aWt (a0 a1 a2:ByteArray)(b:Bool)(w:World):(Instr.checkKey b 10000 34 (.agg #[.string a0,.string a1,.string a2])).run PP w=.ok () w:=zG
theorem aAh:KeyTy PP 181 34 3 3:=by
 refine⟨zG,zG,zG,?_,λw=>zG⟩;intro a b w ha;match a,ha with
 | [a0,a1,a2],_=>exact aWt a0 a1 a2 b w
structure Wp where
 a:Rat
 x:Rat
 y:Rat
 xx:Rat
 yy:Rat
 xy:Rat
def wpV (s:Wp):Value:=.agg #[.string (aA s.a),.string (aA s.x),.string (aA s.y),.string (aA s.xx),.string (aA s.yy),.string (aA s.xy)]
def Wp.none:Wp:=⟨0,0,0,0,0,0⟩
def Wp.tri (s:Wp)(ax ay bx yb:Rat):Wp:=
 let c:=ax*yb - bx*ay
 ⟨s.a+c*(1/2),s.x+c*(ax+bx)*(1/6),s.y+c*(ay+yb)*(1/6),s.xx+c*(ax*ax+ax*bx+bx*bx)*(1/12),s.yy+c*(ay*ay+ay*yb+yb*yb)*(1/12),s.xy+c*(2*ax*ay+ax*yb+bx*ay+2*bx*yb)*(1/24)⟩
def Wp.seg (u v:V3)(s:Wp)(g:Seg):Wp:=s.tri (u.dot g.a) (v.dot g.a) (u.dot g.b) (v.dot g.b)
def wpS (u v:V3)(l:List Seg):Wp:=l.foldl (Wp.seg u v) Wp.none
def Wp.le (s:Wp)(k:Nat):Prop:=sz s.a<=k/\sz s.x<=k/\sz s.y<=k/\sz s.xx<=k/\sz s.yy<=k/\sz s.xy<=k
theorem aZo:aA (1/12)=⟨#[49,47,49,50]⟩:=(qA (s:=⟨#[49,47,49,50]⟩) (by decide+kernel)).symm
theorem aRd:sz (1/12)<=4:=lTr (gS _) (by rw[aZo];decide)
theorem Wp.le_tri {s:Wp}{ax ay bx yb:Rat}{k e:Nat}(hs:s.le k)(h1:sz ax<=e)(h2:sz ay<=e)(h3:sz bx<=e)(h4:sz yb<=e):(s.tri ax ay bx yb).le (k+(12*e+12)):=by
 have hc:=sz_ss (sz_mm h1 h4) (sz_mm h3 h2)
 obtain⟨a1,a2,a3,a4,a5,a6⟩:=hs;refine⟨?_,?_,?_,?_,?_,?_⟩
 ·exact lTr (sz_aa a1 (sz_mm hc szh)) zW
 ·exact lTr (sz_aa a2 (sz_mm (sz_mm hc (sz_aa h1 h3)) sz6)) zW
 ·exact lTr (sz_aa a3 (sz_mm (sz_mm hc (sz_aa h2 h4)) sz6)) zW
 ·exact lTr (sz_aa a4 (sz_mm (sz_mm hc (sz_aa (sz_aa (sz_mm h1 h1) (sz_mm h1 h3)) (sz_mm h3 h3))) aRd)) zW
 ·exact lTr (sz_aa a5 (sz_mm (sz_mm hc (sz_aa (sz_aa (sz_mm h2 h2) (sz_mm h2 h4)) (sz_mm h4 h4))) aRd)) zW
 ·exact lTr (sz_aa a6 (sz_mm (sz_mm hc (sz_aa (sz_aa (sz_aa (sz_mm (sz_mm sz2 h1) h2) (sz_mm h1 h4)) (sz_mm h3 h2)) (sz_mm (sz_mm sz2 h3) h4))) aVn)) zW
theorem re3 {f:Nat->ByteArray}{x:Nat}{a0 a1 a2:ByteArray}(h0:f (x*3+0)=a0)(h1:f (x*3+1)=a1)(h2:f (x*3+2)=a2):
  ∀μ,aF μ [.s (.fn f 0 (.n x) 3 0),.s (.fn f 0 (.n x) 3 1),.s (.fn f 0 (.n x) 3 2)]=aF μ [.s (.v a0),.s (.v a1),.s (.v a2)]:=by
 intro μ;simp only[aF,aD,SE.den,IE.den,aY,Int.toNat_natCast,Nat.zero_add,h0,h1,h2]
set_option maxRecDepth 100000 in
set_option maxHeartbeats 0 in
theorem aUl {sg:List Seg}{u v:V3}(hu:u.le (2^13))(hw:v.le (2^13))(hl:∀g,g∈sg->g.a.le (2^14)/\g.b.le (2^14))(hn:sg.length<=32)(hok:aPo sg=true){X:Nat->Prop}{w:World}{s:Value}(hX:∀b,X b->b<w.heap.size)(hs:(dR sg.length (jP sg)).p s X w):
  Fn PP 76 [s,gA u,gA v] X w (eE (.tuple #[wpV (wpS u v sg),.int .i64 0])):=by
 obtain⟨R,hRR⟩:=nm (eE (.tuple #[wpV (wpS u v sg),.int .i64 0]));rw[<-hRR];obtain⟨M,hM⟩:=nm (sg.length);obtain⟨QM,hQM⟩:=nm (6*M);rw[<-hM]at hs hn;obtain⟨K,hK⟩:=nm ([KF.cst s (dR M (jP sg))]);obtain⟨A,hA⟩:∃A:Nat->Wp,∀x,A x=(sg.take x).foldl (Wp.seg u v) Wp.none:=⟨_,λ_=>rfl⟩;have aJw:∀z r:V3,z.le (2^13)->r.le (2^14)->sz (z.dot r)<=73730:=λz r h1 h2=>lTr (V3.sz_dot h1 h2) zV;have A0:(Wp.none).le 1:=⟨nB,nB,nB,nB,nB,nB⟩;have Ale:∀x,x<=M->(A x).le (1+x*884772):=by
  intro x;induction x with
  | zero=>intro _;rw[hA];exact A0
  | succ i ih=>
   intro h;have h1:sg[i]?=some (sg[i]'zW):=zA;rw[hA,lY _ _ h1,<-hA];have hg:=hl _ (List.getElem_mem (l:=sg) (n:=i) zW);have:=Wp.le_tri (ih zW) (aJw u _ hu hg.1) (aJw v _ hw hg.1) (aJw u _ hu hg.2) (aJw v _ hw hg.2);rw[show 1+(i+1)*884772=1+i*884772+(12*73730+12) by omega];exact this
 obtain⟨d0,hd0⟩:∃d0:Nat->ByteArray,∀x,aA (A x).a=d0 x:=⟨_,λ_=>rfl⟩;obtain⟨d1,hd1⟩:∃d1:Nat->ByteArray,∀x,aA (A x).x=d1 x:=⟨_,λ_=>rfl⟩;obtain⟨d2,hd2⟩:∃d2:Nat->ByteArray,∀x,aA (A x).y=d2 x:=⟨_,λ_=>rfl⟩;obtain⟨d3,hd3⟩:∃d3:Nat->ByteArray,∀x,aA (A x).xx=d3 x:=⟨_,λ_=>rfl⟩;obtain⟨d4,hd4⟩:∃d4:Nat->ByteArray,∀x,aA (A x).yy=d4 x:=⟨_,λ_=>rfl⟩;obtain⟨d5,hd5⟩:∃d5:Nat->ByteArray,∀x,aA (A x).xy=d5 x:=⟨_,λ_=>rfl⟩;have nG:R=eE (.tuple #[.agg #[.string (d0 M),.string (d1 M),.string (d2 M),.string (d3 M),.string (d4 M),.string (d5 M)],.int .i64 0]):=by
  rw[hRR,<-hd0,<-hd1,<-hd2,<-hd3,<-hd4,<-hd5,hA,hM,List.take_of_length_le (lRf _)];rfl
 obtain⟨PN,hPN⟩:∃PN:Nat->Nat,∀x,PN x=2+2*x:=⟨_,λ_=>rfl⟩;obtain⟨W,hW⟩:∃W:Nat->List Value,∀x,W x=(ptL (u::v::ends (sg.take x))).map Value.string:=⟨_,λ_=>rfl⟩;obtain⟨Es,hEs⟩:∃Es:Nat->fQ,∀x,Es x=vW (sg.take x):=⟨_,λ_=>rfl⟩;obtain⟨P,hP⟩:=nm (u::v::ends sg);have bGw:∀q,q∈P->q.le (2^29):=λq hq=>by
  rw[hP]at hq;rcases List.mem_cons.1 hq with e | hq
  ·subst e;exact hu.mono zV
  rcases List.mem_cons.1 hq with e | hq
  ·subst e;exact hw.mono zV
  obtain⟨g,hg,h⟩:=List.mem_flatMap.1 hq;simp only[List.mem_cons,List.not_mem_nil,or_false]at h;rcases h with e | e<;>subst e
  ·exact(hl g hg).1.mono zV
  ·exact(hl g hg).2.mono zV
 have aYu:P.length=PN M:=by rw[hP,hPN,hM];simp only[List.length_cons,aJq];omega
 have hWM:W M=(ptL P).map Value.string:=by rw[hW,hP,hM,List.take_of_length_le (lRf _)]
 have hW0:W 0=[.string (aA u.x),.string (aA u.y),.string (aA u.z),.string (aA v.x),.string (aA v.y),.string (aA v.z)]:=by rw[hW];rfl
 have bD9:PN 0=2:=by rw[hPN]
 have hE0:Es 0=[]:=by rw[hEs];rfl
 have bEa:∀x,x<=M->PN x<=66:=λx hx=>by rw[hPN];omega
 have bEi:∀(j:Nat) (ks:List ByteArray) (z:Int),(Es M)[j]?=some (ks,z)->z=0:=λj ks z hj=>by
  rw[hEs,hM,List.take_of_length_le (lRf _)]at hj;unfold aPo at hok;rw[List.all_eq_true]at hok;have pV:=List.mem_of_getElem? (l:=vW sg) hj;have:=hok _ pV;simpa using this
 have bGr:jF 3 (Es M):=by rw[hEs];exact(vY sg M (by rw[hM];exact lRf _)).1
 have zz:d0 0=⟨#[48]⟩/\d1 0=⟨#[48]⟩/\d2 0=⟨#[48]⟩/\d3 0=⟨#[48]⟩/\d4 0=⟨#[48]⟩/\d5 0=⟨#[48]⟩:=by
  rw[<-hd0,<-hd1,<-hd2,<-hd3,<-hd4,<-hd5,hA];exact⟨eS,eS,eS,eS,eS,eS⟩
 obtain⟨z0,z1,z2,z3,z4,z5⟩:=zz;have kd:∀z r:V3,z.le (2^13)->r.le (2^14)->Pure PP 139 [gA z,gA r] (.string (aA (z.dot r))):=λz r h1 h2=>aQk (h1.mono zV) (h2.mono zV);unfold gA gT at kd |-;obtain⟨u1,hu1⟩:=nm (aA u.x);obtain⟨u2,hu2⟩:=nm (aA u.y);obtain⟨u3,hu3⟩:=nm (aA u.z);obtain⟨v1,hv1⟩:=nm (aA v.x);obtain⟨v2,hv2⟩:=nm (aA v.y);obtain⟨v3,hv3⟩:=nm (aA v.z);rw[<-hu1,<-hu2,<-hu3,<-hv1,<-hv2,<-hv3]at hW0 |-;refine bJ mixed tok [.q s,iI u1 u2 u3,iI v1 v2 v3] (K:=K) Tryz.func76 rfl rfl (lbl rfl) rfl hX (by rw[hK];simp;exact hs) λc hc hR=>?_;refine jO 0 M QM (jP sg) (by rw[aD6,hQM,hM]) rfl rfl (λX μ a w v' H hv'=>cD H (by rw[hK];exact .head _) hv') (λf cap hf dJ=>?_);apply zN hc;cbv;refine aE rfl 100 (λh=>?_) (λh=>?_)
 ·have h:(512:Int)<(M:Int):=BE.lt_t h
  omega
 cbv;clear h;obtain⟨E,hE⟩:∃E:Option Addr->Nat->Nat->List Value->OF,∀a n cap l,E a n cap l=OF.rv (.slice a n cap) c.B.heap.size 34 3 n l:=⟨_,λ_ _ _ _=>rfl⟩;obtain⟨Mo,hMo⟩:∃M:Nat->fQ->OF,∀r es,M r es=OF.mp r es:=⟨OF.mp,λ_ _=>rfl⟩;refine aVb 8 4 (n:=2) (sz:=3) hE (K':=K) (l:=[(0,.sl 0 0 (.n M) cap),(4,.p 1 0),(5,.p 2 0),(6,.p 3 0)]) rfl rfl rfl rfl rfl zV rfl ⟨⟨_,rfl,rfl,λ_=>rfl⟩,⟨_,rfl,rfl,λ_=>rfl⟩,⟨_,rfl,rfl,λ_=>rfl⟩,⟨_,rfl,rfl,λ_=>rfl⟩,trivial⟩ rfl (by subst hK;exact⟨⟨zM,KFk.cst _ _ _⟩,trivial⟩) trivial (λb0=>?_);cbv;refine aGg hc _ rfl rfl rfl hMo rfl (λr=>?_);apply zN hc;cbv;let ι:={x:Nat × (Option Addr × Nat)//x.1<=M};let I:ι->St:=λx=>⟨[(0,.sl 0 0 (.n M) cap),(4,.p 1 0),(5,.p 2 0),(6,.p 3 0),(8,.xs x.1.2.1 (PN x.1.1) x.1.2.2),(9,.o (.map (some r))),(33,.sl 0 0 (.n M) cap),(34,.i .i64 (.n M)),(35,.i .i64 (.n x.1.1))],[.xs QM f,.c 34 [.s (.v u1),.s (.v u2),.s (.v u3)],.c 34 [.s (.v v1),.s (.v v2),.s (.v v3)],.c 41 [.s (.v ⟨#[]⟩),.s (.v ⟨#[]⟩),.s (.v ⟨#[]⟩),.s (.v ⟨#[]⟩),.s (.v ⟨#[]⟩),.s (.v ⟨#[]⟩)]],[Mo r (Es x.1.1),E x.1.2.1 (PN x.1.1) x.1.2.2 (W x.1.1)]⟩
 let x0:ι:=⟨⟨0,some ⟨b0,0,none⟩,2⟩,Nat.zero_le _⟩
 refine iX 4 (S':=I x0) (K':=K) rfl rfl (lbl rfl) rfl (by simp only[I,x0];rw[hE0,bD9,hW0];rfl) ⟨zS,zS,zS,zS,⟨_,rfl,rfl,λμ=>by show _=aD μ (.xs _ (PN 0) _);rw[bD9]⟩,zL⟩ (by subst hK;exact⟨⟨zM,KFr.cst _ _ _⟩,trivial⟩) ⟨by rw[hMo];exact OFr.mp _ _ _,by rw[hE];exact OFr.rv _ _ _ _ _ _ _,trivial⟩ ?_;refine bW hc I (λx=>M - x.1.1) x0 100 ?_;rintro pp ⟨⟨x,aa,cc⟩,hx⟩ hy;dsimp only at hx;cbv;dsimp only;refine aE rfl 9 (λh=>?_) (λh=>?_)
 ·have hxM:x<M:=BE.ltn_t h
  have hg:sg[x]?=some sg[x]:=zA
  obtain⟨g,hgg⟩:=nm (sg[x]);rw[<-hgg]at hg;have gle:=hl g (List.mem_of_getElem? hg);obtain⟨f0,f1,f2,f3,f4,f5⟩:=bF3 hf hg;have o1:(Obl.ltE (.n x) (.n M)).ok:=by show _/\_;simp only[IE.den];omega
  have o2:(Obl.ix 0 (.n x) 6 0 6 QM).ok:=by show aY 0 (x:Int) 6 0+6<=QM;simp only[aY,Int.toNat_natCast];omega
  have o3:(Obl.inR .i64 (.add (.n x) (.l 1))).ok:=by show lo _<=_/\_<=hi _;simp only[lo,hi,IE.den];omega
  obtain⟨x',hx'⟩:=nm (x+1);have hi1:((IE.n x).add (IE.l 1)).den=(IE.n x').den:=by simp only[IE.den,hx'];omega
  have r6:=re6 f0 f1 f2 f3 f4 f5
  clear f0 f1 f2 f3 f4 f5;have v0:wS 3 (2*x) (Es x):=by rw[hEs];exact vY sg x zW
  obtain⟨e1,he1⟩:=nm (gD (vK g.a) 1 (Es x));have v1:wS 3 (2*x+1) e1:=by rw[he1];exact wS.add (n:=3) (k:=vK g.a) (d:=1) rfl zW v0
  have g1:-4611686018427387904<=gL (Es x) (vK g.a)/\gL (Es x) (vK g.a)<=4611686018427387904:=by have:=v0.get (vK g.a);omega
  obtain⟨e2,he2⟩:=nm (gD (vK g.b) (-1) e1);have g2:-4611686018427387904<=gL e1 (vK g.b)/\gL e1 (vK g.b)<=4611686018427387904:=by have:=v1.get (vK g.b);omega
  have hE':Es x'=e2:=by rw[hEs,hx',aAw hg,<-hEs,he2,he1];rfl
  have hW':W x'=W x++[.string (aA g.a.x),.string (aA g.a.y),.string (aA g.a.z),.string (aA g.b.x),.string (aA g.b.y),.string (aA g.b.z)]:=by
   rw[hW,hW,hx',aP9 hg,show u::v::(ends (sg.take x)++[g.a,g.b])=(u::v::ends (sg.take x))++[g.a,g.b] from rfl,aXw,List.map_append];rfl
  have hP':PN x'=PN x+2:=by rw[hPN,hPN];omega
  have hb:=bEa x hx
  unfold vK at *;generalize aA g.a.x=t1,aA g.a.y=t2,aA g.a.z=t3,aA g.b.x=t4,aA g.b.y=t5,aA g.b.z=t6 at *;cbv;refine aP hc ⟨o1,o2,trivial⟩ ?_;refine jH 4 [.s (.v t1),.s (.v t2),.s (.v t3),.s (.v t4),.s (.v t5),.s (.v t6)] rfl rfl r6 ?_;apply zN hc;cbv;refine bX hc _ rfl rfl rfl (pre:=[_]) (m:=2) (bytes:=48) (G:=E) hE rfl rfl rfl rfl rfl rfl rfl rfl rfl rfl rfl rfl rfl rfl zW zW (λae ne ce le hne hle=>?_);rw[<-hP']at hne;have hle:=hle.trans hW'.symm;subst hne;subst hle;refine aPm [_] rfl rfl ?_;apply zN hc;cbv;refine aU9 hc aAh hMo [] (a:=46) (b:=48) (d4:=49) (d5:=50) (d6:=51) (d7:=52) (post:=[_]) (es:=Es x) (ks:=[t1,t2,t3]) (1) rfl rfl rfl rfl rfl rfl rfl rfl rfl rfl rfl rfl rfl rfl rfl rfl rfl rfl rfl rfl rfl (.inl ⟨rfl,rfl⟩) g1 rfl zV rfl rfl rfl rfl v0.1 rfl rfl rfl rfl rfl zG zG zG zG zG zG zG zG zG zG zG (by rfl) ?_;rw[<-he1];apply zN hc;cbv;refine aU9 hc aAh hMo [] (a:=53) (b:=55) (d4:=56) (d5:=57) (d6:=58) (d7:=59) (post:=[_]) (es:=e1) (ks:=[t4,t5,t6]) (-1) rfl rfl rfl rfl rfl rfl rfl rfl rfl rfl rfl rfl rfl rfl rfl rfl rfl rfl rfl rfl rfl (.inr ⟨rfl,rfl⟩) g2 rfl zV rfl rfl rfl rfl v1.1 rfl rfl rfl rfl rfl zG zG zG zG zG zG zG zG zG zG zG (by rfl) ?_;rw[<-he2,<-hE'];apply zN hc;cbv;refine aP hc ⟨o3,trivial⟩ ?_;exact zU 4 (S':=I ⟨⟨x',ae,ce⟩,by show x'<=M;omega⟩) (K':=K) ⟨zS,zS,zS,zS,zS,zS,zS,zS,zI rfl rfl hi1,trivial⟩ (by subst hK;exact⟨⟨zM,KFr.cst _ _ _⟩,trivial⟩) ⟨by rw[hMo];exact OFr.mp _ _ _,by rw[hE];exact OFr.rv _ _ _ _ _ _ _,trivial⟩ (hy ⟨⟨x',ae,ce⟩,by show x'<=M;omega⟩ (by show M - x'<M - x;omega))
 ·have hxM:x=M:=by have:=BE.ltn_f h;omega
  subst hxM;clear hy;obtain⟨QP,hQP⟩:=nm (3*PN x);obtain⟨np,hnp⟩:=nm (PN x);have bI7:np<=66:=by rw[hnp];exact bEa x (lRf _)
  rw[<-hnp]at hQP aYu |-;cbv;refine fL (sz:=3) (hE _ _ _ _) (pre:=[_]) ?_;refine jO 61 np QP (ptL P) (by rw[aPd,aYu,hQP]) rfl rfl (λX μ a w v' Hs hv'=>by
   have:=Hs.toP.cst (.head _)
   simp only[aD]at hv';injection hv' with hv'
   rw[<-hv'];rw[hWM]at this;exact this) (λfp capp hfp bI2=>?_)
  apply zN hc;cbv;let κ:={y:Nat//y<=np};let J:κ->St:=λy=>⟨[(0,.sl 0 0 (.n x) cap),(4,.p 1 0),(5,.p 2 0),(6,.p 3 0),(9,.o (.map (some r))),(61,.sl 4 0 (.n np) capp),(62,.i .i64 (.n np)),(63,.i .i64 (.n y.1))],[.xs QM f,.c 34 [.s (.v u1),.s (.v u2),.s (.v u3)],.c 34 [.s (.v v1),.s (.v v2),.s (.v v3)],.c 41 [.s (.v ⟨#[]⟩),.s (.v ⟨#[]⟩),.s (.v ⟨#[]⟩),.s (.v ⟨#[]⟩),.s (.v ⟨#[]⟩),.s (.v ⟨#[]⟩)],.xs QP fp],[Mo r (Es x)]⟩
  let y0:κ:=⟨0,Nat.zero_le _⟩
  refine zU 5 (S':=J y0) (K':=K) zL (by subst hK;exact⟨⟨zM,KFr.cst _ _ _⟩,trivial⟩) ⟨by rw[hMo];exact OFr.mp _ _ _,trivial⟩ ?_;refine bW hc J (λy=>np - y.1) y0 100 ?_;rintro p2 ⟨y,hy⟩ hh;cbv;refine aE rfl 100 (λh=>?_) (λh=>?_)
  ·have hyN:y<np:=BE.ltn_t h
   have hq:P[y]?=some (P[y]'zW):=zA
   obtain⟨q,hqq⟩:=nm (P[y]'zW);rw[<-hqq]at hq;have kq:=dB (bGw q (List.mem_of_getElem? hq));have r3:=re3 (hfp _ _ ((aB1 hq (show 0<3 by decide)).trans rfl)) (hfp _ _ ((aB1 hq (show 1<3 by decide)).trans rfl)) (hfp _ _ ((aB1 hq (show 2<3 by decide)).trans rfl));have o1:(Obl.ltE (.n y) (.n np)).ok:=by show _/\_;simp only[IE.den];omega
   have o2:(Obl.ix 0 (.n y) 3 0 3 QP).ok:=by show aY 0 (y:Int) 3 0+3<=QP;simp only[aY,Int.toNat_natCast];omega
   have o3:(Obl.inR .i64 (.add (.n y) (.l 1))).ok:=by show lo _<=_/\_<=hi _;simp only[lo,hi,IE.den];omega
   obtain⟨y',hy'⟩:=nm (y+1);have hi1:((IE.n y).add (IE.l 1)).den=(IE.n y').den:=by simp only[IE.den,hy'];omega
   have hyx:=hh ⟨y',zW⟩ (by show np - y'<np - y;omega)
   clear hh hq hqq;unfold gA gT at kq;generalize aA q.x=t1,aA q.y=t2,aA q.z=t3 at *;cbv;refine aP hc ⟨o1,o2,trivial⟩ ?_;refine fT hc (.b (.l true)) kq dA (eV (dV r3)) rfl 100 ?_;cbv;refine aP hc ⟨o3,trivial⟩ ?_;exact zU 5 (S':=J ⟨y',zW⟩) (K':=K) ⟨zS,zS,zS,zS,zS,zS,zS,zI rfl rfl hi1,trivial⟩ (by subst hK;exact⟨⟨zM,KFr.cst _ _ _⟩,trivial⟩) ⟨by rw[hMo];exact OFr.mp _ _ _,trivial⟩ hyx
  ·clear hh;obtain⟨T,hT⟩:∃T:Nat->Nat->Nat->Array Nat->OF,∀a b c d,T a b c d=OF.it a b c d:=⟨OF.it,λ_ _ _ _=>rfl⟩;obtain⟨es,hes⟩:=nm (Es x);obtain⟨Z,hZ⟩:=nm (es.length);rw[<-hes]at bEi bGr |-;cbv;apply zN hc;cbv;refine aPn hc _ rfl rfl rfl aAh [] hMo hT rfl rfl rfl (λqi=>?_);rw[<-hZ];apply zN hc;cbv;let H:Array Nat->St:=λsn=>⟨[(0,.sl 0 0 (.n x) cap),(4,.p 1 0),(5,.p 2 0),(6,.p 3 0),(73,.o (.pointer (some ⟨qi,0,none⟩)))],[.xs QM f,.c 34 [.s (.v u1),.s (.v u2),.s (.v u3)],.c 34 [.s (.v v1),.s (.v v2),.s (.v v3)],.c 41 [.s (.v ⟨#[]⟩),.s (.v ⟨#[]⟩),.s (.v ⟨#[]⟩),.s (.v ⟨#[]⟩),.s (.v ⟨#[]⟩),.s (.v ⟨#[]⟩)]],[T qi r Z sn,Mo r es]⟩
   refine zU 4 (S':=H #[]) (K':=K) zL (by subst hK;exact⟨⟨zM,KFr.cst _ _ _⟩,trivial⟩) ⟨by rw[hT];exact OFr.it _ _ _ _ _,by rw[hMo];exact OFr.mp _ _ _,trivial⟩ ?_;refine bW hc H (λsn=>aKb Z sn) #[] 100 ?_;rintro p3 seen hh;cbv;dsimp only[H];rw[hZ];refine aVd hc _ rfl rfl rfl hMo hT rfl rfl [] rfl (.tail _ (.head _)) (λtI=>?_) (λj ks v hj hns=>?_)
   rotate_left
   ·have hv:v=0:=bEi j ks v hj
    subst hv;have hyx:=hh (seen.push j) (wG (by rw[hZ];exact(List.getElem?_eq_some_iff.1 hj).1) hns);apply zN hc;cbv;refine aPj hc _ rfl rfl rfl hMo hT rfl rfl (.head _) (.tail _ (.head _)) hj ?_;apply zN hc;cbv;try rw[<-hZ]
    refine aE rfl 100 (λh=>nomatch (show false=true from h)) (λh=>?_);cbv;exact zU 4 (S':=H (seen.push j)) (K':=K) zL (by subst hK;exact⟨⟨zM,KFr.cst _ _ _⟩,trivial⟩) ⟨by rw[hT];exact OFr.it _ _ _ _ _,by rw[hMo];exact OFr.mp _ _ _,trivial⟩ hyx
   ·clear hh;try rw[<-hZ]
    apply zN hc;cbv;let I4t:={y:Nat//y<=x};let L4:I4t->St:=λy=>⟨[(4,.p 1 0),(5,.p 2 0),(6,.p 3 0),(16,.p 4 0),(17,.f (.func 139) [] []),(82,.sl 0 0 (.n x) cap),(83,.i .i64 (.n x)),(84,.i .i64 (.n y.1))],[.xs QM f,.c 34 [.s (.v u1),.s (.v u2),.s (.v u3)],.c 34 [.s (.v v1),.s (.v v2),.s (.v v3)],.c 41 [.s (.v ⟨#[]⟩),.s (.v ⟨#[]⟩),.s (.v ⟨#[]⟩),.s (.v ⟨#[]⟩),.s (.v ⟨#[]⟩),.s (.v ⟨#[]⟩)],.c 41 [.s (.v (d0 y.1)),.s (.v (d1 y.1)),.s (.v (d2 y.1)),.s (.v (d3 y.1)),.s (.v (d4 y.1)),.s (.v (d5 y.1))]],[T qi r Z seen,Mo r es]⟩
    let y0:I4t:=⟨0,Nat.zero_le _⟩
    refine iX 5 (S':=L4 y0) (K':=K) rfl (by simp only[L4,y0,z0,z1,z2,z3,z4,z5];rfl) (lbl rfl) rfl rfl zL (by subst hK;exact⟨⟨zM,KFr.cst _ _ _⟩,trivial⟩) ⟨by rw[hT];exact OFr.it _ _ _ _ _,by rw[hMo];exact OFr.mp _ _ _,trivial⟩ ?_;refine bW hc L4 (λy=>x - y.1) y0 100 ?_;rintro p4 ⟨y,hy⟩ hh;cbv;dsimp only[L4];refine aE rfl 9 (λh=>?_) (λh=>?_)
    ·have hyM:y<x:=BE.ltn_t h
     have hg:sg[y]?=some sg[y]:=zA
     obtain⟨g,hgg⟩:=nm (sg[y]);rw[<-hgg]at hg;obtain⟨ga,gb⟩:=hl g (List.mem_of_getElem? hg);obtain⟨f0,f1,f2,f3,f4,f5⟩:=bF3 hf hg;have o1:(Obl.ltE (.n y) (.n x)).ok:=by show _/\_;simp only[IE.den];omega
     have o2:(Obl.ix 0 (.n y) 6 0 6 QM).ok:=by show aY 0 (y:Int) 6 0+6<=QM;simp only[aY,Int.toNat_natCast];omega
     have o3:(Obl.inR .i64 (.add (.n y) (.l 1))).ok:=by show lo _<=_/\_<=hi _;simp only[lo,hi,IE.den];omega
     obtain⟨y',hy'⟩:=nm (y+1);have hi1:((IE.n y).add (IE.l 1)).den=(IE.n y').den:=by simp only[IE.den,hy'];omega
     have r6:=re6 f0 f1 f2 f3 f4 f5
     clear f0 f1 f2 f3 f4 f5;have hyx:=hh ⟨y',zW⟩ (by show x - y'<x - y;omega);clear hh;have q1:=kd u g.a hu ga;have q2:=kd v g.a hw ga;have q3:=kd u g.b hu gb;have q4:=kd v g.b hw gb;rw[<-hu1,<-hu2,<-hu3]at q1 q3;rw[<-hv1,<-hv2,<-hv3]at q2 q4;have s1:=aJw u g.a hu ga;have s2:=aJw v g.a hw ga;have s3:=aJw u g.b hu gb;have s4:=aJw v g.b hw gb;have hA':A y'=(A y).tri (u.dot g.a) (v.dot g.a) (u.dot g.b) (v.dot g.b):=by rw[hA,hA,hy',lY _ _ hg];rfl
     obtain⟨yb,⟨b0',b1',b2',b3',b4',b5'⟩,hyb⟩:∃z:Nat,(A y).le (1+z)/\z<=28312704:=⟨y*884772,Ale y zW,zW⟩;generalize u.dot g.a=ax,v.dot g.a=ay,u.dot g.b=bx at *;generalize v.dot g.b=by' at *
     have m1:=oM (x:=ax) (y:=by') (lTr s1 zW) (lTr s4 zW)
     have m2:=oM (x:=bx) (y:=ay) (lTr s3 zW) (lTr s2 zW)
     have m3:=bIe (x:=ax*by') (y:=bx*ay) (lTr (sz_mm s1 s4) zW) (lTr (sz_mm s3 s2) zW)
     have sc:=sz_ss (sz_mm s1 s4) (sz_mm s3 s2)
     obtain⟨cc,hcc⟩:=nm (ax*by' - bx*ay);rw[<-hcc]at m3 sc;have w0:aA ((A y).a+cc*(1/2))=d0 y':=by rw[<-hd0,hA',hcc];rfl
     have w1:aA ((A y).x+cc*(ax+bx)*(1/6))=d1 y':=by rw[<-hd1,hA',hcc];rfl
     have w2:aA ((A y).y+cc*(ay+by')*(1/6))=d2 y':=by rw[<-hd2,hA',hcc];rfl
     have w3:aA ((A y).xx+cc*(ax*ax+ax*bx+bx*bx)*(1/12))=d3 y':=by rw[<-hd3,hA',hcc];rfl
     have w4:aA ((A y).yy+cc*(ay*ay+ay*by'+by'*by')*(1/12))=d4 y':=by rw[<-hd4,hA',hcc];rfl
     have w5:aA ((A y).xy+cc*(2*ax*ay+ax*by'+bx*ay+2*bx*by')*(1/24))=d5 y':=by rw[<-hd5,hA',hcc];rfl
     have n1:=oM (x:=cc) (y:=1/2) (lTr sc zW) (lTr szh zW)
     have n2:=vL (x:=(A y).a) (y:=cc*(1/2)) (lTr b0' zW) (lTr (sz_mm sc szh) zW)
     have n3:=vL (x:=ax) (y:=bx) (lTr s1 zW) (lTr s3 zW)
     have n4:=yC (x:=cc) (y:=ax+bx) (z:=1/6) (lTr sc zW) (lTr (sz_aa s1 s3) zW) (lTr sz6 zW) (lTr (sz_mm sc (sz_aa s1 s3)) zW)
     have n5:=vL (x:=(A y).x) (y:=cc*(ax+bx)*(1/6)) (lTr b1' zW) (lTr (sz_mm (sz_mm sc (sz_aa s1 s3)) sz6) zW)
     have n6:=vL (x:=ay) (y:=by') (lTr s2 zW) (lTr s4 zW)
     have n7:=yC (x:=cc) (y:=ay+by') (z:=1/6) (lTr sc zW) (lTr (sz_aa s2 s4) zW) (lTr sz6 zW) (lTr (sz_mm sc (sz_aa s2 s4)) zW)
     have n8:=vL (x:=(A y).y) (y:=cc*(ay+by')*(1/6)) (lTr b2' zW) (lTr (sz_mm (sz_mm sc (sz_aa s2 s4)) sz6) zW)
     have i1:=oM (x:=ax) (y:=ax) (lTr s1 zW) (lTr s1 zW)
     have i2:=oM (x:=ax) (y:=bx) (lTr s1 zW) (lTr s3 zW)
     have i3:=oM (x:=bx) (y:=bx) (lTr s3 zW) (lTr s3 zW)
     have i4:=aKc (x:=ax*ax) (y:=ax*bx) (z:=bx*bx) (lTr (sz_mm s1 s1) zW) (lTr (sz_mm s1 s3) zW) (lTr (sz_mm s3 s3) zW) (lTr (sz_aa (sz_mm s1 s1) (sz_mm s1 s3)) zW)
     have i5:=yC (x:=cc) (y:=ax*ax+ax*bx+bx*bx) (z:=1/12) (lTr sc zW) (lTr (sz_aa (sz_aa (sz_mm s1 s1) (sz_mm s1 s3)) (sz_mm s3 s3)) zW) (lTr aRd zW) (lTr (sz_mm sc (sz_aa (sz_aa (sz_mm s1 s1) (sz_mm s1 s3)) (sz_mm s3 s3))) zW)
     have i6:=vL (x:=(A y).xx) (y:=cc*(ax*ax+ax*bx+bx*bx)*(1/12)) (lTr b3' zW) (lTr (sz_mm (sz_mm sc (sz_aa (sz_aa (sz_mm s1 s1) (sz_mm s1 s3)) (sz_mm s3 s3))) aRd) zW)
     have j1:=oM (x:=ay) (y:=ay) (lTr s2 zW) (lTr s2 zW)
     have j2:=oM (x:=ay) (y:=by') (lTr s2 zW) (lTr s4 zW)
     have j3:=oM (x:=by') (y:=by') (lTr s4 zW) (lTr s4 zW)
     have j4:=aKc (x:=ay*ay) (y:=ay*by') (z:=by'*by') (lTr (sz_mm s2 s2) zW) (lTr (sz_mm s2 s4) zW) (lTr (sz_mm s4 s4) zW) (lTr (sz_aa (sz_mm s2 s2) (sz_mm s2 s4)) zW)
     have j5:=yC (x:=cc) (y:=ay*ay+ay*by'+by'*by') (z:=1/12) (lTr sc zW) (lTr (sz_aa (sz_aa (sz_mm s2 s2) (sz_mm s2 s4)) (sz_mm s4 s4)) zW) (lTr aRd zW) (lTr (sz_mm sc (sz_aa (sz_aa (sz_mm s2 s2) (sz_mm s2 s4)) (sz_mm s4 s4))) zW)
     have j6:=vL (x:=(A y).yy) (y:=cc*(ay*ay+ay*by'+by'*by')*(1/12)) (lTr b4' zW) (lTr (sz_mm (sz_mm sc (sz_aa (sz_aa (sz_mm s2 s2) (sz_mm s2 s4)) (sz_mm s4 s4))) aRd) zW)
     have k1:=yC (x:=2) (y:=ax) (z:=ay) (lTr sz2 zW) (lTr s1 zW) (lTr s2 zW) (lTr (sz_mm sz2 s1) zW)
     have k4:=yC (x:=2) (y:=bx) (z:=by') (lTr sz2 zW) (lTr s3 zW) (lTr s4 zW) (lTr (sz_mm sz2 s3) zW)
     have k5:=aY6 (x:=2*ax*ay) (y:=ax*by') (z:=bx*ay) (u:=2*bx*by') (lTr (sz_mm (sz_mm sz2 s1) s2) zW) (lTr (sz_mm s1 s4) zW) (lTr (sz_mm s3 s2) zW) (lTr (sz_mm (sz_mm sz2 s3) s4) zW) (lTr (sz_aa (sz_mm (sz_mm sz2 s1) s2) (sz_mm s1 s4)) zW) (lTr (sz_aa (sz_aa (sz_mm (sz_mm sz2 s1) s2) (sz_mm s1 s4)) (sz_mm s3 s2)) zW)
     have k6:=yC (x:=cc) (y:=2*ax*ay+ax*by'+bx*ay+2*bx*by') (z:=1/24) (lTr sc zW) (lTr (sz_aa (sz_aa (sz_aa (sz_mm (sz_mm sz2 s1) s2) (sz_mm s1 s4)) (sz_mm s3 s2)) (sz_mm (sz_mm sz2 s3) s4)) zW) (lTr aVn zW) (lTr (sz_mm sc (sz_aa (sz_aa (sz_aa (sz_mm (sz_mm sz2 s1) s2) (sz_mm s1 s4)) (sz_mm s3 s2)) (sz_mm (sz_mm sz2 s3) s4))) zW)
     have k7:=vL (x:=(A y).xy) (y:=cc*(2*ax*ay+ax*by'+bx*ay+2*bx*by')*(1/24)) (lTr b5' zW) (lTr (sz_mm (sz_mm sc (sz_aa (sz_aa (sz_aa (sz_mm (sz_mm sz2 s1) s2) (sz_mm s1 s4)) (sz_mm s3 s2)) (sz_mm (sz_mm sz2 s3) s4))) aVn) zW)
     rw[w0,hd0]at n2;rw[w1,hd1]at n5;rw[w2,hd2]at n8;rw[w3,hd3]at i6;rw[w4,hd4]at j6;rw[w5,hd5]at k7;rw[aLi]at n1;rw[bC9]at n4 n7;rw[aZo]at i5 j5;rw[aVw]at k6;rw[aVy]at k1 k4;clear hA' hcc sc s1 s2 s3 s4 w0 w1 w2 w3 w4 w5 b0' b1' b2' b3' b4' b5' hyb hg hgg ga gb;generalize aA (ax*by')=r1 at *;generalize aA (bx*ay)=r2,aA (cc*(1/2))=r3,aA (ax+bx)=r4,aA (cc*(ax+bx)*(1/6))=r5 at *;generalize aA (ay+by')=r6' at *;generalize aA (cc*(ay+by')*(1/6))=r7 at *;generalize aA (ax*ax)=r8,aA (ax*bx)=r9,aA (bx*bx)=r10,aA (ax*ax+ax*bx+bx*bx)=r11,aA (cc*(ax*ax+ax*bx+bx*bx)*(1/12))=r12,aA (ay*ay)=r13 at *;generalize aA (ay*by')=r14 at *;generalize aA (by'*by')=r15 at *;generalize aA (ay*ay+ay*by'+by'*by')=r16 at *;generalize aA (cc*(ay*ay+ay*by'+by'*by')*(1/12))=r17 at *;generalize aA (2*ax*ay)=r18 at *;generalize aA (2*bx*by')=r19 at *;generalize aA (2*ax*ay+ax*by'+bx*ay+2*bx*by')=r20 at *;generalize aA (cc*(2*ax*ay+ax*by'+bx*ay+2*bx*by')*(1/24))=r21 at *;generalize aA (cc)=rc,aA (ax)=ra,aA (ay)=rb,aA (bx)=rd at *;generalize aA (by')=re at *;generalize aA g.a.x=t1,aA g.a.y=t2,aA g.a.z=t3,aA g.b.x=t4,aA g.b.y=t5,aA g.b.z=t6 at *;cbv;refine aP hc ⟨o1,o2,trivial⟩ ?_;refine jH 5 [.s (.v t1),.s (.v t2),.s (.v t3),.s (.v t4),.s (.v t5),.s (.v t6)] rfl rfl r6 ?_;apply zN hc;cbv;refine zD (.s (.v ra)) q1 pF ?_;cbv;refine zD (.s (.v rb)) q2 pF ?_;cbv;refine zD (.s (.v rd)) q3 pF ?_;cbv;refine zD (.s (.v re)) q4 pF ?_;cbv;refine dH hc _ 0 ?_;cbv;refine dH hc _ 0 ?_;cbv;refine dH hc _ 0 ?_;cbv;refine dH hc _ 0 ?_;cbv;refine zE ?_;cbv;refine iO hc (n:=2) (.s (.v r1)) m1 eN 100 ?_;cbv;refine iO hc (n:=2) (.s (.v r2)) m2 eN 100 ?_;cbv;refine zC (.s (.v rc)) m3 bAa ?_;cbv;refine bL hc (n:=2) (.s (.v r3)) n1 eN 100 ?_;cbv;refine bL hc (n:=2) (.s (.v (d0 y'))) n2 iR 100 ?_;cbv;refine zE ?_;cbv;refine bL hc (n:=2) (.s (.v r4)) n3 iR 100 ?_;cbv;refine bL hc (n:=3) (.s (.v r5)) n4 eN 100 ?_;cbv;refine bL hc (n:=2) (.s (.v (d1 y'))) n5 iR 100 ?_;cbv;refine zE ?_;cbv;refine bL hc (n:=2) (.s (.v r6')) n6 iR 100 ?_;cbv;refine bL hc (n:=3) (.s (.v r7)) n7 eN 100 ?_;cbv;refine bL hc (n:=2) (.s (.v (d2 y'))) n8 iR 100 ?_;cbv;refine zE ?_;cbv;refine bL hc (n:=2) (.s (.v r8)) i1 eN 100 ?_;cbv;refine bL hc (n:=2) (.s (.v r9)) i2 eN 100 ?_;cbv;refine bL hc (n:=2) (.s (.v r10)) i3 eN 100 ?_;cbv;refine bL hc (n:=3) (.s (.v r11)) i4 iR 100 ?_;cbv;refine bL hc (n:=3) (.s (.v r12)) i5 eN 100 ?_;cbv;refine bL hc (n:=2) (.s (.v (d3 y'))) i6 iR 100 ?_;cbv;refine zE ?_;cbv;refine bL hc (n:=2) (.s (.v r13)) j1 eN 100 ?_;cbv;refine bL hc (n:=2) (.s (.v r14)) j2 eN 100 ?_;cbv;refine bL hc (n:=2) (.s (.v r15)) j3 eN 100 ?_;cbv;refine bL hc (n:=3) (.s (.v r16)) j4 iR 100 ?_;cbv;refine bL hc (n:=3) (.s (.v r17)) j5 eN 100 ?_;cbv;refine bL hc (n:=2) (.s (.v (d4 y'))) j6 iR 100 ?_;cbv;refine zE ?_;cbv;refine bL hc (n:=3) (.s (.v r18)) k1 eN 100 ?_;cbv;refine bL hc (n:=2) (.s (.v r1)) m1 eN 100 ?_;cbv;refine bL hc (n:=2) (.s (.v r2)) m2 eN 100 ?_;cbv;refine bL hc (n:=3) (.s (.v r19)) k4 eN 100 ?_;cbv;refine bL hc (n:=4) (.s (.v r20)) k5 iR 100 ?_;cbv;refine bL hc (n:=3) (.s (.v r21)) k6 eN 100 ?_;cbv;refine bL hc (n:=2) (.s (.v (d5 y'))) k7 iR 100 ?_;cbv;refine zE ?_;cbv;refine aP hc ⟨o3,trivial⟩ ?_;exact zU 5 (S':=L4 ⟨y',zW⟩) (K':=K) ⟨zS,zS,zS,zS,zS,zS,zS,zI rfl rfl hi1,trivial⟩ (by subst hK;exact⟨⟨zM,KFr.cst _ _ _⟩,trivial⟩) ⟨by rw[hT];exact OFr.it _ _ _ _ _,by rw[hMo];exact OFr.mp _ _ _,trivial⟩ hyx
    ·have hyM:y=x:=by have:=BE.ltn_f h;omega
     subst hyM;clear hh;cbv;apply zN hc;cbv;refine bB hc hR rfl (λX μ a w v' H hv'=>?_);rw[nG];simp only[aD,aF]at hv';injection hv' with hv'
     exact hv'.symm
theorem aPw:aB PP 21:=zK
theorem pQ:aB PP 23:=zK
theorem aCg:aB PP 75:=zK
theorem aMd {r:Raw}{l:List Tri}{p:Pl}(hg:r.good l p)(hp:p.fit (2^9))(hl:∀t,t∈l->t.le (2^9))(hN:r.N<=32)(hL:r.L.length=9*r.N)(hb:(cC p l).le (2^26))(hv0:(cC p l).v≠0){X:Nat->Prop}{w:World}{v:Value}(hX:∀b,X b->b<w.heap.size)(hv:(dR r.N r.L).p v X w):
  Fn PP 21 [v,r.attV,.string r.d] X w (eE (.tuple #[gA ((cC p l).f.scale (1/(cC p l).v)),.int .i64 0])):=by
 have kw:∀{X:Nat->Prop} {w:World} {v:Value},(∀b,X b->b<w.heap.size)->(dR r.N r.L).p v X w->Fn PP 62 [v,r.attV,.string r.d] X w (eE (.tuple #[rS (cC p l),.int .i64 0])):=λhX hv=>aFu hg hp hl hN hL hX hv
 have kc:=aXl hb
 rw[if_neg hv0]at kc;clear hg hp hb hv0;obtain⟨R,hRR⟩:=nm (eE (.tuple #[gA ((cC p l).f.scale (1/(cC p l).v)),.int .i64 0]));rw[<-hRR];unfold Raw.attV at *;obtain⟨RS,hRS⟩:=nm (dR r.N r.L);rw[<-hRS]at hv kw;obtain⟨K,hK⟩:=nm ([KF.cst v RS]);obtain⟨m0,m1,m2,m3,m4,m5,m6,m7,m8,m9,hm⟩:∃m0 m1 m2 m3 m4 m5 m6 m7 m8 m9:ByteArray,rS (cC p l)=.agg #[.string m0,.string m1,.string m2,.string m3,.string m4,.string m5,.string m6,.string m7,.string m8,.string m9]:=⟨_,_,_,_,_,_,_,_,_,_,rfl⟩;rw[hm]at kw kc;unfold gA gT at *;generalize aA ((cC p l).f.scale (1/(cC p l).v)).x=c1,aA ((cC p l).f.scale (1/(cC p l).v)).y=c2,aA ((cC p l).f.scale (1/(cC p l).v)).z=c3 at *;refine bJ mixed tok [.q v,.g [.s (.v r.h),.s (.v r.t)],.s (.v r.d)] (K:=K) Tryz.func21 rfl rfl (lbl rfl) rfl hX (by rw[hK];simp;exact hv) λc hc hR=>?_;apply zN hc;cbv;refine cE hc (.t [.g [.s (.v m0),.s (.v m1),.s (.v m2),.s (.v m3),.s (.v m4),.s (.v m5),.s (.v m6),.s (.v m7),.s (.v m8),.s (.v m9)],.i .i64 (.l 0)]) aIy (λn0 D X μ a w aK H hv=>?_) rfl 100 ?_
 ·obtain⟨u1,u2,u3,rfl,e1,e2,e3⟩:=mS hv;rw[gE e1,show u2=_ from(Option.some.inj e2).symm,show u3=_ from(Option.some.inj e3).symm];exact kw H.xlt (H.cst (by rw[hK];exact .head _))
 cbv;refine zC (.t [iI c1 c2 c3,.i .i64 (.l 0)]) kc aPz ?_;cbv;refine bB hc hR rfl (λX μ a w v' H hv'=>?_);rw[hRR];simp only[aD,aF]at hv';injection hv' with hv'
 exact hv'.symm
theorem aC7 {r:Raw}{l:List Tri}{p:Pl}{a:At}(hg:r.good l p)(hp:p.fit (2^9))(hl:∀t,t∈l->t.le (2^9))(hN:r.N<=32)(hL:r.L.length=9*r.N)(ha:a.le (2^10))(hk:a.ok=true)(hra:r.attV=atV a)(aMm:aPo (eQ p l)=true){X:Nat->Prop}{w:World}{v:Value}(hX:∀b,X b->b<w.heap.size)(hv:(dR r.N r.L).p v X w):
  Fn PP 23 [v,r.attV,.string r.d] X w (eE (.tuple #[wpV (wpS a.ahead a.side (eQ p l)),.int .i64 0])):=by
 have hlen:l.length=r.N:=by
  have:=hL
  rw[hg.eq,lL]at this;omega
 have kw:∀{X:Nat->Prop} {w:World} {v:Value},(∀b,X b->b<w.heap.size)->(dR r.N r.L).p v X w->Fn PP 74 [v,r.attV,.string r.d] X w (eE (.tuple #[pC p,.int .i64 0])):=λhX hv=>aFv hg hL hX hv
 have ks:∀{X:Nat->Prop} {w:World} {v:Value},(∀b,X b->b<w.heap.size)->(dR r.N r.L).p v X w->Fn PP 77 [v,pC p] X w (codeF (dR (eQ p l).length (jP (eQ p l)))):=λ{X} {w} {v} hX hv=>by
  rw[hg.eq,<-hlen]at hv;exact aIs (hp.mono zV) (λt ht=>⟨(hl t ht).1.mono zV,(hl t ht).2.1.mono zV,(hl t ht).2.2.mono zV⟩) zW hg.ok hX hv
 have ko:=tOf (a:=a) ⟨lTr ha.1 zV,lTr ha.2 zV⟩ hk
 have km:∀{X:Nat->Prop} {w:World} {v:Value},(∀b,X b->b<w.heap.size)->(dR (eQ p l).length (jP (eQ p l))).p v X w->Fn PP 76 [v,gA a.ahead,gA a.side] X w (eE (.tuple #[wpV (wpS a.ahead a.side (eQ p l)),.int .i64 0])):=λhX hv=>
  aUl ((At.le_ahead ha).mono zV) ((At.le_side ha).mono zV) (λg h=>by
   have:=aIa hp hl h
   exact⟨this.1.mono zV,this.2.mono zV⟩) (lTr (yQ p l) zW) aMm hX hv
 clear hg hp;obtain⟨R,hRR⟩:=nm (eE (.tuple #[wpV (wpS a.ahead a.side (eQ p l)),.int .i64 0]));obtain⟨R',hR'⟩:=nm (dR (eQ p l).length (jP (eQ p l)));obtain⟨RC,hRC⟩:=nm (codeF R');rw[<-hRR];rw[<-hR',<-hRC]at ks;rw[<-hR']at km;rw[hra]at kw |-;unfold atV aHn at *;obtain⟨RS,hRS⟩:=nm (dR r.N r.L);rw[<-hRS]at hv kw ks;obtain⟨K,hK⟩:=nm ([KF.cst v RS]);obtain⟨y0,y1,y2,y3,y4,y5,hy⟩:∃y0 y1 y2 y3 y4 y5:ByteArray,wpV (wpS a.ahead a.side (eQ p l))=.agg #[.string y0,.string y1,.string y2,.string y3,.string y4,.string y5]:=⟨_,_,_,_,_,_,rfl⟩;rw[hy]at hRR km;unfold pC gA gT at *;generalize aA p.n.x=q1,aA p.n.y=q2,aA p.n.z=q3,aA p.a=q4 at *;rw[show aA a.side.x=⟨#[48]⟩ from eS]at *;generalize aA a.ahead.x=x0,aA a.ahead.y=x1,aA a.ahead.z=x2,aA a.side.y=x4,aA a.side.z=x5,aA a.up.x=x6,aA a.up.y=x7,aA a.up.z=x8,aA a.h=h0,aA a.t=t0 at *;refine bJ mixed tok [.q v,.g [.s (.v h0),.s (.v t0)],.s (.v r.d)] (K:=K) Tryz.func23 rfl rfl (lbl rfl) rfl hX (by rw[hK];simp;exact hv) λc hc hR=>?_;apply zN hc;cbv;refine cE hc (.t [.g [.s (.v q1),.s (.v q2),.s (.v q3),.s (.v q4)],.i .i64 (.l 0)]) aIz (λn0 D X μ a w aK H hv=>?_) rfl 100 ?_
 ·obtain⟨u1,u2,u3,rfl,e1,e2,e3⟩:=mS hv;rw[gE e1,show u2=_ from(Option.some.inj e2).symm,show u3=_ from(Option.some.inj e3).symm];exact kw H.xlt (H.cst (by rw[hK];exact .head _))
 cbv;refine zC (.t [.g [.s (.v x0),.s (.v x1),.s (.v x2),.s (.v ⟨#[48]⟩),.s (.v x4),.s (.v x5),.s (.v x6),.s (.v x7),.s (.v x8)],.i .i64 (.l 0)]) ko aCp ?_;cbv;refine eB hc (R:=RC) aCf (λn0 D X μ a w aK H hv=>?_) 0 ?_
 ·obtain⟨u,u',rfl,e,e'⟩:=bI hv;rw[gE e];rw[show u'=_ from(Option.some.inj e').symm];exact ks H.xlt (H.cst (by rw[hK];exact .head _))
 cbv;refine aU8 40 5 rfl rfl (.head _) hRC (λz=>?_);apply zN hc;cbv;refine cO hc Tryz.func75 aCg (λc1 tm1 FR1 gX hc1 L1=>?_);apply zN hc1;cbv;refine cE hc1 (.t [.g [.s (.v y0),.s (.v y1),.s (.v y2),.s (.v y3),.s (.v y4),.s (.v y5)],.i .i64 (.l 0)]) aLw (λn0 D X μ a w aK H hv=>?_) rfl 100 ?_
 ·obtain⟨u1,u2,u3,rfl,e1,e2,e3⟩:=mS hv;rw[gE e1,show u2=_ from(Option.some.inj e2).symm,show u3=_ from(Option.some.inj e3).symm];exact km H.xlt (H.cst (.tail _ (.head _)))
 cbv;refine cY hc1 L1 gX (.head _) ?_;apply zN hc;cbv;refine bB hc hR rfl (λX μ a w v' H hv'=>?_);rw[hRR];simp only[aD,aF]at hv';injection hv' with hv'
 exact hv'.symm
end Go.Ai
