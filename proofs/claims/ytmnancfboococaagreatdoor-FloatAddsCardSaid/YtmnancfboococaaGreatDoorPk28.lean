/- Part 29 of the proof: garboardlaw17.FloatAdds returns true, whatever the input. -/
import Derived.Test.YtmnancfboococaaGreatDoorTie
import Derived.Test.YtmnancfboococaaGreatDoorCards
import Derived.ProofKit
import Derived.LaidMore
import Derived.OpenShut
import Derived.Handed
import Derived.Deep.Strs
import Derived.Stop.Joined
import Derived.Shelf.Vars
import Derived.Lib.LaidTab
import Derived.Test.YtmnancfboococaaGreatDoorPk7
import Derived.Test.YtmnancfboococaaGreatDoorPk15
import Derived.Test.YtmnancfboococaaGreatDoorPk23
import Derived.Test.YtmnancfboococaaGreatDoorPk27
set_option linter.all false
namespace Go.Ai
open Go Go.Proofs Go.Num Go.Lib
theorem aNn {q:Rat}(hs:(aA q).size≤2^60):Pure PP 70 [.string (aA q)] (.tuple #[.string (aY q.num),.string (aM q.den),.bool (decide (q.den≠1))]):=by
 have k:=aXs (aA q) hs
 have hl:=mB q
 by_cases h:q.den=1
 ·rw[if_pos h]at hl;rw[hl,yI (rX q.num)]at k;have e1:(⟨(itoa q.num).toArray⟩:ByteArray)=aY q.num:=ba_eq (by rw[dG])
  have e2:(⟨([49]:List UInt8).toArray⟩:ByteArray)=aM q.den:=by rw[h];unfold aM;rw[aS5]
  have e3:decide (q.den≠1)=false:=decide_eq_false (by simp[h])
  rw[e3,←e1,←e2];exact k
 ·rw[if_neg h]at hl;rw[hl,yH (rX q.num)]at k;have e1:(⟨(itoa q.num).toArray⟩:ByteArray)=aY q.num:=ba_eq (by rw[dG])
  have e2:(⟨(decDigits q.den).toArray⟩:ByteArray)=aM q.den:=rfl
  have e3:decide (q.den≠1)=true:=decide_eq_true h
  rw[e3,←e1,←e2];exact k
theorem aKh:aB PP 29:=zK
theorem aU6 {q:Rat}(hs:sz q≤2^34):vZ PP 29 [.one (.s (.v (aA q)))] (.tp [qI q,.one (.b (.l true))]):=by
 have hs1:dl q.num.natAbs≤2^34:=lTr (Nat.le_max_left _ _) hs
 have hs2:dl q.den≤2^34:=lTr (Nat.le_max_right _ _) hs
 have hq1:(aA q).size≤2^60:=lTr (bN q) (by omega)
 have hz1:(aY q.num).size≤2^60:=lTr (kK q.num) (by omega)
 have hz2:(aM q.den).size≤2^60:=by rw[fH];omega
 have ksp:=aNn hq1
 have kv1:=aYm (aY q.num) hz1
 rw[show(wA (aY q.num).data.toList).isSome=true by rw[dG,oH];rfl]at kv1;have kv2:=aJb (aM q.den) hz2
 rw[show isNat (aM q.den).data.toList=true by rw[cT];exact fX _]at kv2;have krd:=bA7 (z:=q.num) (by omega)
 have hdn:=lI q.num.natAbs
 have hdd:=lI q.den
 have hd0:0<q.den:=q.den_pos
 have aW9:Nat.gcd q.num.natAbs q.den=1:=q.reduced
 obtain⟨sg,hsg⟩:∃sg:Int,sg=if decide (q.num<0)then -1 else if q.num.natAbs=0 then 0 else 1:=⟨_,rfl⟩
 have ksg:=aUl (b:=decide (q.num<0)) (n:=q.num.natAbs) hsg
 have aXa:q.den≠1→sg≠0:=fun h=>by
  have hn0:q.num.natAbs≠0:=fun e=>by
   rw[e,Nat.gcd_zero_left]at aW9;exact h aW9
  rw[hsg,if_neg hn0];split<;>decide
 have kfr:∀{X:Nat→Prop} {w:World},(∀b,X b→b<w.heap.size)→Fn PP 74 [.string (aM q.den)] X w (aL q.den):=fun hX=>aU3 (by omega) hX
 have ksm:∀{X:Nat→Prop} {w:World},(∀b,X b→b<w.heap.size)→Fn PP 75 [.int .u32 1] X w (aL 1):=fun hX=>aJa (x:=1) hX (by omega) (by omega)
 have hl1:(aC 1).length≤2^40:=lTr (bP (k:=1) (by decide)) (by decide)
 have kc1:q.den≠1→∀{v u:Value} {X:Nat→Prop} {w:World},(∀b,X b→b<w.heap.size)→(aL q.den).p v X w→(aL 1).p u X w→Fn PP 76 [v,u] X w (dI (.int .i64 1)):=fun h X w v u hX h1 h2=>by
  have:=aMy (n:=q.den) (m:=1) (by omega) hl1 hX h1 h2
  rw[show bZ (q.den:Int) ((1:Nat):Int)=1 by unfold bZ;rw[if_neg (by omega),if_pos (by omega)]]at this;exact this
 have kc2:∀{v u:Value} {X:Nat→Prop} {w:World},(∀b,X b→b<w.heap.size)→(aL 1).p v X w→(aL 1).p u X w→Fn PP 76 [v,u] X w (dI (.int .i64 0)):=fun hX h1 h2=>by
  have:=aMy (n:=1) (m:=1) hl1 hl1 hX h1 h2
  rw[aCl]at this;exact this
 have kcm:∀{v u:Value} {X:Nat→Prop} {w:World},(∀b,X b→b<w.heap.size)→(aL q.num.natAbs).p v X w→(aL q.den).p u X w→Fn PP 77 [v,u] X w (aL 1):=fun hX h1 h2=>by
  have:=aEu aQs (n:=q.num.natAbs) (m:=q.den) (by omega) (by omega) hX h1 h2
  rw[aW9]at this;exact this
 obtain⟨RR,hRR⟩:=nm (RV.tp [qI q,.one (.b (.l true))]);rw[←hRR];unfold qI qR at hRR;unfold zIt zR at krd;unfold zR at ksg;generalize decide (q.num<0)=b at *;generalize q.num.natAbs=n at *;generalize q.den=d at *;generalize aY q.num=s at *;generalize aM d=tx at *;generalize aA q=r at *;obtain⟨R1,hR1⟩:∃R,R=aL n:=⟨_,rfl⟩;obtain⟨R2,hR2⟩:∃R,R=aL d:=⟨_,rfl⟩;obtain⟨RO,hRO⟩:∃R,R=aL 1:=⟨_,rfl⟩;obtain⟨sl,hsl⟩:=nm (decide (d≠1));rw[←hsl]at ksp;rw[←hR1]at hRR krd ksg kcm;rw[←hR2]at hRR kfr kc1 kcm;rw[←hRO]at ksm kc1 kc2 kcm;obtain⟨F,hF⟩:=nm (oP (.sg (.one (.s (.v r)))));refine kC mixed tok Tryz.func29 rfl (by rfl) rfl [F] ⟨hF,trivial⟩ fun c G hG hc hR=>?_
 obtain⟨K,hK⟩:=nm (sK 0 [F]);rw[←hK];refine zN hc ?_;cbv;refine zC hc (.t [.s (.v s),.s (.v tx),.b (.l sl)]) ksp aOp ?_;cbv;refine zC hc (.b (.l true)) kv1 aOw ?_;cbv;refine zC hc (.b (.l true)) kv2 uE ?_;cbv;refine jW hc aSs krd ⟨.s rfl,trivial⟩ (.g [.b (.l b),.ec 2 1]) rfl 100 (fun FB hFB=>?_);cbv;refine dZ (R:=R2) hc aD2 (fun n0 D X μ a w aK H aJ=>?_) 100 ?_
 ·obtain⟨v,rfl,e1⟩:=aV aJ;rw[dN e1];exact kfr H.xlt
 cbv;refine cW 28 .u32 (aC d) rfl rfl (fun X μ a w v' H hv'=>by have h:=H.toP.val (R:=R2) (.head _) hv';rw[hR2]at h;exact h) fun f N cap hN hf dH=>?_
 have m3:∀{K':List KF},KF.at 3 R2::KF.at 2 FB::K=K'→KF.at 2 FB∈K':=fun h=>by rw[←h];exact .tail _ (.head _)
 have jT:∀{K':List KF} {S:St} {X:Nat→Prop} {μ:Mu} {a:Act} {w:World} {v:Value},Sim c K' S X μ a w→KF.at 2 FB∈K'→S.hp[4]?=some (.xi .u32 N f)→aD μ (.t [.g [.b (.l b),.ec 2 1,.sl 4 0 (.n N) cap],.b (.l true)])=some v→G.p v X w:=by
  intro K' S X μ a w v H hm hk hv;obtain⟨vs,q1,rfl⟩:=pC hv;obtain⟨u1,u2,rfl,e1,e2⟩:=bL q1;obtain⟨ws,q2,rfl⟩:=tD e1;obtain⟨v1,v2,v3,rfl,e3,e4,e5⟩:=dV q2;have h3:=H.toP.numRow hk e5 hN hf dH
  rw[hG,hRR];exact⟨_,rfl,⟨[v1,v2,v3],rfl,fN e3,(bT.ec (c:=.x R1) hm hFB rfl).ok H.toP.kf e4,⟨gR h3,by rw[hR2];exact h3⟩,trivial⟩,fN e2,trivial⟩
 cases sl with
 | false=>
  refine zN hc ?_;cbv;exact aS hc hR rfl (fun X μ a w v H hv=>jT H (.tail _ (.head _)) rfl hv)
 | true=>
  have hd1:d≠1:=of_decide_eq_true hsl.symm
  have kc1:=fun {v u X w}=>kc1 hd1 (v:=v) (u:=u) (X:=X) (w:=w)
  have aXa:=aXa hd1
  refine zN hc ?_;cbv;refine dZ (R:=RO) hc zG (fun n0 D X μ a w aK H aJ=>?_) 100 ?_
  ·obtain⟨v,rfl,e1⟩:=aV aJ;rw[cC e1];exact ksm H.xlt
  cbv;refine bJ hc (.i .i64 (.l 1)) wG (fun n0 D X μ a w aK H aJ=>?_) rfl 100 ?_
  ·obtain⟨v,u,rfl,e1,e2⟩:=bL aJ;exact kc1 H.xlt (by rw[hR2];exact H.numRow rfl e1 hN hf dH) (H.val (R:=RO) (.head _) e2)
  cbv;refine jW hc aL8 ksg ⟨⟨.b rfl,.ec (by repeat (first | exact .head _ | apply List.Mem.tail)) hFB rfl,trivial⟩,trivial⟩ (.i .i64 (.v sg)) rfl 100 (fun FS hFS=>?_);cbv;have e0:(BE.not (.eq (.v sg) (.l 0))).den=true:=by show(!decide (sg=0))=true;simp[aXa]
  refine bU hc 45 rfl rfl 100 (fun _=>?_) (fun h=>absurd (e0.symm.trans h) (by decide));cbv;refine dZ (R:=RO) hc wH (fun n0 D X μ a w aK H aJ=>?_) 100 ?_
  ·obtain⟨v,u,rfl,e1,e2⟩:=bL aJ;exact kcm H.xlt (((bT.ec (c:=.x R1) (F:=FB) (by repeat (first | exact .head _ | apply List.Mem.tail)) hFB rfl).ok H.kf e1).2) (by rw[hR2];exact H.numRow rfl e2 hN hf dH)
  cbv;refine bJ hc (.i .i64 (.l 0)) wG (fun n0 D X μ a w aK H aJ=>?_) rfl 100 ?_
  ·obtain⟨v,u,rfl,e1,e2⟩:=bL aJ;exact kc2 H.xlt (H.val (R:=RO) (by repeat (first | exact .head _ | apply List.Mem.tail)) e1) (H.val (R:=RO) (by repeat (first | exact .head _ | apply List.Mem.tail)) e2)
  cbv;exact aS hc hR rfl (fun X μ a w v H hv=>jT H (by repeat (first | exact .head _ | apply List.Mem.tail)) rfl hv)
theorem aSp:aB PP 17:=zK
theorem bAt {x y:Rat}(hx:sz x≤2^34)(hy:sz y≤2^34):vZ PP 17 [.one (.s (.v (aA x))),.one (.s (.v (aA y)))] (.tp [qI x,qI y,.one (.i .i64 (.l 0))]):=by
 have kx:=aU6 hx
 have ky:=aU6 hy
 unfold qI qR at *;obtain⟨R1,hR1⟩:∃R,R=aL x.num.natAbs:=⟨_,rfl⟩;obtain⟨R2,hR2⟩:∃R,R=aL x.den:=⟨_,rfl⟩;obtain⟨R3,hR3⟩:∃R,R=aL y.num.natAbs:=⟨_,rfl⟩;obtain⟨R4,hR4⟩:∃R,R=aL y.den:=⟨_,rfl⟩;rw[←hR1,←hR2,←hR3,←hR4];rw[←hR1,←hR2]at kx;rw[←hR3,←hR4]at ky;generalize decide (x.num<0)=b1 at *;generalize decide (y.num<0)=b2 at *;generalize aA x=s at *;generalize aA y=u at *;obtain⟨F1,hF1⟩:∃F,F=oP (.sg (.one (.s (.v s)))):=⟨_,rfl⟩;obtain⟨F2,hF2⟩:∃F,F=oP (.sg (.one (.s (.v u)))):=⟨_,rfl⟩;refine kC mixed tok Tryz.func17 rfl (by rfl) rfl [F1,F2] ⟨hF1,hF2,trivial⟩ fun c G hG hc hR=>?_
 obtain⟨K,hK⟩:=nm (sK 0 [F1,F2]);rw[←hK];refine zN hc ?_;cbv;refine jW hc aKh kx ⟨.s rfl,trivial⟩ (.t [.g [.b (.l b1),.ec 4 1,.ec 4 2],.b (.l true)]) rfl 100 (fun FA hFA=>?_);cbv;refine jW hc aKh ky ⟨.s rfl,trivial⟩ (.t [.g [.b (.l b2),.ec 6 1,.ec 6 2],.b (.l true)]) rfl 3 (fun FB hFB=>?_);cbv;refine aVb hc 0 100 ?_;cbv;refine yT hc (by kernel_rfl) (by decide) ?_;cbv
 repeat' (first
  | (refine bR [0,1] (by decide+kernel) rfl (fun i hi=>?_);simp only[List.mem_cons,List.not_mem_nil,or_false]at hi;rcases hi with rfl | rfl<;>(refine⟨_,rfl,rfl,?_⟩;refine gA hc 2 ?_;cbv))
  | (refine bR [1,2] (by decide+kernel) rfl (fun i hi=>?_);simp only[List.mem_cons,List.not_mem_nil,or_false]at hi;rcases hi with rfl | rfl<;>(refine⟨_,rfl,rfl,?_⟩;refine gA hc 2 ?_;cbv))
  | (refine bR [1] (by decide+kernel) rfl (fun i hi=>?_);obtain rfl:=List.mem_singleton.1 hi;refine⟨_,rfl,rfl,?_⟩;refine gA hc 2 ?_;cbv)
  | (refine bR [0] (by decide+kernel) rfl (fun i hi=>?_);obtain rfl:=List.mem_singleton.1 hi;refine⟨_,rfl,rfl,?_⟩;refine gA hc 2 ?_;cbv)
  | (refine bR [2] (by decide+kernel) rfl (fun i hi=>?_);obtain rfl:=List.mem_singleton.1 hi;refine⟨_,rfl,rfl,?_⟩;refine gA hc 2 ?_;cbv)
  | (refine bR [3] (by decide+kernel) rfl (fun i hi=>?_);obtain rfl:=List.mem_singleton.1 hi;refine⟨_,rfl,rfl,?_⟩;refine gA hc 2 ?_;cbv)
  | (refine bR [4] (by decide+kernel) rfl (fun i hi=>?_);obtain rfl:=List.mem_singleton.1 hi;refine⟨_,rfl,rfl,?_⟩;refine gA hc 2 ?_;cbv)
  | (refine tR (by decide+kernel) rfl ?_;refine zN hc ?_;cbv))
 all_goals exact iV hc hG hR rfl ⟨⟨.b rfl,.ec (.tail _ (.head _)) hFA rfl,.ec (.tail _ (.head _)) hFA rfl,trivial⟩,⟨.b rfl,.ec (.head _) hFB rfl,.ec (.head _) hFB rfl,trivial⟩,.i rfl,trivial⟩
end Go.Ai
namespace Go.Ai
open Go Go.Proofs Go.Num V3
theorem aOg:aB PP 41:=zK
theorem bAh {x y:Rat}(hx:sz x≤2^34)(hy:sz y≤2^34):vZ PP 41 [.one (.s (.v (aA x))),.one (.s (.v (aA y)))] (.tp [.one (.s (.v (aA (x+y)))),.one (.b (.l true))]):=by
 have dn:∀{q:Rat} {k:Nat},sz q≤k→(aC q.num.natAbs).length≤k∧(aC q.den).length≤k:=fun {q} {k} h=>⟨lTr (lI _) (lTr (Nat.le_max_left _ _) h),lTr (lI _) (lTr (Nat.le_max_right _ _) h)⟩
 have hs:sz (x+y)≤2^34+2^34+1:=lTr (sz_aa hx hy) (by omega)
 have k1:=bAt hx hy
 have k2:=bC8 (a:=x) (b:=y) (dn hx).1 (dn hy).1 (dn hx).2 (dn hy).2
 have k3:=qTo (q:=x+y) (lTr (dn hs).1 (by omega)) (lTr (dn hs).2 (by omega)) (lTr hs (by omega))
 generalize x+y=z at *;unfold qI qR at *;obtain⟨R1,hR1⟩:∃R,R=aL x.num.natAbs:=⟨_,rfl⟩;obtain⟨R2,hR2⟩:∃R,R=aL x.den:=⟨_,rfl⟩;obtain⟨R3,hR3⟩:∃R,R=aL y.num.natAbs:=⟨_,rfl⟩;obtain⟨R4,hR4⟩:∃R,R=aL y.den:=⟨_,rfl⟩;obtain⟨R5,hR5⟩:∃R,R=aL z.num.natAbs:=⟨_,rfl⟩;obtain⟨R6,hR6⟩:∃R,R=aL z.den:=⟨_,rfl⟩;rw[←hR1,←hR2,←hR3,←hR4]at k1;rw[←hR1,←hR2,←hR3,←hR4,←hR5,←hR6]at k2;rw[←hR5,←hR6]at k3;generalize decide (x.num<0)=b1 at *;generalize decide (y.num<0)=b2 at *;generalize decide (z.num<0)=b3 at *;generalize aA x=s at *;generalize aA y=u at *;generalize aA z=t at *;obtain⟨F1,hF1⟩:∃F,F=oP (.sg (.one (.s (.v s)))):=⟨_,rfl⟩;obtain⟨F2,hF2⟩:∃F,F=oP (.sg (.one (.s (.v u)))):=⟨_,rfl⟩;refine kC mixed tok Tryz.func41 rfl (by rfl) rfl [F1,F2] ⟨hF1,hF2,trivial⟩ fun c G hG hc hR=>?_
 obtain⟨K,hK⟩:=nm (sK 0 [F1,F2]);rw[←hK];refine zN hc ?_;cbv;refine jW hc aSp k1 ⟨.s rfl,.s rfl,trivial⟩ (.t [.g [.b (.l b1),.ec 2 1,.ec 2 2],.g [.b (.l b2),.ec 2 4,.ec 2 5],.i .i64 (.l 0)]) rfl 100 (fun FA hFA=>?_);cbv;refine jW hc aV0 k2 ⟨⟨.b rfl,.ec (.head _) hFA rfl,.ec (.head _) hFA rfl,trivial⟩,⟨.b rfl,.ec (.head _) hFA rfl,.ec (.head _) hFA rfl,trivial⟩,trivial⟩ (.g [.b (.l b3),.ec 5 1,.ec 5 2]) rfl 100 (fun FB hFB=>?_);cbv;refine jW hc aYx k3 ⟨⟨.b rfl,.ec (.head _) hFB rfl,.ec (.head _) hFB rfl,trivial⟩,trivial⟩ (.s (.v t)) rfl 100 (fun FC hFC=>?_);cbv;exact iV hc hG hR rfl ⟨.s rfl,.b rfl,trivial⟩
structure Rets (r:Raw)(l:List Tri)(tv te:ByteArray)(e:Int):Prop where
 vol:∀{X:Nat→Prop} {w:World} {v:Value},(∀b,X b→b<w.heap.size)→(rowS r.N r.L).p v X w→Fn PP 19 [v,r.attV,.string r.d] X w (dI (.tuple #[.string tv,.int .i64 e]))
 eme:∀{X:Nat→Prop} {w:World} {v:Value},(∀b,X b→b<w.heap.size)→(rowS r.N r.L).p v X w→Fn PP 39 [v,r.attV,.string r.d] X w (dI (.tuple #[.string te,.int .i64 e]))
 res:(e≠0∧tv=⟨#[]⟩∧te=⟨#[]⟩)∨(e=0∧∃x y:Rat,tv=aA x∧te=aA y∧sz x≤2^34∧sz y≤2^34∧x+y=vY l)
theorem bAv {r:Raw}{l:List Tri}(h:Out r l)(hL:r.L.length=9*r.N):∃tv te e,Rets r l tv te e:=by
 cases h with
 | bad e he=>exact⟨_,_,e,fun hX hv=>aGb he hL hX hv,fun hX hv=>aEh he hL hX hv,.inl ⟨he.ne,rfl,rfl⟩⟩
 | ok p hg hp hl hn=>
  have hlen:l.length=r.N:=by
   have:=hL
   rw[hg.eq,eQ]at this;omega
  have hb:=(aMt hp hl (by omega)).1
  have hvs:sz (vY l)≤2^29:=by
   have h1:=oM hl l.length (lRf _)
   rw[List.take_of_length_le (lRf _)]at h1;have h2:l.length*(15*2^9+6)≤245952:=lTr (Nat.mul_le_mul_right (15*2^9+6) (show l.length≤32 by omega)) (by decide)
   refine lTr (sz_mm h1 sz6) ?_;generalize l.length*(15*2^9+6)=z at h2 ⊢;omega
  exact⟨_,_,0,fun hX hv=>aAh hg hp hl (by omega) hL hX hv,fun hX hv=>aGa hg hp hl (by omega) hL hb hX hv,.inr ⟨rfl,_,_,rfl,rfl,lTr hb (by decide),lTr (sz_ss hvs hb) (by decide),by grind⟩⟩
set_option maxHeartbeats 0 in
theorem lAdds {L:List ByteArray}{N:Nat}(hL:L.length=9*N)(hN:N≤2^62)(h0 t0 h1 t1 d0 d1:ByteArray){X:Nat→Prop}{w:World}{v:Value}(hX:∀b,X b→b<w.heap.size)(hv:(rowS N L).p v X w):
  Fn PP 9 [v,.agg #[.string h0,.string t0,.string h1,.string t1],.agg #[.string d0,.string d1]] X w (dI (.bool true)):=by
 have kS:∀{X:Nat→Prop} {w:World} {v:Value},(∀b,X b→b<w.heap.size)→(rowS N L).p v X w→Fn PP 46 [v] X w (dI (.bool (shS L N))):=fun hX hv=>aTh hL hN hX hv
 obtain⟨RS,hRS⟩:=nm (rowS N L);rw[←hRS]at hv kS;have ks0:=tG d0
 have ks1:=tG d1
 have ka0:=aK0 h0 t0
 have ka1:=aK0 h1 t1
 obtain⟨R,hRR⟩:=nm (dI (.bool true));rw[←hRR];obtain⟨K,hK⟩:=nm ([KF.cst v RS]);have mK:KF.cst v RS∈K:=by rw[hK];exact .head _
 refine bE mixed tok [.q v,.g [.s (.v h0),.s (.v t0),.s (.v h1),.s (.v t1)],.g [.s (.v d0),.s (.v d1)]] (K:=K) Tryz.func9 rfl rfl (lbl rfl) rfl hX (by rw[hK];simp;exact hv) fun c hc hR=>?_
 have aGn:∀{K':List KF} {S:St} {X:Nat→Prop} {μ:Mu} {a:Act} {w:World} {v:Value},Sim c K' S X μ a w→aD μ (.b (.l true))=some v→R.p v X w:=fun H hv=>by
  rw[hRR];exact fN hv
 refine zN hc ?_;cbv;refine bJ hc (.b (.l true)) aOe (fun n0 D X μ a w aK H hv=>?_) rfl 100 ?_
 ·rw[←(Option.some.inj hv)];exact aXk H.xlt
 cbv;obtain⟨q0,hq0⟩:∃q,q=sh d0:=⟨_,rfl⟩;obtain⟨q1,hq1⟩:∃q,q=sh d1:=⟨_,rfl⟩;obtain⟨a0,ha0⟩:∃q,q=(sh h0&&sh t0):=⟨_,rfl⟩;obtain⟨a1,ha1⟩:∃q,q=(sh h1&&sh t1):=⟨_,rfl⟩;obtain⟨sS,hsS⟩:∃q,q=shS L N:=⟨_,rfl⟩;rw[←hq0]at ks0;rw[←hq1]at ks1;rw[←ha0]at ka0;rw[←ha1]at ka1;rw[←hsS]at kS;refine cN hc Tryz.func12 rfl rfl aOf rfl (fun c' tm FR hFR hc' Lk=>?_);refine zN hc' ?_;cbv;refine aW 2 (fun p hp=>?_);refine hp _ _ _ ?_;refine zN hc' ?_;cbv;refine zC hc' (.b (.l q0)) ks0 fS ?_;cbv;cases q0 with
 | false=>
  refine zN hc' ?_;cbv;refine cM hc' Lk hFR (by repeat (first | exact .head _ | apply List.Mem.tail)) rfl ?_;refine zN hc ?_;cbv;exact aS hc hR rfl (fun X μ a w v H hv=>aGn H hv)
 | true=>
 refine zN hc' ?_;cbv;refine hp _ _ _ ?_;refine zN hc' ?_;cbv;refine bJ hc' (.b (.l sS)) aCc (fun n0 D X μ a w aK H aJ=>?_) rfl 100 ?_
 ·obtain⟨u,rfl,e'⟩:=aV aJ;rw[bO e'];exact kS H.xlt (H.cst (by repeat (first | exact mK | apply List.Mem.tail)))
 cbv;cases sS with
 | false=>
  refine zN hc' ?_;cbv;refine cM hc' Lk hFR (by repeat (first | exact .head _ | apply List.Mem.tail)) rfl ?_;refine zN hc ?_;cbv;exact aS hc hR rfl (fun X μ a w v H hv=>aGn H hv)
 | true=>
 refine zN hc' ?_;cbv;refine zC hc' (.b (.l a0)) ka0 aCb ?_;cbv;cases a0 with
 | false=>
  refine zN hc' ?_;cbv;refine cM hc' Lk hFR (by repeat (first | exact .head _ | apply List.Mem.tail)) rfl ?_;refine zN hc ?_;cbv;exact aS hc hR rfl (fun X μ a w v H hv=>aGn H hv)
 | true=>
 refine zN hc' ?_;cbv;refine cM hc' Lk hFR (by repeat (first | exact .head _ | apply List.Mem.tail)) rfl ?_;refine zN hc ?_;cbv;refine cN hc Tryz.func12 rfl rfl aOf rfl (fun c' tm FR hFR hc' Lk=>?_);refine zN hc' ?_;cbv;refine aW 2 (fun p hp=>?_);refine hp _ _ _ ?_;refine zN hc' ?_;cbv;refine zC hc' (.b (.l q1)) ks1 fS ?_;cbv;cases q1 with
 | false=>
  refine zN hc' ?_;cbv;refine cM hc' Lk hFR (by repeat (first | exact .head _ | apply List.Mem.tail)) rfl ?_;refine zN hc ?_;cbv;exact aS hc hR rfl (fun X μ a w v H hv=>aGn H hv)
 | true=>
 refine zN hc' ?_;cbv;refine hp _ _ _ ?_;refine zN hc' ?_;cbv;refine bJ hc' (.b (.l true)) aCc (fun n0 D X μ a w aK H aJ=>?_) rfl 100 ?_
 ·obtain⟨u,rfl,e'⟩:=aV aJ;rw[bO e'];exact kS H.xlt (H.cst (by repeat (first | exact mK | apply List.Mem.tail)))
 cbv;refine zN hc' ?_;cbv;refine zC hc' (.b (.l a1)) ka1 aCb ?_;cbv;cases a1 with
 | false=>
  refine zN hc' ?_;cbv;refine cM hc' Lk hFR (by repeat (first | exact .head _ | apply List.Mem.tail)) rfl ?_;refine zN hc ?_;cbv;exact aS hc hR rfl (fun X μ a w v H hv=>aGn H hv)
 | true=>
 refine zN hc' ?_;cbv;refine cM hc' Lk hFR (by repeat (first | exact .head _ | apply List.Mem.tail)) rfl ?_;refine zN hc ?_;cbv;have sd0:sh d0=true:=hq0.symm
 have sd1:sh d1=true:=hq1.symm
 have sa0:=Bool.and_eq_true_iff.1 ha0.symm
 have sa1:=Bool.and_eq_true_iff.1 ha1.symm
 obtain⟨l,ho⟩:=bC7 hL hsS.symm;obtain⟨v0,u0,e0,r0⟩:=bAv (ho h0 t0 d0 sa0.1 sa0.2 sd0) hL;obtain⟨v1,u1,e1,r1⟩:=bAv (ho h1 t1 d1 sa1.1 sa1.2 sd1) hL;have kv0:∀{X:Nat→Prop} {w:World} {v:Value},(∀b,X b→b<w.heap.size)→RS.p v X w→Fn PP 19 [v,.agg #[.string h0,.string t0],.string d0] X w (dI (.tuple #[.string v0,.int .i64 e0])):=fun hX hv=>by rw[hRS]at hv;exact r0.vol hX hv
 have kv1:∀{X:Nat→Prop} {w:World} {v:Value},(∀b,X b→b<w.heap.size)→RS.p v X w→Fn PP 19 [v,.agg #[.string h1,.string t1],.string d1] X w (dI (.tuple #[.string v1,.int .i64 e1])):=fun hX hv=>by rw[hRS]at hv;exact r1.vol hX hv
 have ke0:∀{X:Nat→Prop} {w:World} {v:Value},(∀b,X b→b<w.heap.size)→RS.p v X w→Fn PP 39 [v,.agg #[.string h0,.string t0],.string d0] X w (dI (.tuple #[.string u0,.int .i64 e0])):=fun hX hv=>by rw[hRS]at hv;exact r0.eme hX hv
 have ke1:∀{X:Nat→Prop} {w:World} {v:Value},(∀b,X b→b<w.heap.size)→RS.p v X w→Fn PP 39 [v,.agg #[.string h1,.string t1],.string d1] X w (dI (.tuple #[.string u1,.int .i64 e1])):=fun hX hv=>by rw[hRS]at hv;exact r1.eme hX hv
 have c0:=r0.res
 have c1:=r1.res
 have bDs:N≤513:=by
  have h:=hsS.symm
  unfold shS at h
  rcases Bool.or_eq_true_iff.1 h with h | h
  ·have:=of_decide_eq_true h;omega
  ·have:=of_decide_eq_true (Bool.and_eq_true_iff.1 h).2;omega
 have kc:∀{X:Nat→Prop} {w:World} {v:Value},RS.p v X w→Fn PP 14 [v] X w RS:=fun {X} {w} {v} hv=>by
  rw[hRS]at hv ⊢;exact aQ2 hL (by omega) hv
 clear r0 r1 ho;obtain⟨tt,htt⟩:=nm (aA (vY l));refine aW 3 (fun p hp=>?_)
 rcases c0 with⟨hne,y1,y2⟩ | ⟨z0,x,y,y1,y2,z1,z2,z3⟩
 ·subst y1;subst y2;refine hp _ _ _ ?_;refine zN hc ?_;cbv;refine fZ hc (R:=RS) gN (fun D X μ a w aK H hv=>?_) 100 ?_
  ·obtain⟨u,rfl,e⟩:=aV hv;rw[bO e];exact kc (H.cst (by repeat (first | exact mK | apply List.Mem.tail)))
  cbv;refine jR hc (.t [.s (.v ⟨#[]⟩),.i .i64 (.v e0)]) nW (fun D X μ a w aK H hv=>?_) rfl 100 ?_
  ·obtain⟨w1,w2,w3,rfl,e1,e2,e3⟩:=dV hv;rw[show w2=_ from(Option.some.inj e2).symm,show w3=_ from(Option.some.inj e3).symm];exact kv0 H.xlt (H.val (R:=RS) (.head _) e1)
  cbv;refine bX hc _ rfl rfl rfl rfl rfl 0 ?_;cbv;refine bX hc _ rfl rfl rfl rfl rfl 0 ?_;cbv;refine zE hc ?_;cbv;refine fZ hc (R:=RS) gN (fun D X μ a w aK H hv=>?_) 100 ?_
  ·obtain⟨u,rfl,e⟩:=aV hv;rw[bO e];exact kc (H.cst (by repeat (first | exact mK | apply List.Mem.tail)))
  cbv;refine jR hc (.t [.s (.v ⟨#[]⟩),.i .i64 (.v e0)]) oW (fun D X μ a w aK H hv=>?_) rfl 100 ?_
  ·obtain⟨w1,w2,w3,rfl,e1,e2,e3⟩:=dV hv;rw[show w2=_ from(Option.some.inj e2).symm,show w3=_ from(Option.some.inj e3).symm];exact ke0 H.xlt (H.val (R:=RS) (.head _) e1)
  cbv;refine bX hc _ rfl rfl rfl rfl rfl 0 ?_;cbv;refine bX hc _ rfl rfl rfl rfl rfl 0 ?_;cbv;refine zE hc ?_;cbv;have b0:(BE.not (.eq (.v e0) (.l 0))).den=true:=by show(!decide (e0=0))=true;simp[hne]
  have b1:(BE.eq (.v e0) (.v e0)).den=true:=decide_eq_true rfl
  refine bU hc 63 rfl rfl 100 (fun _=>?_) (fun h=>absurd (b0.symm.trans h) (by decide));cbv;refine bU hc 70 rfl rfl 100 (fun _=>?_) (fun h=>absurd (b1.symm.trans h) (by decide));cbv;refine bU hc 74 rfl rfl 100 (fun _=>?_) (fun h=>absurd h (by decide+kernel));cbv;refine aS hc hR rfl (fun X μ a w v' H hv'=>?_);rw[hRR,fN hv'];exact congrArg Value.bool (by decide+kernel)
 ·have hxy:vZ PP 41 [.one (.s (.v v0)),.one (.s (.v u0))] (.tp [.one (.s (.v tt)),.one (.b (.l true))]):=by
   have:=bAh z1 z2
   rw[z3,←htt,←y1,←y2]at this;exact this
  subst z0;have ks0:=hxy
  clear hxy y1 y2;refine hp _ _ _ ?_;refine zN hc ?_;cbv;refine fZ hc (R:=RS) gN (fun D X μ a w aK H hv=>?_) 100 ?_
  ·obtain⟨u,rfl,e⟩:=aV hv;rw[bO e];exact kc (H.cst (by repeat (first | exact mK | apply List.Mem.tail)))
  cbv;refine jR hc (.t [.s (.v v0),.i .i64 (.l 0)]) nW (fun D X μ a w aK H hv=>?_) rfl 100 ?_
  ·obtain⟨w1,w2,w3,rfl,e1,e2,e3⟩:=dV hv;rw[show w2=_ from(Option.some.inj e2).symm,show w3=_ from(Option.some.inj e3).symm];exact kv0 H.xlt (H.val (R:=RS) (.head _) e1)
  cbv;refine bX hc _ rfl rfl rfl rfl rfl 0 ?_;cbv;refine bX hc _ rfl rfl rfl rfl rfl 0 ?_;cbv;refine zE hc ?_;cbv;refine fZ hc (R:=RS) gN (fun D X μ a w aK H hv=>?_) 100 ?_
  ·obtain⟨u,rfl,e⟩:=aV hv;rw[bO e];exact kc (H.cst (by repeat (first | exact mK | apply List.Mem.tail)))
  cbv;refine jR hc (.t [.s (.v u0),.i .i64 (.l 0)]) oW (fun D X μ a w aK H hv=>?_) rfl 100 ?_
  ·obtain⟨w1,w2,w3,rfl,e1,e2,e3⟩:=dV hv;rw[show w2=_ from(Option.some.inj e2).symm,show w3=_ from(Option.some.inj e3).symm];exact ke0 H.xlt (H.val (R:=RS) (.head _) e1)
  cbv;refine bX hc _ rfl rfl rfl rfl rfl 0 ?_;cbv;refine bX hc _ rfl rfl rfl rfl rfl 0 ?_;cbv;refine zE hc ?_;cbv;refine jW hc aOg ks0 ⟨.s rfl,.s rfl,trivial⟩ (.t [.s (.v tt),.b (.l true)]) rfl 100 (fun FS0 bDp=>?_);cbv
  rcases c1 with⟨hne,y1,y2⟩ | ⟨z0,x,y,y1,y2,z1,z2,z3⟩
  ·subst y1;subst y2;refine hp _ _ _ ?_;refine zN hc ?_;cbv;refine fZ hc (R:=RS) gN (fun D X μ a w aK H hv=>?_) 100 ?_
   ·obtain⟨u,rfl,e⟩:=aV hv;rw[bO e];exact kc (H.cst (by repeat (first | exact mK | apply List.Mem.tail)))
   cbv;refine jR hc (.t [.s (.v ⟨#[]⟩),.i .i64 (.v e1)]) nW (fun D X μ a w aK H hv=>?_) rfl 100 ?_
   ·obtain⟨w1,w2,w3,rfl,e1,e2,e3⟩:=dV hv;rw[show w2=_ from(Option.some.inj e2).symm,show w3=_ from(Option.some.inj e3).symm];exact kv1 H.xlt (H.val (R:=RS) (.head _) e1)
   cbv;refine bX hc _ rfl rfl rfl rfl rfl 0 ?_;cbv;refine bX hc _ rfl rfl rfl rfl rfl 0 ?_;cbv;refine zE hc ?_;cbv;refine fZ hc (R:=RS) gN (fun D X μ a w aK H hv=>?_) 100 ?_
   ·obtain⟨u,rfl,e⟩:=aV hv;rw[bO e];exact kc (H.cst (by repeat (first | exact mK | apply List.Mem.tail)))
   cbv;refine jR hc (.t [.s (.v ⟨#[]⟩),.i .i64 (.v e1)]) oW (fun D X μ a w aK H hv=>?_) rfl 100 ?_
   ·obtain⟨w1,w2,w3,rfl,e1,e2,e3⟩:=dV hv;rw[show w2=_ from(Option.some.inj e2).symm,show w3=_ from(Option.some.inj e3).symm];exact ke1 H.xlt (H.val (R:=RS) (.head _) e1)
   cbv;refine bX hc _ rfl rfl rfl rfl rfl 0 ?_;cbv;refine bX hc _ rfl rfl rfl rfl rfl 0 ?_;cbv;refine zE hc ?_;cbv;have b0:(BE.not (.eq (.v e1) (.l 0))).den=true:=by show(!decide (e1=0))=true;simp[hne]
   have b1:(BE.eq (.v e1) (.v e1)).den=true:=decide_eq_true rfl
   refine bU hc 63 rfl rfl 100 (fun _=>?_) (fun h=>absurd (b0.symm.trans h) (by decide));cbv;refine bU hc 70 rfl rfl 100 (fun _=>?_) (fun h=>absurd (b1.symm.trans h) (by decide));cbv;refine bU hc 74 rfl rfl 100 (fun _=>?_) (fun h=>absurd h (by decide+kernel));cbv;refine aS hc hR rfl (fun X μ a w v' H hv'=>?_);rw[hRR,fN hv'];exact congrArg Value.bool (by decide+kernel)
  ·have hxy:vZ PP 41 [.one (.s (.v v1)),.one (.s (.v u1))] (.tp [.one (.s (.v tt)),.one (.b (.l true))]):=by
    have:=bAh z1 z2
    rw[z3,←htt,←y1,←y2]at this;exact this
   subst z0;have ks1:=hxy
   clear hxy y1 y2;refine hp _ _ _ ?_;refine zN hc ?_;cbv;refine fZ hc (R:=RS) gN (fun D X μ a w aK H hv=>?_) 100 ?_
   ·obtain⟨u,rfl,e⟩:=aV hv;rw[bO e];exact kc (H.cst (by repeat (first | exact mK | apply List.Mem.tail)))
   cbv;refine jR hc (.t [.s (.v v1),.i .i64 (.l 0)]) nW (fun D X μ a w aK H hv=>?_) rfl 100 ?_
   ·obtain⟨w1,w2,w3,rfl,e1,e2,e3⟩:=dV hv;rw[show w2=_ from(Option.some.inj e2).symm,show w3=_ from(Option.some.inj e3).symm];exact kv1 H.xlt (H.val (R:=RS) (.head _) e1)
   cbv;refine bX hc _ rfl rfl rfl rfl rfl 0 ?_;cbv;refine bX hc _ rfl rfl rfl rfl rfl 0 ?_;cbv;refine zE hc ?_;cbv;refine fZ hc (R:=RS) gN (fun D X μ a w aK H hv=>?_) 100 ?_
   ·obtain⟨u,rfl,e⟩:=aV hv;rw[bO e];exact kc (H.cst (by repeat (first | exact mK | apply List.Mem.tail)))
   cbv;refine jR hc (.t [.s (.v u1),.i .i64 (.l 0)]) oW (fun D X μ a w aK H hv=>?_) rfl 100 ?_
   ·obtain⟨w1,w2,w3,rfl,e1,e2,e3⟩:=dV hv;rw[show w2=_ from(Option.some.inj e2).symm,show w3=_ from(Option.some.inj e3).symm];exact ke1 H.xlt (H.val (R:=RS) (.head _) e1)
   cbv;refine bX hc _ rfl rfl rfl rfl rfl 0 ?_;cbv;refine bX hc _ rfl rfl rfl rfl rfl 0 ?_;cbv;refine zE hc ?_;cbv;refine jW hc aOg ks1 ⟨.s rfl,.s rfl,trivial⟩ (.t [.s (.v tt),.b (.l true)]) rfl 100 (fun FS1 bDq=>?_);cbv;refine hp _ _ _ ?_;refine zN hc ?_;cbv;refine aS hc hR rfl (fun X μ a w v' H hv'=>?_);rw[hRR,fN hv'];exact congrArg Value.bool (by rw[vO];simp)
end Go.Ai
namespace Go.Proofs.YtmnancfboococaaGreatDoor
open Go Go.ChangeShapes Go.WideShapes Go.ChangeAt Go.WideElems Go.RowKit
section
variable {H:Type}{enc:TypeId × Value→H}
theorem aH2 {a:Assume}{C:Checked}{os:Os}{f:FuncId}{fn:Func}{s:ChangeSpec}{conds:List PathCond}{apart fresh aK1 again:Bool}{X:World→Array Value→Prop}
  (hX:∀(w w':World) (args:Array Value),w.heap=w'.heap→X w args→X w' args)
  (own:ownKnob C.prog.godebug=none) (started:os.Started) (noInit:C.prog.inits.idxOf? f=none) (hfn:C.prog.funcs[f]?=some fn)
  (witness:∃(w:World) (tape:Tape) (i:Input),w.os=os∧(w.forCall tape i).Shaped C.prog∧i.vars=[]∧Input.okWide C.prog (w.forCall tape i) .any w.heap.size f i∧
   ((s.pre enc C.prog fn conds apart (w.forCall tape i).memory i.args∧X (w.forCall tape i).memory i.args)∧sizedMet enc C.prog fn (OpenSpec.ofChange s) apart (w.forCall tape i).memory i.args)∧a.holds C.prog (lone (Frame.enter C.prog f i.args .normal) [] (w.forCall tape i)))
  (contract:∀(W:World) (base:Nat) (args:Array Value) (ds gs:List (DataW H)) (before:List MemPlace),
   (∀(j:Nat) t v,fn.params[j]?=some t→args[j]?=some v→Value.okWide C.prog W .any base t v)→
   DataW.Whole enc C.prog fn.params.toList s.vars apart W args.toList ds gs before→
   (DataW.weightsEach C.prog (fn.params.toList++s.plain.varTypes C.prog) (ds++gs)).all (·≤reachBytes)=true→X W args→W.ShapedOpen C.prog→
   Calls C.prog f args W fun e W'=>∃v,e=.returned v∧s.post enc C.prog fn apart fresh aK1 again W args v W'):
  ReturnsInHanded a C os f .any (fun w args=>(s.pre enc C.prog fn conds apart w args∧X w args)∧sizedMet enc C.prog fn (OpenSpec.ofChange s) apart w args) (s.post enc C.prog fn apart fresh aK1 again):=by
 refine returnsInHanded_of_calls own started noInit witness ?_;intro w tape i _ hsh _ hok aQb bCb;obtain⟨_,_,_,fn',bB7,_,_,_,_,sJ⟩:=hok;have e:fn'=fn:=Option.some.inj (bB7.symm.trans hfn)
 subst e;obtain⟨⟨⟨ds,gs,before,hw,hc⟩,hx⟩,hz⟩:=aQb;have hw':=DataW.Whole.of_heap (w':=w.forCall tape i) (by rfl) hw
 refine(contract (w.forCall tape i) w.heap.size i.args ds gs before sJ hw' (hz.weights hw) (hX _ _ _ (by rfl) hx) hsh).mono fun e W' ⟨v,he,hp⟩=>?_
 subst he;exact ChangeSpec.post_blind hp
variable {W w:World}{base:Nat}{sp:Nat→Bool}{held:Bool}{n:Nat}{cs:List Value}{x:DataW H × List MemPlace}
theorem c24:Tryz.prog.cellsOf 24=1:=by kernel_rfl
theorem c36:Tryz.prog.cellsOf 36=3:=by kernel_rfl
theorem c38:Tryz.prog.cellsOf 38=9:=by kernel_rfl
theorem c26:Tryz.prog.cellsOf 26=2:=by kernel_rfl
theorem c78:Tryz.prog.cellsOf 78=4:=by kernel_rfl
theorem c40:Tryz.prog.cellsOf 40=2:=by kernel_rfl
theorem b38:1≤Tryz.prog.bytesOf 38:=of_decide_eq_true (by kernel_rfl)
theorem nth {cs:List Value}{a n k:Nat}{x:Value}(hk:k<n)(e:(((cs.drop a).take n).drop k).take 1=[x]):cs[a+k]?=some x:=by
 have:=congrArg (·[0]?) e
 simpa[List.getElem?_take,List.getElem?_drop,hk]using this
theorem aNr (h:DataW.trod enc Tryz.prog w base sp held n 38 cs=some x):∀j,j<9→∃s:ByteArray,cs[j]?=some (.string s):=by
 obtain⟨xs,m,_,_,_,hn,hel⟩:=DataW.trod_array Tryz.underlying38 h;intro j hj;have h1:=hel (j/3) (by omega)
 rw[List.getElem?_eq_getElem (show j/3<xs.length by omega),c36]at h1;obtain⟨y0,y1,y2,k,_,_,e0,e1,e2⟩:=Deep.trod_struct3 Tryz.underlying36 h1
 dsimp only at e0 e1 e2
 rw[c24]at e0 e1 e2;have hm:j%3=0∨j%3=1∨j%3=2:=by omega
 rcases hm with hm | hm | hm
 ·obtain⟨s,e,_⟩:=DataW.trod_string Tryz.underlying24 e0;exact⟨s,by have:=nth (by decide) e;rwa [show j/3*3+0=j by omega]at this⟩
 ·obtain⟨s,e,_⟩:=DataW.trod_string Tryz.underlying24 e1;exact⟨s,by have:=nth (by decide) e;rwa [show j/3*3+1=j by omega]at this⟩
 ·obtain⟨s,e,_⟩:=DataW.trod_string Tryz.underlying24 e2;exact⟨s,by have:=nth (by decide) e;rwa [show j/3*3+2=j by omega]at this⟩
theorem aLx (h:DataW.trod enc Tryz.prog w base sp held n 78 cs=some x):∃a b c d:ByteArray,cs=[.string a,.string b,.string c,.string d]:=by
 obtain⟨xs,m,_,_,hl,hn,hel⟩:=DataW.trod_array Tryz.underlying78 h;rw[c78]at hl;have one:∀i,i<2→(∃s:ByteArray,cs[i*2]?=some (.string s))∧∃s:ByteArray,cs[i*2+1]?=some (.string s):=by
  intro i hi;have h1:=hel i hi
  rw[List.getElem?_eq_getElem (show i<xs.length by omega),c26]at h1;obtain⟨y0,y1,k,_,_,e0,e1⟩:=trod_struct2 Tryz.underlying26 h1
  dsimp only at e0 e1
  rw[c24]at e0 e1;obtain⟨s,e,_⟩:=DataW.trod_string Tryz.underlying24 e0;obtain⟨s',e',_⟩:=DataW.trod_string Tryz.underlying24 e1;exact⟨⟨s,nth (a:=i*2) (k:=0) (n:=2) (by decide) e⟩,s',nth (a:=i*2) (k:=1) (n:=2) (by decide) e'⟩
 obtain⟨⟨a,ha⟩,b,hb⟩:=one 0 (by decide);obtain⟨⟨c,hc⟩,d,hd⟩:=one 1 (by decide);clear one hel
 rcases cs with _ | ⟨x0,_ | ⟨x1,_ | ⟨x2,_ | ⟨x3,_ | ⟨x4,l⟩⟩⟩⟩⟩<;>simp at hl ha hb hc hd
 exact⟨a,b,c,d,by rw[ha,hb,hc,hd]⟩
theorem aMe (h:DataW.trod enc Tryz.prog w base sp held n 40 cs=some x):∃a b:ByteArray,cs=[.string a,.string b]:=by
 obtain⟨xs,m,_,_,hl,hn,hel⟩:=DataW.trod_array Tryz.underlying40 h;rw[c40]at hl;have one:∀i,i<2→∃s:ByteArray,cs[i]?=some (.string s):=by
  intro i hi;have h1:=hel i hi
  rw[List.getElem?_eq_getElem (show i<xs.length by omega),c24]at h1;obtain⟨s,e,_⟩:=DataW.trod_string Tryz.underlying24 h1;have:=congrArg (·[0]?) e
  exact⟨s,by simpa[List.getElem?_take,List.getElem?_drop]using this⟩
 obtain⟨a,ha⟩:=one 0 (by decide);obtain⟨b,hb⟩:=one 1 (by decide);clear one hel
 rcases cs with _ | ⟨x0,_ | ⟨x1,_ | ⟨x2,l⟩⟩⟩<;>simp at hl ha hb
 exact⟨a,b,by rw[ha,hb]⟩
theorem aFu {v:Value}{c:Array Value}{l:List Value}(e:v=.agg c)(h:v.cells.toList=l):v=.agg l.toArray:=by
 subst e;rw[←h]
 rfl
set_option maxRecDepth 100000 in
theorem aM0 {v:Value}{d:DataW H}{p:List MemPlace}(sJ:Value.okWide Tryz.prog W .any base 23 v)(hz:∀es sp,d=.slice es sp→(es.length+sp.length)*Tryz.prog.bytesOf 38≤reachBytes)
  (h:DataW.Trod enc Tryz.prog W 0 (fun _=>true) true 23 v d p):∃L N,L.length=9*N∧N≤2^62∧(Ai.rowS N L).p v (· <W.heap.size) W:=by
 obtain⟨a,len,cap,rfl⟩:=okWide_slice Tryz.underlying23 sJ;obtain⟨m,h⟩:=h
 rcases Deep.open_slice Tryz.underlying23 h with⟨e,_⟩ | ⟨a',len',aU,m',n,D,Pl,e,_,hlc,_,hm,hd,hx⟩
 ·simp only[Value.cells,List.cons.injEq,Value.slice.injEq]at e;obtain⟨⟨rfl,rfl,rfl⟩,_⟩:=e;exact⟨[],0,rfl,Nat.zero_le _,none,0,rfl,lRf 0,rfl,rfl,rfl⟩
 ·simp only[Value.cells,List.cons.injEq,Value.slice.injEq]at e;obtain⟨⟨rfl,rfl,rfl⟩,_⟩:=e;simp only[if_pos]at hm;subst hm;rw[c38]at hx;have hN:len≤2^62:=by
   have h1:=hz _ _ (Prod.mk.inj hd).1
   simp only[List.length_map,List.length_range]at h1;have h2:len*1≤(len+(m' - len))*Tryz.prog.bytesOf 38:=Nat.mul_le_mul (by omega) b38
   have h3:=reachBytes_lt
   omega
  have cell:∀j,j<9*m'→∃s:ByteArray,W.cell? (a'.add j)=some (.string s):=by
   intro j hj;obtain⟨cs',h1,h2⟩:=hx (j/9) (by omega);obtain⟨s,hs⟩:=aNr h2 (j%9) (by omega);obtain⟨_,_,h3⟩:=World.cells?_some h1;have h4:=h3 (j%9) (by omega)
   rw[Deep.add_add,show j/9*9+j%9=j by omega,hs]at h4;exact⟨s,h4⟩
  have hh:W.has Tryz.prog .any base a' 38 m':=by
   simp only[Value.okWide,Tryz.underlying23,Cell.okWide,Cell.ok]at sJ;exact sJ.2.2
  obtain⟨_,hsp,row,ncs,hs,_⟩:=hh;unfold World.shape? at hs;split at hs
  ·rename_i c ty fz hb;have hlt:a'.block<W.heap.size:=(Array.getElem?_eq_some_iff.1 hb).1
   have:Inhabited ByteArray:=⟨⟨#[]⟩⟩
   obtain⟨f,hf⟩:=Deep.choose_lt cell;refine⟨(List.range (9*len)).map f,len,by simp,hN,some (a'.block,a'.off),m',?_,hlc,hlt,c,(ty,fz),hb,fun i y hy=>?_⟩
   ·cases a';simp only at hsp;subst hsp
    rfl
   ·simp only[List.getElem?_map,Option.map_map]at hy
    rcases Nat.lt_or_ge i (9*len)with hi | hi
    ·rw[List.getElem?_range hi]at hy;obtain rfl:Value.string (f i)=y:=by simpa using hy
     have h0:=hf i (by omega)
     have hb':(a'.add i).block=a'.block:=by unfold Addr.add;split<;>rfl
     have ho:(a'.add i).off=a'.off+i:=by unfold Addr.add;split<;>simp_all
     unfold World.cell? at h0;rw[hb',hb]at h0;simp only at h0;split at h0
     ·cases h0
     ·rw[ho]at h0;exact h0
    ·rw[List.getElem?_eq_none (by simpa using hi)]at hy;cases hy
  ·cases hs
end
end Go.Proofs.YtmnancfboococaaGreatDoor
