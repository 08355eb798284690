/- Part 6: lemmas for the particulars laws -/
import Derived.Test.YtafimpgfbgigeaaGreatDoorPh4
set_option linter.all false
namespace Go.Ai
open Go Go.RowKit
section
variable {c:Cx}{P:Program}{ty:Nat->Option TyI}{nt:Nat}{K:List KF}{S:St}{X:Nat->Prop}{μ:Mu}{a:Act}{w:World}
theorem Blk.ok_congr {μ μ':Mu}(h:∀l,aF μ' l=aF μ l){X X':Nat->Prop}(hx:∀b,X b->X' b){w:World}{blk:Blk}{m:MV}(hb:blk.ok X μ w m):blk.ok X' μ' w m:=by
 match blk,m,hb with
 | .c ..,.own b,hb=>obtain⟨vs,h1,h2⟩:=hb;exact⟨vs,by rw[h];exact h1,h2⟩
 | .r ..,.own b,hb=>exact hb
 | .w ..,.own b,hb=>exact hb
 | .d ..,.own b,hb=>exact hb
 | .xi ..,.ext none,hb=>exact hb
 | .xs ..,.ext none,hb=>exact hb
 | .xi ..,.ext (some (b,o)),hb=>obtain⟨h1,h2⟩:=hb;exact⟨hx _ h1,h2⟩
 | .xs ..,.ext (some (b,o)),hb=>obtain⟨h1,h2⟩:=hb;exact⟨hx _ h1,h2⟩
 | .e,.val _,_=>trivial
 | .xr ..,.ext none,hb=>exact hb
 | .xr ..,.ext (some (b,o)),hb=>obtain⟨h1,cs,ty,h2,h3⟩:=hb;exact⟨hx _ h1,cs,ty,h2,λi hi=>by obtain⟨v,q1,q2⟩:=h3 i hi;exact⟨v,q1,CF.ok_st hx (λ_ _=>rfl) q2⟩⟩
theorem wL (H:Sim c K S X μ a w){k b:Nat}{blk blk':Blk}(hk:S.hp[k]?=some blk)(hm:μ k=some (.own b))(hok:∀X' μ',X' b->blk'.ok X' μ' w (.ext (some (b,0)))):
  ∃X' μ',Sim c K {S with hp:=S.hp.set k blk'} X' μ' a w:=by
 have P:=H.toP
 have hkl:k<S.hp.length:=(List.getElem?_eq_some_iff.1 hk).1
 let μ':Mu:=λj=>if j=k then some (.ext (some (b,0)))else μ j
 have hs:μ' k=some (.ext (some (b,0))):=by simp[μ']
 have hn:∀j,j≠k->μ' j=μ j:=λj hj=>by simp[μ',hj]
 have fG:∀j b',μ' j=some (.own b')->j≠k/\μ j=some (.own b'):=λj b' h=>by
  by_cases e:j=k
  ·subst e;rw[hs]at h;injection h with h;cases h
  ·exact⟨e,by rw[<-hn j e];exact h⟩
 obtain⟨hc1,hc2⟩:=aL9 (μ:=μ) (μ':=μ') (λj=>by
   by_cases e:j=k
   ·subst e;simp[rA,hs,hm,MV.at]
   ·simp[rA,hn j e]) (λj=>by
   by_cases e:j=k
   ·subst e;simp[atS,hs,hm,MV.atS]
   ·simp[atS,hn j e]) (λj v=>by
   by_cases e:j=k
   ·subst e;rw[hs,hm];simp
   ·rw[hn j e])
 have aXe:Mu.vle μ μ':=λj m hj=>by
  by_cases e:j=k
  ·subst e;rw[hm]at hj;injection hj with hj;subst hj;exact .inr ⟨b,rfl,hs⟩
  ·rw[hn j e];exact .inl hj
 have hlen:(S.hp.set k blk').length=S.hp.length:=zA
 refine⟨λj=>X j\/j=b,μ',⟨P.dfr,P.size,?_,?_,?_,?_,?_,?_,?_,λj h=>.inl (P.xold j h),P.bel,?_,?_⟩,?_⟩
 ·intro t av _ hl;obtain⟨v,h1,h2⟩:=P.slots t av trivial hl;exact⟨v,by rw[hc1];exact h1,h2⟩
 ·intro j bj m hj hmj;by_cases e:j=k
  ·subst e;rw[hs]at hmj;injection hmj with hmj;subst hmj
   simp only[List.getElem?_set]at hj;rw[if_pos trivial,if_pos hkl]at hj;injection hj with hj;subst hj
   exact hok _ _ (.inr rfl)
  ·simp only[List.getElem?_set]at hj;rw[if_neg (λe'=>e e'.symm)]at hj;rw[hn j e]at hmj;exact Blk.ok_congr hc2 (λb' h=>.inl h) (P.heap j bj m hj hmj)
 ·intro j hj;rw[hlen]at hj;by_cases e:j=k
  ·exact⟨_,by rw[e];exact hs⟩
  ·obtain⟨m,h⟩:=P.all j hj;exact⟨m,by rw[hn j e];exact h⟩
 ·intro j j' b' h1 h2;exact P.inj j j' b' (fG j b' h1).2 (fG j' b' h2).2
 ·intro j b' h1;obtain⟨e,h1⟩:=fG j b' h1;obtain⟨q1,q2,q3⟩:=P.loc j b' h1;exact⟨q1,λh=>h.elim q2 (λeb=>e (P.inj j k b' h1 (by rw[eb];exact hm))),q3⟩
 ·intro j h;rcases h with h | h
  ·exact P.xlt j h
  ·subst h;exact(P.loc k j hm).2.2
 ·intro j h;rcases h with h | h
  ·exact P.xnew j h
  ·subst h;exact .inr (P.loc k j hm).1
 ·exact lH P.kf (λb' h=>.inl h) aXe (λ_ _=>rfl)
 ·refine⟨λf hf=>?_,?_⟩
  ·obtain⟨h1,h2⟩:=P.own.at_ f hf;obtain⟨h3,h4⟩:=f.st μ μ' w w aXe (λ_ _=>rfl) h1;refine⟨h3,λb' hb'=>?_⟩;obtain⟨q1,q2,q3,q4⟩:=h2 b' ((h4 b').1 hb');exact⟨q1,q2,λh=>h.elim q3 (λe=>q4 k (by rw[e];exact hm)),λj hj=>q4 j (fG j b' hj).2⟩
  ·refine P.own.apart.imp_of_mem λ{f g} hf hg hq b' hb hb'=>?_;exact hq b' (((f.st μ μ' w w aXe (λ_ _=>rfl) (P.own.at_ f hf).1).2 b').1 hb) (((g.st μ μ' w w aXe (λ_ _=>rfl) (P.own.at_ g hg).1).2 b').1 hb')
 ·intro j hj;rw[hlen]at hj;rw[hn j zW];exact H.dom j hj
structure RowY where
 f:Nat->Int
 n:Nat
theorem qV {ks:List KI}(k:Nat){bt:Nat}{kd:IntKind}{l:List Int}(hp:okc ks=true)
  (h:∀f N,N=l.length->(∀i x,l[i]?=some x->f i=x)->Goal c K ⟨ks,{S with hp:=S.hp.set k (.xi kd N f)},[]⟩)(hk:S.hp[k]?=some (.r bt kd l):=by exact rfl):Goal c K ⟨ks,S,[]⟩:=by
 refine pN hp (λX μ a w H=>?_) (h (λi=>l.getD i 0) l.length rfl (λi x hx=>by simp[List.getD_eq_getElem?_getD,hx])) rfl;obtain⟨m,hm⟩:=H.toP.all k (List.getElem?_eq_some_iff.1 hk).1;have hok:=H.toP.heap k _ m hk hm;match m,hm,hok with
 | .own b,hm,hok=>
  have hok:w.heap[b]?=some (.cells (l.map (Value.int kd)).toArray bt (0,0)):=hok
  exact wL H hk hm (λX' μ' hx=>⟨hx,_,(_,(0,0)),hok,λi hi=>by simp[hi]⟩)
def isI (kd:IntKind):AV->Bool
 | .i k _=>decide (k=kd)
 | _=>false
theorem aAl {ks:List KI}(k:Nat){bt:Nat}(kd:IntKind){cells:List AV}(hp:okc ks=true)(hk:S.hp[k]?=some (.c bt cells))(hi:cells.all (isI kd)=true)
  (h:∀f,(∀i e,cells[i]?=some (.i kd e)->f i=e.den)->Goal c K ⟨ks,{S with hp:=S.hp.set k (.xi kd cells.length f)},[]⟩):Goal c K ⟨ks,S,[]⟩:=by
 refine pN hp (λX μ a w H=>?_) (h (λi=>match cells[i]? with | some (.i _ e)=>e.den | _=>0) (λi e hx=>by simp[hx])) rfl;obtain⟨m,hm⟩:=H.toP.all k (List.getElem?_eq_some_iff.1 hk).1;have hok:=H.toP.heap k _ m hk hm;match m,hm,hok with
 | .own b,hm,hok=>
  obtain⟨vs,h1,h2⟩:=hok;refine wL H hk hm (λX' μ' hx=>⟨hx,_,(_,(0,0)),h2,λi hi'=>?_⟩);have hx:cells[i]?=some cells[i]:=by simp[hi']
  obtain⟨v,e1,e2⟩:=iF h1 i _ hx;rw[List.all_eq_true]at hi;have h3:=hi cells[i] (List.getElem_mem _);simp only[hx];cases hq:cells[i]with
  | i k' e=>
   rw[hq]at h3 e2;simp only[isI,decide_eq_true_eq]at h3;subst h3;rw[bY e2]at e1;simpa using e1
  | _=>rw[hq]at h3;cases h3
def Mu.cut (μ:Mu)(n:Nat):Mu:=λk=>if k<n then μ k else none
mutual
def AV.lt (n:Nat):AV->Bool
 | .p k _ | .pe k _ _ _ _ | .sl k _ _ _ | .e k | .ec k _=>decide (k<n)
 | .g l | .t l=>AV.ltL n l
 | .f _ fs l=>AV.ltL n fs&&AV.ltL n l
 | _=>true
def AV.ltL (n:Nat):List AV->Bool
 | []=>true
 | a::l=>AV.lt n a&&AV.ltL n l
end
theorem rK {n k:Nat}(h:k<n):rA (μ.cut n) k=rA μ k/\atS (μ.cut n) k=atS μ k/\(μ.cut n) k=μ k:=by
 have:(μ.cut n) k=μ k:=by simp[Mu.cut,h]
 exact⟨by simp[rA,this],by simp[atS,this],this⟩
mutual
theorem aCy {n:Nat}:∀(av:AV),av.lt n=true->aD (μ.cut n) av=aD μ av
 | .p k off,h=>by simp only[AV.lt,decide_eq_true_eq]at h;simp only[aD,(rK h).1]
 | .pe k off i sz inner,h=>by simp only[AV.lt,decide_eq_true_eq]at h;simp only[aD,(rK h).1]
 | .sl k off len cap,h=>by simp only[AV.lt,decide_eq_true_eq]at h;simp only[aD,(rK h).2.1]
 | .e k,h=>by simp only[AV.lt,decide_eq_true_eq]at h;simp only[aD,(rK h).2.2]
 | .ec k j,h=>by simp only[AV.lt,decide_eq_true_eq]at h;simp only[aD,(rK h).2.2]
 | .g l,h=>by simp only[AV.lt]at h;simp only[aD,nU l h]
 | .t l,h=>by simp only[AV.lt]at h;simp only[aD,nU l h]
 | .f _ fs l,h=>by simp only[AV.lt,Bool.and_eq_true]at h;simp only[aD,nU fs h.1,nU l h.2]
 | .i ..,_=>rfl
 | .b ..,_=>rfl
 | .s ..,_=>rfl
 | .xs ..,_=>rfl
 | .o ..,_=>rfl
 | .q ..,_=>rfl
theorem nU {n:Nat}:∀(l:List AV),AV.ltL n l=true->aF (μ.cut n) l=aF μ l
 | [],_=>rfl
 | x::l,h=>by
  simp only[AV.ltL,Bool.and_eq_true]at h;simp only[aF,aCy x h.1,nU l h.2]
end
def Blk.lt (n:Nat):Blk->Bool
 | .c _ l=>AV.ltL n l
 | _=>true
structure KFr (n:Nat)(f:KF):Prop where
 out:∀X μ w,f.p X μ w->f.p X (Mu.cut μ n) w
structure OFr (n:Nat)(f:OF):Prop where
 out:∀μ w,f.p μ w->f.p (Mu.cut μ n) w/\∀b,f.F (Mu.cut μ n) b->f.F μ b
theorem KFr.cst (n:Nat)(v:Value)(R:VF):KFr n (KF.cst v R):=⟨λ_ _ _ h=>h⟩
theorem KFr.at {n k:Nat}(h:k<n)(R:VF):KFr n (KF.at k R):=⟨λX μ w hp=>by
 obtain⟨v,h1,h2⟩:=hp;exact⟨v,by rw[(rK h).2.2];exact h1,h2⟩⟩
theorem KFr.ext {n k:Nat}(h:k<n)(a:Option (Nat × Nat)):KFr n (KF.ext k a):=⟨λX μ w hp=>by
 show(Mu.cut μ n) k=_
 rw[(rK h).2.2];exact hp⟩
def aRj (S:St)(n:Nat):List (Nat × AV)->Prop
 | []=>True
 | (t,b)::l=>(∃a,look S.sl t=some a/\b.lt n=true/\∀μ,aD μ a=aD μ b)/\aRj S n l
theorem zS{S:St}{n t:Nat}{b a:AV}(h1:look S.sl t=some a:=by exact rfl)(h2:b.lt n=true:=by exact rfl)(h3:∀μ,aD μ a=aD μ b:=by exact λ_=>rfl):∃a,look S.sl t=some a/\b.lt n=true/\∀μ,aD μ a=aD μ b:=⟨a,h1,h2,h3⟩
theorem zL{p:Prop}(h:p:=by repeat(first | exact trivial | refine⟨zS,?_⟩)):p:=h
theorem zI{S:St}{n t:Nat}{kd:IntKind}{e e':IE}(h1:look S.sl t=some (.i kd e))(h2:(AV.i kd e').lt n=true)(h3:e.den=e'.den):∃a,look S.sl t=some a/\(AV.i kd e').lt n=true/\∀μ,aD μ a=aD μ (.i kd e'):=⟨_,h1,h2,λ_=>congrArg (λz=>some (Value.int kd z)) h3⟩
theorem aRj.look {S:St}{n:Nat}:∀{l:List (Nat × AV)},aRj S n l->∀t b,Go.Ai.look l t=some b->∃a,Go.Ai.look S.sl t=some a/\b.lt n=true/\∀μ,aD μ a=aD μ b
 | (d,x)::l,h,t,b,hb=>by
  by_cases e:d=t
  ·subst e;rw[bK]at hb;injection hb with hb;subst hb;exact h.1
  ·rw[bE e]at hb;exact h.2.look t b hb
def lT (n:Nat)(K:List KF):List KF->Prop
 | []=>True
 | f::l=>(f∈K/\KFr n f)/\lT n K l
theorem lT.mem {n:Nat}{K:List KF}:∀{l:List KF},lT n K l->∀f,f∈l->f∈K/\KFr n f
 | g::l,h,f,hf=>by
  rcases List.mem_cons.1 hf with e | e
  ·subst e;exact h.1
  ·exact h.2.mem f e
def aCb (n:Nat):List OF->Prop
 | []=>True
 | f::l=>OFr n f/\aCb n l
theorem aCb.mem {n:Nat}:∀{l:List OF},aCb n l->∀f,f∈l->OFr n f
 | g::l,h,f,hf=>by
  rcases List.mem_cons.1 hf with e | e
  ·subst e;exact h.1
  ·exact h.2.mem f e
theorem iX {ks:List KI}(n:Nat){S':St}{K':List KF}(hp:jT ks=true)(hhp:S'.hp=S.hp.take n)(hn:n<=S.hp.length)(hb:S'.hp.all (Blk.lt n)=true)(how:S'.ow=S.ow)(hsl:aRj S n S'.sl)(hK:lT n K K')(hO:aCb n S.ow)
  (h:Goal c K' ⟨ks,S',[]⟩):Goal c K ⟨ks,S,[]⟩:=by
 refine oR hp (λX μ a w H=>⟨X,μ.cut n,?_⟩) h;have P:=H.toP;have hlen:S'.hp.length=n:=by rw[hhp,List.length_take];omega
 have fG:∀k b,(μ.cut n) k=some (.own b)->μ k=some (.own b):=λk b h=>by
  unfold Mu.cut at h;split at h
  ·exact h
  ·cases h
 refine⟨⟨P.dfr,P.size,?_,?_,?_,λk k' b h1 h2=>P.inj k k' b (fG k b h1) (fG k' b h2),λk b h=>P.loc k b (fG k b h),P.xlt,P.xnew,P.xold,P.bel,?_,?_⟩,?_⟩
 ·intro t av _ hl;obtain⟨x,h1,h2,h3⟩:=hsl.look t av hl;obtain⟨v,h4,h5⟩:=P.slots t x trivial h1;exact⟨v,by rw[aCy av h2,<-h3];exact h4,h5⟩
 ·intro k blk m hk hm;have hkn:k<n:=by rw[<-hlen];exact(List.getElem?_eq_some_iff.1 hk).1
  have hk':S.hp[k]?=some blk:=by rw[hhp,List.getElem?_take_of_lt hkn]at hk;exact hk
  rw[(rK hkn).2.2]at hm;have hok:=P.heap k blk m hk' hm;have hbl:blk.lt n=true:=by rw[List.all_eq_true]at hb;exact hb blk (List.mem_of_getElem? hk)
  match blk,m,hok,hbl with
  | .c ..,.own b,hb',hbl=>obtain⟨vs,h1,h2⟩:=hb';exact⟨vs,by rw[nU _ hbl];exact h1,h2⟩
  | .r ..,.own b,hb',_=>exact hb'
  | .w ..,.own b,hb',_=>exact hb'
  | .d ..,.own b,hb',_=>exact hb'
  | .xi ..,.ext none,hb',_=>exact hb'
  | .xs ..,.ext none,hb',_=>exact hb'
  | .xi ..,.ext (some (b,o)),hb',_=>exact hb'
  | .xs ..,.ext (some (b,o)),hb',_=>exact hb'
  | .xr ..,.ext none,hb',_=>exact hb'
  | .xr ..,.ext (some (b,o)),hb',_=>exact hb'
  | .e,.val _,_,_=>trivial
 ·intro k hk;rw[hlen]at hk;obtain⟨m,h⟩:=P.all k zW;exact⟨m,by rw[(rK hk).2.2];exact h⟩
 ·intro f hf;obtain⟨h1,h2⟩:=hK.mem f hf;exact h2.out _ _ _ (P.kf f h1)
 ·rw[how];refine⟨λf hf=>?_,?_⟩
  ·obtain⟨h1,h2⟩:=P.own.at_ f hf;obtain⟨h3,h4⟩:=(hO.mem f hf).out μ w h1;refine⟨h3,λb hb'=>?_⟩;obtain⟨q1,q2,q3,q4⟩:=h2 b (h4 b hb');exact⟨q1,q2,q3,λk hk=>q4 k (fG k b hk)⟩
  ·exact P.own.apart.imp_of_mem λ{f g} hf hg hq b hb1 hb2=>hq b (((hO.mem f hf).out μ w (P.own.at_ f hf).1).2 b hb1) (((hO.mem g hg).out μ w (P.own.at_ g hg).1).2 b hb2)
 ·intro k hk;rw[hlen]at hk;simp only[Mu.cut];rw[if_neg zW]
theorem zU {ks:List KI}(n:Nat){S':St}{K':List KF}(hsl:aRj S n S'.sl)(hK:lT n K K')(hO:aCb n S.ow)(h:Goal c K' ⟨ks,S',[]⟩)(hp:jT ks=true:=by exact rfl)(hhp:S'.hp=S.hp.take n:=by exact rfl)(hn:n<=S.hp.length:=by exact Nat.le_of_ble_eq_true rfl)(hb:S'.hp.all (Blk.lt n)=true:=by exact rfl)(how:S'.ow=S.ow:=by exact rfl):Goal c K ⟨ks,S,[]⟩:=iX n hp hhp hn hb how hsl hK hO h
theorem bW (hc:Ctx c P ty nt){ι:Type}(I:ι->St)(m:ι->Nat)(x0:ι)(n:Nat){b:Code}{k:List KI}
  (h:∀(p:Act->World->Prop) x,(∀y,m y<m x->Goal c K ⟨.hole p::k,I y,[]⟩)->Goal c K (run ty nt K n (.code b::.hole p::k) (I x) [])):Goal c K ⟨.code (.loop b)::k,I x0,[]⟩:=by
 refine .mk0 (aEb (KK:=λ_=>K) I m (λp x hy=>?_) x0);exact dX hc n (h p x (λy hlt=>.mk0 (hy y hlt)))
theorem vM (hc:Ctx c P ty nt){ι:Type}{all:Array Oper}{i:Nat}{k:List KI}(o:Oper)(ho:all[i]?=some o)(hg:guardOf all S.sl o=some true){K':ι->List KF}{S':ι->St}{p:ι->Prop}
  (hr:∀X μ a w,Sim c K S X μ a w->∃x u w' X' μ',p x/\(execOp a.eval o).run P w=.ok (.value u) w'/\Sim c (K' x) (S' x) X' μ' (a.put o.dst u) w')
  (h:∀x,p x->Goal c (K' x) ⟨.ops all (i+1)::k,S' x,[]⟩):Goal c K ⟨.ops all i::k,S,[]⟩:=by
 refine .mk0 (λX μ a w H=>?_);have hlt:i<all.size:=(Array.getElem?_eq_some_iff.1 ho).1;obtain⟨x,u,w',X',μ',hx,h1,H'⟩:=hr X μ a w H;rw[<-hc.hP]at h1;simp only[aO];rw[gP hlt];simp only[wpOpsIn,ho];rw[if_pos (cH H.toP hg (λ_ _=>trivial))];refine aB8 h1 ?_;have:=(h x hx).so X' μ' _ w' H';simpa[aO]using this
theorem aVe (hc:Ctx c P ty nt){all:Array Oper}{i:Nat}{k:List KI}(o:Oper)(ho:all[i]?=some o)(hg:guardOf all S.sl o=some true)(hd:o.dst=none){K':List KF}{S':St}
  (hr:∀X μ a w,Sim c K S X μ a w->∃w' X' μ',(execOp a.eval o).run P w=.ok .skip w'/\Sim c K' S' X' μ' a w')
  (h:Goal c K' ⟨.ops all (i+1)::k,S',[]⟩):Goal c K ⟨.ops all i::k,S,[]⟩:=by
 refine .mk0 (λX μ a w H=>?_);have hlt:i<all.size:=(Array.getElem?_eq_some_iff.1 ho).1;obtain⟨w',X',μ',h1,H'⟩:=hr X μ a w H;rw[<-hc.hP]at h1;simp only[aO];rw[gP hlt];simp only[wpOpsIn,ho];rw[if_pos (cH H.toP hg (λ_ _=>trivial))];refine tW h1 ?_;rw[hd];have:=h.so X' μ' _ w' H';simpa[aO,Act.put]using this
theorem aVh (hc:Ctx c P ty nt){all:Array Oper}{i:Nat}{k:List KI}(o:Oper)(ho:all[i]?=some o)(hg:guardOf all S.sl o=some true)(hd:cM nt o.dst=true)(av:AV)(hr:∀X μ a w,Sim c K S X μ a w->∃u,(execOp a.eval o).run P w=.ok (.value u) w/\aD μ av=some u)
  (h:Goal c K ⟨.ops all (i+1)::k,S.put o.dst av none,[]⟩):Goal c K ⟨.ops all i::k,S,[]⟩:=by
 refine vM hc o ho hg (ι:=Unit) (K':=λ_=>K) (S':=λ_=>S.put o.dst av none) (p:=λ_=>True) (λX μ a w H=>?_) (λ_ _=>h);obtain⟨u,h1,h2⟩:=hr X μ a w H;exact⟨(),u,w,X,μ,trivial,h1,by simpa[St.put]using mQ (Kn:=[]) H (by rw[hc.hnt];exact hd) (cV.same H.toP.own h2) (λf hf=>by cases hf)⟩
def stR (ty:Nat->Option TyI)(S:St)(o:Oper):Option (Nat × Nat × IntKind × List Int × Nat × IE):=
 match o.dst,o.op with
 | none,.store t x y=>match ty t,fW S.sl x,fW S.sl y with
  | some i,some (.pe k off ix sz inner),some (.i kd e)=>match S.hp[k]? with
   | some (.r bt kd' l)=>if kd=kd'/\i.size=1 then some (k,bt,kd',l,aY off ix.den sz inner,e)else none
   | _=>none
  | some i,some (.p k off),some (.i kd e)=>match S.hp[k]? with
   | some (.r bt kd' l)=>if kd=kd'/\i.size=1 then some (k,bt,kd',l,off,e)else none
   | _=>none
  | _,_,_=>none
 | _,_=>none
theorem aEc (H:Sim c K S X μ a w){t:TypeId}{i:TyI}(hi:c.ty t=some i)(hs:i.size=1){k bt:Nat}{kd:IntKind}{l:List Int}(hk:S.hp[k]?=some (.r bt kd l)){b0 o0 idx:Nat}(hb0:rA μ k=some (b0,o0))(hlt:idx<l.length)(e:Int):
  ∃w',(Instr.storeAt t (.pointer (some ⟨b0,o0+idx,none⟩)) (.int kd e)).run c.P w=.ok () w'/\Sim c K (S.setBlk k (.r bt kd (l.set idx e))) X μ a w':=by
 obtain⟨m,hb1,hma⟩:=yD hb0;have hok:=H.toP.heap k _ m hk hb1;match m,hma,hok,hb1 with
 | .own b,hma,hok,hb1=>
  simp only[MV.at,Option.some.injEq,Prod.mk.injEq]at hma;obtain⟨rfl,rfl⟩:=hma;have hok:w.heap[b]?=some (.cells (l.map (Value.int kd)).toArray bt (0,0)):=hok;obtain⟨ti,z,h1,h2,h3,h4,h5⟩:=(c.tok _ i hi).info;refine⟨w.setCells b idx [.int kd e],?_,?_⟩
  ·simp only[Instr.storeAt,Instr.sureAddr,Sem.run_bind,Sem.run_pure,Result.andThen_ok,storeVar,dD h1,Nat.zero_add];rw[if_neg (by simp[Value.cells];omega)];have:=run_storeCells_cells (P:=c.P) b idx [.int kd e] 0 w (λj hj=>by simp at hj;subst hj;simp[World.cell?,hok,hlt]) (λj hj=>by simp[World.frozen?,hok]) (λv hv=>by simp at hv;subst hv;rfl);simpa[Value.cells]using this
  ·refine aIc H hb1 (setCells_size _ _ _ _) (fM b (H.toP.loc k b hb1).1 _ _ _ H.toP.bel) (λj hj=>fN b _ _ _ j hj) ?_;show _=_
   rw[gJ b bt _ idx w _ hok (by simp;omega)];congr 2;apply Array.ext';simp[List.map_set]
theorem jV (hc:Ctx c P ty nt){all:Array Oper}{i:Nat}{k:List KI}(o:Oper){r:Nat × Nat × IntKind × List Int × Nat × IE}(hlt:r.2.2.2.2.1<r.2.2.2.1.length)
  (h:∀l',l'=r.2.2.2.1.set r.2.2.2.2.1 r.2.2.2.2.2.den->Goal c K ⟨.ops all (i+1)::k,S.setBlk r.1 (.r r.2.1 r.2.2.1 l'),[]⟩)(ho:all[i]?=some o:=by exact rfl)(hg:guardOf all S.sl o=some true:=by exact rfl)(hs:stR ty S o=some r:=by exact rfl):Goal c K ⟨.ops all i::k,S,[]⟩:=by
 obtain⟨kb,bt,kd,l,idx,e⟩:=r;have hd:o.dst=none:=by
  unfold stR at hs;split at hs
  ·rename_i h1 _;exact h1
  ·cases hs
 refine aVe hc o ho hg hd (K':=K) (λX μ a w H=>?_) (h _ rfl);rw[<-hc.hP];unfold stR at hs;split at hs
 ·rename_i t x y _ hop;split at hs
  ·rename_i i' k' off ix sz inner kd' e' hi hx hy;split at hs
   ·rename_i bt' kd'' l' hk;split at hs
    ·rename_i mM;simp only[Option.some.injEq,Prod.mk.injEq]at hs;obtain⟨rfl,rfl,rfl,rfl,rfl,rfl⟩:=hs;obtain⟨rfl,h1⟩:=mM;obtain⟨b0,o0,hb0,hb2⟩:=xK (aH H.toP hx (λ_ _=>trivial));have he:=bY (aH H.toP hy (λ_ _=>trivial));obtain⟨w',q1,q2⟩:=aEc H (by rw[hc.hty];exact hi) h1 hk hb0 hlt e'.den;exact⟨w',X,μ,by simp only[execOp,hop,hb2,he,Sem.run_bind,q1,Result.andThen_ok,Sem.run_pure],q2⟩
    ·cases hs
   ·cases hs
  ·rename_i i' k' off kd' e' hi hx hy;split at hs
   ·rename_i bt' kd'' l' hk;split at hs
    ·rename_i mM;simp only[Option.some.injEq,Prod.mk.injEq]at hs;obtain⟨rfl,rfl,rfl,rfl,rfl,rfl⟩:=hs;obtain⟨rfl,h1⟩:=mM;obtain⟨b0,o0,hb0,hb2⟩:=pT (aH H.toP hx (λ_ _=>trivial));have he:=bY (aH H.toP hy (λ_ _=>trivial));obtain⟨w',q1,q2⟩:=aEc H (by rw[hc.hty];exact hi) h1 hk hb0 hlt e'.den;exact⟨w',X,μ,by simp only[execOp,hop,hb2,he,Sem.run_bind,q1,Result.andThen_ok,Sem.run_pure],q2⟩
    ·cases hs
   ·cases hs
  ·cases hs
 ·cases hs
def stW (ty:Nat->Option TyI)(S:St)(o:Oper):Option (Nat × Nat × IntKind × List Int × Nat × IE):=
 match o.dst,o.op with
 | none,.store t x y=>match ty t,fW S.sl x,fW S.sl y with
  | some i,some (.pe k off ix sz inner),some (.i kd e)=>match S.hp[k]? with
   | some (.w bt kd' l)=>if kd=kd'/\i.size=1 then some (k,bt,kd',l,aY off ix.den sz inner,e)else none
   | _=>none
  | some i,some (.p k off),some (.i kd e)=>match S.hp[k]? with
   | some (.w bt kd' l)=>if kd=kd'/\i.size=1 then some (k,bt,kd',l,off,e)else none
   | _=>none
  | _,_,_=>none
 | _,_=>none
theorem aEd (H:Sim c K S X μ a w){t:TypeId}{i:TyI}(hi:c.ty t=some i)(hs:i.size=1){k bt:Nat}{kd:IntKind}{l:List Int}(hk:S.hp[k]?=some (.w bt kd l)){b0 o0 idx:Nat}(hb0:rA μ k=some (b0,o0))(hlt:idx<l.length)(e:Int):
  ∃w',(Instr.storeAt t (.pointer (some ⟨b0,o0+idx,none⟩)) (.int kd e)).run c.P w=.ok () w'/\Sim c K (S.setBlk k (.w bt kd (l.set idx e))) X μ a w':=by
 obtain⟨m,hb1,hma⟩:=yD hb0;have hok:=H.toP.heap k _ m hk hb1;match m,hma,hok,hb1 with
 | .own b,hma,hok,hb1=>
  simp only[MV.at,Option.some.injEq,Prod.mk.injEq]at hma;obtain⟨rfl,rfl⟩:=hma;obtain⟨rest,hok⟩:=hok;have bHq:idx<(l.map (Value.int kd)++rest).length:=by simp;omega
  obtain⟨ti,z,h1,h2,h3,h4,h5⟩:=(c.tok _ i hi).info;refine⟨w.setCells b idx [.int kd e],?_,?_⟩
  ·simp only[Instr.storeAt,Instr.sureAddr,Sem.run_bind,Sem.run_pure,Result.andThen_ok,storeVar,dD h1,Nat.zero_add];rw[if_neg (by simp[Value.cells];omega)];have:=run_storeCells_cells (P:=c.P) b idx [.int kd e] 0 w (λj hj=>by simp at hj;subst hj;simp only[World.cell?,hok,Nat.add_zero,Option.isSome_none,Bool.false_eq_true,if_false];rw[List.getElem?_toArray,List.getElem?_eq_getElem bHq];rfl) (λj hj=>by simp[World.frozen?,hok]) (λv hv=>by simp at hv;subst hv;rfl);simpa[Value.cells]using this
  ·refine aIc H hb1 (setCells_size _ _ _ _) (fM b (H.toP.loc k b hb1).1 _ _ _ H.toP.bel) (λj hj=>fN b _ _ _ j hj) ?_;refine⟨rest,?_⟩;rw[gJ b bt _ idx w _ hok (by simp;omega)];congr 2;apply Array.ext';simp[List.map_set,List.set_append_left,hlt]
theorem iD (hc:Ctx c P ty nt){all:Array Oper}{i:Nat}{k:List KI}(o:Oper){r:Nat × Nat × IntKind × List Int × Nat × IE}(hlt:r.2.2.2.2.1<r.2.2.2.1.length)
  (h:∀l',l'=r.2.2.2.1.set r.2.2.2.2.1 r.2.2.2.2.2.den->Goal c K ⟨.ops all (i+1)::k,S.setBlk r.1 (.w r.2.1 r.2.2.1 l'),[]⟩)(ho:all[i]?=some o:=by exact rfl)(hg:guardOf all S.sl o=some true:=by exact rfl)(hs:stW ty S o=some r:=by exact rfl):Goal c K ⟨.ops all i::k,S,[]⟩:=by
 obtain⟨kb,bt,kd,l,idx,e⟩:=r;have hd:o.dst=none:=by
  unfold stW at hs;split at hs
  ·rename_i h1 _;exact h1
  ·cases hs
 refine aVe hc o ho hg hd (K':=K) (λX μ a w H=>?_) (h _ rfl);rw[<-hc.hP];unfold stW at hs;split at hs
 ·rename_i t x y _ hop;split at hs
  ·rename_i i' k' off ix sz inner kd' e' hi hx hy;split at hs
   ·rename_i bt' kd'' l' hk;split at hs
    ·rename_i mM;simp only[Option.some.injEq,Prod.mk.injEq]at hs;obtain⟨rfl,rfl,rfl,rfl,rfl,rfl⟩:=hs;obtain⟨rfl,h1⟩:=mM;obtain⟨b0,o0,hb0,hb2⟩:=xK (aH H.toP hx (λ_ _=>trivial));have he:=bY (aH H.toP hy (λ_ _=>trivial));obtain⟨w',q1,q2⟩:=aEd H (by rw[hc.hty];exact hi) h1 hk hb0 hlt e'.den;exact⟨w',X,μ,by simp only[execOp,hop,hb2,he,Sem.run_bind,q1,Result.andThen_ok,Sem.run_pure],q2⟩
    ·cases hs
   ·cases hs
  ·rename_i i' k' off kd' e' hi hx hy;split at hs
   ·rename_i bt' kd'' l' hk;split at hs
    ·rename_i mM;simp only[Option.some.injEq,Prod.mk.injEq]at hs;obtain⟨rfl,rfl,rfl,rfl,rfl,rfl⟩:=hs;obtain⟨rfl,h1⟩:=mM;obtain⟨b0,o0,hb0,hb2⟩:=pT (aH H.toP hx (λ_ _=>trivial));have he:=bY (aH H.toP hy (λ_ _=>trivial));obtain⟨w',q1,q2⟩:=aEd H (by rw[hc.hty];exact hi) h1 hk hb0 hlt e'.den;exact⟨w',X,μ,by simp only[execOp,hop,hb2,he,Sem.run_bind,q1,Result.andThen_ok,Sem.run_pure],q2⟩
    ·cases hs
   ·cases hs
  ·cases hs
 ·cases hs
def OF.row (v:Value)(base e:Nat)(kd:IntKind)(l:List Int):OF where
 F _ b:=v.ownBlock=some b
 p _ w:=w.ownsRow base e 1 v l.length (l.map (Value.int kd))
 st _ _ w w' _ hk h:=by
  refine⟨⟨h.1,?_⟩,λ_=>Iff.rfl⟩;rcases h.2 with hn | ⟨g,cap,cur,rfl,hb,hg,hr⟩
  ·exact .inl hn
  ·exact .inr ⟨g,cap,cur,rfl,hb,by rw[hk g (by simp[Value.ownBlock])];exact hg,hr⟩
theorem OFr.row (n:Nat)(v:Value)(base e:Nat)(kd:IntKind)(l:List Int):OFr n (OF.row v base e kd l):=⟨λ_ _ h=>⟨h,λ_ h=>h⟩⟩
theorem below_grown {B:Nat}{w w':World}{r:Option Nat}(h:w.grownBy w' r)(hB:B<=w.heap.size)(hr:∀b,r=some b->B<=b):Below B w w':=
 ⟨h.os,h.tape,h.output,h.size,λb hb=>h.block b (Nat.lt_of_lt_of_le hb hB) (λe=>by have:=hr b e.symm;omega)⟩
theorem aE3 (base:Nat)(t ty e:TypeId)(i:TypeInfo)(z:Value)(bytes:Nat)(ht:P.underlying t=some (.slice e))(hi:P.info? e=some i)(hz:i.zero=some z)
  (oK:i.size=1) (hby:i.bytes=bytes) (hzs:z.cells.size=1) (v:Value) (n:Nat) (xs:List Value) (fG:w.ownsRow base e 1 v n xs)
  (ad:Addr) (m c':Nat) (news:List Value) (hl:news.length=m*1) (xW:∀j u,news[j]?=some u->w.cell? (ad.add j)=some u) (h1:∀u∈news,u.oneCell'=true)
  (h63:n+m<=maxLen) (wB:(n+m)*bytes<=140737488355328) (aTm:base<=w.heap.size):
  ∃v' w',(Builtin.append_ #[t,t] ty #[v,.slice (some ad) m c']).run P w=.ok v' w'/\w'.ownsRow base e 1 v' (n+m) (xs++news)/\w.grownBy w' v.ownBlock/\(v'.ownBlock=v.ownBlock\/v'.ownBlock=some w.heap.size):=by
 obtain⟨v',w',hr,h2,h3,h4⟩:=run_append_own (P:=P) w base t ty e i z 1 bytes ht hi hz oK hby hzs zW v n xs fG ad m c' news hl xW h1 h63 wB aTm;refine⟨v',w',hr,h2,h3,?_⟩;have bHu:n+m<=9223372036854775807:=by simpa[maxLen]using h63
 rcases fG.2 with⟨rfl,rfl⟩ | ⟨g,cap,cur,rfl,hbg,hg,hnc,hcm,hcs,bFd⟩
 ·by_cases hm:m=0
  ·left;rw[h4.2 ⟨rfl,hm⟩]
  ·have hr':=run_append_nil (P:=P) w t ty e i z ht hi hz ad m c' news (by rw[oK];exact hl) xW zW zW (by rw[hby];have hb:=wB;simp only[Nat.zero_add]at hb;omega)
   rw[hr']at hr;injection hr with hr _;subst hr;exact .inr rfl
 ·by_cases aOx:n+m<=cap
  ·have hr':=run_append_room (P:=P) w t ty e i ht hi g n cap cur hg ad m c' news (by rw[oK];exact hl) xW h1 aOx (by rw[oK,hl,hcs];omega)
   rw[hr']at hr;injection hr with hr _;subst hr;exact .inl rfl
  ·have holds:∀j u,xs[j]?=some u->w.cell? ((⟨g,0,none⟩:Addr).add j)=some u:=fG.cells (g:=g) rfl
   have hr':=run_append_grow (P:=P) w t ty e i z ht hi hz ⟨g,0,none⟩ n cap xs (by rw[oK];exact fG.1) holds ad m c' news (by rw[oK];exact hl) xW zW zW (by rw[hby];exact growslice_fits zW wB)
   rw[hr']at hr;injection hr with hr _;subst hr;exact .inr rfl
theorem aK3 {d:Option Nat}(hd:cM c.nt d=true){ow':List OF}{e:Nat}{kd:IntKind}{a':Option Addr}{n' aU:Nat}{l':List Int}{w':World}{r:Option Nat}
  (H:Sim c K S X μ a w) (hg:w.grownBy w' r) (lG:w'.ownsRow c.B.heap.size e 1 (.slice a' n' aU) l'.length (l'.map (Value.int kd)))
  (pA:∀f,f∈ow'->f∈S.ow) (hap:ow'.Pairwise λf g=>∀b,f.F μ b->¬g.F μ b) (hr:∀b,r=some b->∃f,f∈S.ow/\f.F μ b) (hr':∀f,f∈ow'->∀b,r=some b->¬f.F μ b)
  (tJ:∀b,(Value.slice a' n' aU).ownBlock=some b->r=some b\/w.heap.size<=b):
  Sim c K (S.putO d (.xs a' n' aU) none (OF.row (.slice a' n' aU) c.B.heap.size e kd l'::ow')) X μ (a.put d (.slice a' n' aU)) w':=by
 have P:=H.toP
 have hF:∀f,f∈S.ow->∀b,f.F μ b->c.B.heap.size<=b/\b<w.heap.size/\¬X b/\∀k,μ k≠some (.own b):=λf hf=>(P.own.at_ f hf).2
 have hB:c.B.heap.size<=w.heap.size:=P.bel.size
 have aBg:∀b,(Value.slice a' n' aU).ownBlock=some b->(∃f,f∈S.ow/\f.F μ b/\r=some b)\/w.heap.size<=b:=by
  intro b hb;rcases tJ b hb with h | h
  ·obtain⟨f,h1,h2⟩:=hr b h;exact .inl ⟨f,h1,h2,h⟩
  ·exact .inr h
 have hlt:∀b,(Value.slice a' n' aU).ownBlock=some b->b<w'.heap.size:=λb hb=>(World.ownsRow.lt lG b hb).2
 refine(mQ (Kn:=[]) H hd (av:=.xs a' n' aU) (nb:=none) (ow:=OF.row (.slice a' n' aU) c.B.heap.size e kd l'::ow') (v:=.slice a' n' aU) (X':=X) (μ':=μ) (w':=w') ⟨below_grown hg hB (λb hb=>?_),λb hb hnf=>?_,rfl,rfl,λ_ h=>h,λ_ h=>.inl h,?_⟩ (λf hf=>by cases hf))
 ·obtain⟨f,h1,h2⟩:=hr b hb;exact(hF f h1 b h2).1
 ·refine hg.block b hb (λe=>?_);obtain⟨f,h1,h2⟩:=hr b e.symm;exact hnf f h1 h2
 ·refine⟨λf hf=>?_,List.Pairwise.cons (λg hg' b hb hb'=>?_) hap⟩
  ·rcases List.mem_cons.1 hf with e' | e'
   ·subst e';refine⟨lG,λb hb=>?_⟩;have hb:(Value.slice a' n' aU).ownBlock=some b:=hb;rcases aBg b hb with⟨f,h1,h2,_⟩ | e'
    ·obtain⟨q1,q2,q3,q4⟩:=hF f h1 b h2;exact⟨q1,hlt b hb,q3,q4⟩
    ·exact⟨lTr hB e',hlt _ hb,λhx=>by have:=P.xlt _ hx;omega,λk hk=>by have:=(P.loc k _ hk).2.2;omega⟩
   ·have h0:=pA f e'
    obtain⟨h1,h2⟩:=P.own.at_ f h0;refine⟨(f.st μ μ w w' (Mu.vle_refl _) (λk hk=>hg.block k (h2 k hk).2.1 (λe2=>hr' f e' k e2.symm hk)) h1).1,λb hb=>?_⟩;obtain⟨q1,q2,q3,q4⟩:=h2 b hb;exact⟨q1,Nat.lt_of_lt_of_le q2 hg.size,q3,q4⟩
  ·have hb:(Value.slice a' n' aU).ownBlock=some b:=hb
   rcases aBg b hb with⟨f,h1,h2,h3⟩ | e'
   ·exact hr' g hg' b h3 hb'
   ·have:=(hF g (pA g hg') b hb').2.1;omega
theorem aIb {d:Option Nat}(hd:cM c.nt d=true){ow':List OF}{e:Nat}{kd:IntKind}{a':Option Addr}{n' aU:Nat}{l':List Int}{w':World}{r:Option Nat}
  (H:Sim c K S X μ a w) (hg:w.grownBy w' r) (lG:w'.ownsRow c.B.heap.size e 1 (.slice a' n' aU) l'.length (l'.map (Value.int kd)))
  (pA:∀f,f∈ow'->f∈S.ow) (hap:ow'.Pairwise λf g=>∀b,f.F μ b->¬g.F μ b) (hr:∀b,r=some b->∃f,f∈S.ow/\f.F μ b) (hr':∀f,f∈ow'->∀b,r=some b->¬f.F μ b)
  (tJ:(Value.slice a' n' aU).ownBlock=r\/(Value.slice a' n' aU).ownBlock=some w.heap.size) (hn:w.heap.size<w'.heap.size\/(Value.slice a' n' aU).ownBlock=r):
  Sim c K (S.putO d (.xs a' n' aU) none (OF.row (.slice a' n' aU) c.B.heap.size e kd l'::ow')) X μ (a.put d (.slice a' n' aU)) w':=
 aK3 hd H hg lG pA hap hr hr' (λb hb=>by
  rcases tJ with h | h
  ·exact .inl (h.symm.trans hb)
  ·rw[h]at hb;injection hb with hb;exact .inr (Nat.le_of_eq hb))
structure RowZ where
 a:Option Addr
 cap:Nat
theorem aYf (hc:Ctx c P ty nt){all:Array Oper}{i:Nat}{k:List KI}(o:Oper)(ho:all[i]?=some o)(hg:guardOf all S.sl o=some true)(hd:cM nt o.dst=true){t e:Nat}{x y:Operand}{k1 k2:IntKind}{ec:IE}{ti ei:TyI}(kd:IntKind){bytes:Nat}{G:Option Addr->Nat->Nat->List Int->OF}(hG:∀a n cap l,G a n cap l=OF.row (.slice a n cap) c.B.heap.size e kd l)
  (hop:o.op=.makeSlice t x y) (hx:fW S.sl x=some (.i k1 (.l 0))) (hy:fW S.sl y=some (.i k2 ec)) (hti:ty t=some ti) (hk:ti.kind=.slice e 1) (hei:ty e=some ei) (hby:(P.info? e).map (·.bytes)=some bytes) (h0:0<=ec.den) (hle:bytes*ec.den.toNat<=281474976710656) (h63:ec.den.toNat<=9223372036854775807)
  (h:∀a' aU,Goal c K ⟨.ops all (i+1)::k,S.putO o.dst (.xs a' 0 aU) none (G a' 0 aU []::S.ow),[]⟩):Goal c K ⟨.ops all i::k,S,[]⟩:=by
 refine vM hc o ho hg (ι:=RowZ) (K':=λ_=>K) (S':=λz=>S.putO o.dst (.xs z.a 0 z.cap) none (G z.a 0 z.cap []::S.ow)) (p:=λ_=>True) (λX μ a w H=>?_) (λz _=>h z.a z.cap);have e1:=bY (aH H.toP hx (λ_ _=>trivial));have e2:=bY (aH H.toP hy (λ_ _=>trivial));have T:=c.tok t ti (by rw[hc.hty];exact hti);have hu:=T.und;rw[hk]at hu;obtain⟨u1,tj,u2,u3⟩:=hu;obtain⟨tj',z,h1,h2,h3,h4,h5⟩:=(c.tok e ei (by rw[hc.hty];exact hei)).info;rw[u2]at h1;injection h1 with h1;subst h1
 have hb2:tj.bytes=bytes:=by rw[<-hc.hP,u2]at hby;simpa using hby
 obtain⟨n,hn⟩:∃n:Nat,ec.den=n:=⟨ec.den.toNat,zW⟩;rw[hn]at hle h63 e2;simp only[Int.toNat_natCast]at hle h63;obtain⟨w',q1,q2,q3⟩:=run_make_own (P:=c.P) w c.B.heap.size t e tj z 1 u1 u2 h3 u3 k1 k2 n (by rw[hb2];exact hle) (by simpa[maxLen]using h63) H.toP.bel.size;refine⟨⟨some ⟨w.heap.size,0,none⟩,n⟩,.slice (some ⟨w.heap.size,0,none⟩) 0 n,w',X,μ,trivial,?_,?_⟩
 ·simp only[IE.den]at e1;rw[<-hc.hP];simp only[execOp,hop,e1,e2,q1,Sem.run_bind,Result.andThen_ok,Sem.run_pure]
 ·simp only[hG];refine aIb (r:=none) (by rw[hc.hnt];exact hd) H q3 q2 (λf hf=>hf) H.toP.own.apart (λb hb=>by cases hb) (λf hf b hb=>by cases hb) (.inr rfl) (.inl ?_);exact(World.ownsRow.lt q2 w.heap.size rfl).2
theorem fK (hc:Ctx c P ty nt){all:Array Oper}{i:Nat}{k:List KI}(o:Oper)(ho:all[i]?=some o)(hg:guardOf all S.sl o=some true)(hd:cM nt o.dst=true){t e bt j n cap:Nat}{x y:Operand}{kd:IntKind}{a0:Option Addr}{ee:IE}{ti ei:TyI}{l:List Int}{ow':List OF}{bytes:Nat}{G:Option Addr->Nat->Nat->List Int->OF}(hG:∀a n cap l,G a n cap l=OF.row (.slice a n cap) c.B.heap.size e kd l)
  (hop:o.op=.call {callee:=.builtin .append,args:=#[x,y],argTypes:=#[t,t]}) (hx:fW S.sl x=some (.xs a0 n cap)) (hy:fW S.sl y=some (.sl j 0 (.l 1) 1)) (hj:S.hp[j]?=some (.c bt [.i kd ee])) (how:S.ow=G a0 n cap l::ow')
  (hti:ty t=some ti) (hk:ti.kind=.slice e 1) (hei:ty e=some ei) (hag:ei.kind.agg=false) (hby:(P.info? e).map (·.bytes)=some bytes) (hle:(l.length+1)*bytes<=140737488355328) (h63:l.length+1<=9223372036854775807)
  (h:∀a' n' aU l',n'=l.length+1->l'=l++[ee.den]->Goal c K ⟨.ops all (i+1)::k,S.putO o.dst (.xs a' n' aU) none (G a' n' aU l'::ow'),[]⟩):Goal c K ⟨.ops all i::k,S,[]⟩:=by
 refine vM hc o ho hg (ι:=RowZ) (K':=λ_=>K) (S':=λz=>S.putO o.dst (.xs z.a (l.length+1) z.cap) none (G z.a (l.length+1) z.cap (l++[ee.den])::ow')) (p:=λ_=>True) (λX μ a w H=>?_) (λz _=>h z.a (l.length+1) z.cap _ rfl rfl);have P':=H.toP;rw[hG]at how;have e1:=nF (aH H.toP hx (λ_ _=>trivial));obtain⟨b,o1,hb1,e2⟩:=oH (aH H.toP hy (λ_ _=>trivial)) (by simp[IE.den]);simp only[IE.den]at e2;obtain⟨m,hm1,hm2⟩:=yD hb1;have hok:=P'.heap j _ m hj hm1;match m,hm2,hok,hm1 with
 | .own b',hm2,hok,hm1=>
  simp only[MV.at,Option.some.injEq,Prod.mk.injEq]at hm2;obtain⟨rfl,rfl⟩:=hm2;obtain⟨vs,hvs,aA4⟩:=hok;simp only[aF,aD,Option.some.injEq]at hvs;subst hvs;have T:=c.tok t ti (by rw[hc.hty];exact hti);have hu:=T.und;rw[hk]at hu;obtain⟨u1,tj,u2,u3⟩:=hu;obtain⟨tj',z,h1,h2,h3,h4,h5⟩:=(c.tok e ei (by rw[hc.hty];exact hei)).info;rw[u2]at h1;injection h1 with h1;subst h1
  have hzs:z.cells.size=1:=by rw[cells_one (h5.2 hag)];rfl
  have hb2:tj.bytes=bytes:=by rw[<-hc.hP,u2]at hby;simpa using hby
  have hf0:OF.row (.slice a0 n cap) c.B.heap.size e kd l∈S.ow:=by rw[how];exact .head _
  obtain⟨hr0,hr1⟩:=P'.own.at_ _ hf0;have hr0:w.ownsRow c.B.heap.size e 1 (.slice a0 n cap) l.length (l.map (Value.int kd)):=hr0;obtain⟨v',w',q1,q2,q3,q4⟩:=aE3 (P:=c.P) c.B.heap.size t o.type e tj z bytes u1 u2 h3 u3 hb2 hzs _ _ _ hr0 ⟨b',0+0,none⟩ 1 1 [.int kd ee.den] zA (λq u hq=>by
    cases q with
    | zero=>simp at hq;subst hq;simp[add_eq,World.cell?,aA4]
    | succ q=>simp at hq) (λu hu=>by simp at hu;subst hu;rfl) (by simpa[maxLen]using h63) hle P'.bel.size
  have hv':∃a' aU,v'=.slice a' (l.length+1) aU:=by
   rcases q2.2 with⟨h6,h7⟩ | ⟨g,aU,cur,h6,_⟩
   ·omega
   ·exact⟨_,_,h6⟩
  obtain⟨a',aU,rfl⟩:=hv';refine⟨⟨a',aU⟩,.slice a' (l.length+1) aU,w',X,μ,trivial,?_,?_⟩
  ·rw[<-hc.hP];simp only[execOp,hop,resolve,invoke,builtin,Sem.run_bind,Sem.run_pure,Result.andThen_ok,List.map_toArray,List.map_cons,List.map_nil,e1,e2];have:Int.toNat 1=1:=rfl;rw[this,q1];rfl
  ·have hap:=P'.own.apart
   rw[how]at hap;simp only[hG];refine aIb (r:=(Value.slice a0 n cap).ownBlock) (by rw[hc.hnt];exact hd) H q3 (by simpa using q2) (λf hf=>by rw[how];exact .tail _ hf) (List.Pairwise.of_cons hap) (λb hb=>⟨_,hf0,hb⟩) (λf hf b hb hb'=>List.rel_of_pairwise_cons hap hf b hb hb') q4 ?_;rcases q4 with h6 | h6
   ·exact .inr h6
   ·exact .inl (World.ownsRow.lt q2 _ h6).2
theorem oA {ks:List KI}{v:Value}{base e:Nat}{kd:IntKind}{l:List Int}{g:OF}{ow':List OF}(hg:g=OF.row v base e kd l)(h:Goal c (KF.cst v (mY kd l)::K) ⟨ks,{S with ow:=ow'},[]⟩)(hp:okc ks=true:=by exact rfl)(how:S.ow=g::ow':=by exact rfl):Goal c K ⟨ks,S,[]⟩:=by
 refine pN hp (λX μ a w H=>?_) h rfl;have P:=H.toP;rw[hg]at how;have hf0:OF.row v base e kd l∈S.ow:=by rw[how];exact .head _
 obtain⟨hr0,hr1⟩:=P.own.at_ _ hf0;have hap:=P.own.apart;rw[how]at hap;have hr1:∀b,v.ownBlock=some b->c.B.heap.size<=b/\b<w.heap.size/\¬X b/\∀k,μ k≠some (.own b):=hr1;let X':Nat->Prop:=λb=>X b\/v.ownBlock=some b;have pA:∀b,X b->X' b:=λb h=>Or.inl h;have hX:∀b,X' b->X b\/v.ownBlock=some b:=λb h=>h;refine⟨X',μ,tU (S:={S with ow:=ow'}) (f:=KF.cst v (mY kd l)) ⟨⟨P.dfr,P.size,P.slots,λk blk m hk hm=>Blk.ok_congr (λ_=>rfl) pA (P.heap k blk m hk hm),P.all,P.inj,λk b hk=>?_,λb hb=>(hX b hb).elim (P.xlt b) (λh=>(hr1 b h).2.1),λb hb=>(hX b hb).elim (P.xnew b) (λh=>Or.inr (hr1 b h).1),λb hb=>pA b (P.xold b hb),P.bel,lH P.kf pA (Mu.vle_refl _) (λ_ _=>rfl),?_⟩,H.dom⟩ ?_⟩
 ·obtain⟨q1,q2,q3⟩:=P.loc k b hk;exact⟨q1,λhb=>hb.elim q2 (λh=>(hr1 b h).2.2.2 k hk),q3⟩
 ·refine⟨λf hf=>?_,List.Pairwise.of_cons hap⟩;obtain⟨h1,h2⟩:=P.own.at_ f (by rw[how];exact .tail _ hf);refine⟨h1,λb hb=>?_⟩;obtain⟨q1,q2,q3,q4⟩:=h2 b hb;exact⟨q1,q2,λhx=>hx.elim q3 (λh=>List.rel_of_pairwise_cons hap hf b h hb),q4⟩
 ·have hr0:w.ownsRow base e 1 v l.length (l.map (Value.int kd)):=hr0
  show(mY kd l).p v _ w
  rcases hr0.2 with⟨rfl,h2⟩ | ⟨g,cap,cur,rfl,_,hg,hnc,_,hcs,htk⟩
  ·have:l=[]:=List.eq_nil_of_length_eq_zero h2
   subst this;exact⟨none,0,rfl,lRf _,rfl,rfl⟩
  ·refine⟨some (g,0),cap,rfl,hnc,.inr rfl,cur,(e,(0,0)),hg,λi x hx=>?_⟩;have h3:(cur.toList.take (l.length*1))[i]?=some (.int kd x):=by rw[htk];simp[hx]
   rw[List.getElem?_take]at h3;split at h3
   ·simpa using h3
   ·cases h3
theorem bN {x:AV}{aK:List Value}(h:aF μ [x]=some aK):∃v,aK=[v]/\aD μ x=some v:=by
 simp only[aF]at h;split at h
 ·rename_i v ws h1 h2;injection h2 with h2;subst h2
  injection h with h;exact⟨v,h.symm,h1⟩
 ·cases h
theorem bI {x y:AV}{aK:List Value}(h:aF μ [x,y]=some aK):∃v u,aK=[v,u]/\aD μ x=some v/\aD μ y=some u:=by
 rw[aF]at h;split at h
 ·rename_i v ws h1 h2;obtain⟨u,rfl,h3⟩:=bN h2;injection h with h;exact⟨v,u,h.symm,h1,h3⟩
 ·cases h
theorem mS {x y z:AV}{aK:List Value}(h:aF μ [x,y,z]=some aK):∃v u t,aK=[v,u,t]/\aD μ x=some v/\aD μ y=some u/\aD μ z=some t:=by
 rw[aF]at h;split at h
 ·rename_i v ws h1 h2;obtain⟨u,t,rfl,h3,h4⟩:=bI h2;injection h with h;exact⟨v,u,t,h.symm,h1,h3,h4⟩
 ·cases h
theorem BE.not_t {x:BE}(h:(BE.not x).den=true):x.den=false:=by
 have h:(!x.den)=true:=h
 cases hx:x.den with
 | false=>rfl
 | true=>rw[hx]at h;cases h
theorem BE.not_f {x:BE}(h:(BE.not x).den=false):x.den=true:=by
 have h:(!x.den)=false:=h
 cases hx:x.den with
 | true=>rfl
 | false=>rw[hx]at h;cases h
theorem BE.eq_t {a b:IE}(h:(BE.eq a b).den=true):a.den=b.den:=of_decide_eq_true h
theorem BE.eq_f {a b:IE}(h:(BE.eq a b).den=false):a.den≠b.den:=of_decide_eq_false h
theorem BE.lt_t {a b:IE}(h:(BE.lt a b).den=true):a.den<b.den:=of_decide_eq_true h
theorem BE.lt_f {a b:IE}(h:(BE.lt a b).den=false):¬a.den<b.den:=of_decide_eq_false h
theorem BE.le_t {a b:IE}(h:(BE.le a b).den=true):a.den<=b.den:=of_decide_eq_true h
theorem BE.le_f {a b:IE}(h:(BE.le a b).den=false):¬a.den<=b.den:=of_decide_eq_false h
theorem bCs (hc:Ctx c P ty nt)(S1:St){x:Operand}{p q:Code}{k:List KI}{e:BE}(hx:fW S.sl x=some (.b e))(hk:jT k=true)(n:Nat)
  (ht:∀r,e.den=true->Goal c K ⟨.hole r::k,S1,[]⟩->Goal c K (run ty nt K n (.code p::.hole r::k) S []))
  (hf:∀r,e.den=false->Goal c K ⟨.hole r::k,S1,[]⟩->Goal c K (run ty nt K n (.code q::.hole r::k) S []))
  (h:Goal c K ⟨k,S1,[]⟩):Goal c K ⟨.code (.cond x p q)::k,S,[]⟩:=by
 let r:Act->World->Prop:=λa w=>aO c.F c.P c.R k .normal a w
 have hs:bH c K k S1:=by
  have:=h.so
  match k,hk,this with
  | [],_,h=>exact h
  | .code _::_,_,h=>exact h
  | .ops _ _::_,_,h=>exact h
  | .blk _::_,_,h=>exact h
  | .hole _::_,_,h=>exact h
  | .ord _ _::_,_,h=>exact h
 have hr:Goal c K ⟨.hole r::k,S1,[]⟩:=.mk0 (λX μ a w H=>by simpa[aO,r]using hs X μ a w H)
 have strip:∀(z:Code) (S:St),bH c K (.code z::.hole r::k) S->bH c K (.code z::k) S:=λz S h X μ a w H=>by
  have:=h X μ a w H
  simp only[aO]at this |-;refine wpIn_mono this λe a w hq=>?_;cases e<;>simpa[aO,r]using hq
 exact .mk0 (wN hx (λhe=>strip _ _ (dX hc n (ht r he hr))) (λhe=>strip _ _ (dX hc n (hf r he hr))))
structure RowM where
 n:Nat
 l:List Int
theorem rZ (hc:Ctx c P ty nt){all:Array Oper}{i:Nat}{k:List KI}(o:Oper){t e:Nat}{x y:Operand}{k1 k2:IntKind}{ec:IE}{ti ei:TyI}(kd:IntKind){bytes:Nat}
         (hby:(P.info? e).map (·.bytes)=some bytes) (h0:0<=ec.den) (hle:(bytes:Int)*ec.den<=281474976710656) (h63:ec.den<=9223372036854775807)
  (h:∀(N:Nat) (l:List Int),(N:Int)=ec.den->l=List.replicate N 0->Goal c K ⟨.ops all (i+1)::k,S.putO o.dst (.sl S.hp.length 0 (.n N) N) (some (.r e kd l)) S.ow,[]⟩)(ho:all[i]?=some o:=by exact rfl)(hg:guardOf all S.sl o=some true:=by exact rfl)(hd:cM nt o.dst=true:=by exact rfl)(hop:o.op=.makeSlice t x y:=by exact rfl)(hx:fW S.sl x=some (.i k1 ec):=by exact rfl)(hy:fW S.sl y=some (.i k2 ec):=by exact rfl)(hti:ty t=some ti:=by exact rfl)(hk:ti.kind=.slice e 1:=by exact rfl)(hei:ty e=some ei:=by exact rfl)(hz0:ei.zero=[.i kd (.l 0)]:=by exact rfl):Goal c K ⟨.ops all i::k,S,[]⟩:=by
 refine vM hc o ho hg (ι:=RowM) (K':=λ_=>K) (S':=λz=>S.putO o.dst (.sl S.hp.length 0 (.n z.n) z.n) (some (.r e kd z.l)) S.ow) (p:=λz=>(z.n:Int)=ec.den/\z.l=List.replicate z.n 0) (λX μ a w H=>?_) (λz hz=>h z.n z.l hz.1 hz.2);have P':=H.toP;have e1:=bY (aH P' hx (λ_ _=>trivial));have e2:=bY (aH P' hy (λ_ _=>trivial));have T:=c.tok t ti (by rw[hc.hty];exact hti);have hu:=T.und;rw[hk]at hu;obtain⟨u1,tj,u2,u3⟩:=hu;obtain⟨tj',z,h1,h2,h3,h4,h5⟩:=(c.tok e ei (by rw[hc.hty];exact hei)).info;rw[u2]at h1;injection h1 with h1;subst h1
 have hb2:tj.bytes=bytes:=by rw[<-hc.hP,u2]at hby;simpa using hby
 rw[hz0]at h4;have hzc:z.cells=#[.int kd 0]:=by
  simp only[aF,aD,IE.den,Option.some.injEq]at h4;apply Array.ext';rw[<-h4]
 obtain⟨n,hn⟩:∃n:Nat,ec.den=n:=⟨ec.den.toNat,zW⟩;rw[hn]at hle h63 e1 e2;have hr:=run_make (P:=c.P) w t e tj z u1 u2 h3 k1 k2 n n zW (Int.le_refl _) (by rw[hb2];exact hle) h63;simp only[Int.toNat_natCast,u3,Nat.mul_one,hzc]at hr;have hcs:(madeCells #[Value.int kd 0] n)=((List.replicate n (0:Int)).map (Value.int kd)).toArray:=by
  apply Array.ext';rw[toList_madeCells_one];simp
 rw[hcs]at hr;refine⟨⟨n,List.replicate n 0⟩,.slice (some ⟨w.heap.size,0,none⟩) n n,w.alloc (.cells ((List.replicate n (0:Int)).map (Value.int kd)).toArray e),X,μ.upd S.hp.length (.own w.heap.size),⟨hn.symm,rfl⟩,?_,?_⟩
 rotate_left
 ·refine(mQ (Kn:=[]) H (by rw[hc.hnt];exact hd) (cV.alloc (blk:=.r e kd (List.replicate n 0)) P'.own P'.bel.size (H.dom _ (lRf _)) P'.xlt (λμ' w' _ hw=>hw) (λμ' _ hm=>?_)) (λf hf=>by cases hf));rw[iU (len:=.n n) (a:=some (w.heap.size,0)) (aGt (rB hm)) (by simp[IE.den]) (λe=>by cases e)];simp[IE.den]
 ·rw[<-hc.hP];simp only[execOp,hop,e1,e2,hr,Sem.run_bind,Result.andThen_ok,Sem.run_pure]
def jG (R1 R2:VF):VF where
 p v X w:=∃v1 v2,v=.tuple #[v1,v2]/\R1.p v1 X w/\R2.p v2 X w
 st v X X' w w' hs hw h:=by
  obtain⟨v1,v2,h1,h2,h3⟩:=h;exact⟨v1,v2,h1,R1.st _ _ _ _ _ hs hw h2,R2.st _ _ _ _ _ hs hw h3⟩
theorem mZ {ks:List KI}(d k:Nat){R1 R2:VF}(hp:jT ks=true)(hl:look S.sl d=some (.e k))(hf:KF.at k (jG R1 R2)∈K)
  (h:Goal c (KF.at S.hp.length R1::KF.at (S.hp.length+1) R2::K) ⟨ks,{S with sl:=(d,.t [.e S.hp.length,.e (S.hp.length+1)])::S.sl,hp:=S.hp++[.e,.e]},[]⟩):Goal c K ⟨ks,S,[]⟩:=by
 refine oR hp (λX μ a w H=>?_) h;obtain⟨v,hv,hs⟩:=H.toP.slots d _ trivial hl;obtain⟨v1,v2,e1,r1,r2⟩:=H.toP.val hf hv;have H1:=sB H (blk:=.e) (m:=.val v1) (λb e=>by cases e) trivial;have H2:=sB H1 (blk:=.e) (m:=.val v2) (λb e=>by cases e) trivial;have hl1:(S.hp++[Blk.e]).length=S.hp.length+1:=zA;simp only[hl1,List.append_assoc,List.cons_append,List.nil_append]at H2;have bHp:=Mu.le_upd (b:=.val v1) (H.dom _ (lRf _));have bEr:(μ.upd S.hp.length (.val v1)) (S.hp.length+1)=none:=by
  have:=H1.dom (S.hp.length+1) zA
  exact this
 have bE2:=Mu.le_upd (b:=.val v2) bEr
 have m1:((μ.upd S.hp.length (.val v1)).upd (S.hp.length+1) (.val v2)) S.hp.length=some (.val v1):=bE2 _ _ (Mu.upd_same _ _ _)
 have m2:((μ.upd S.hp.length (.val v1)).upd (S.hp.length+1) (.val v2)) (S.hp.length+1)=some (.val v2):=Mu.upd_same _ _ _
 have H3:=jW (d:=d) (av:=.e k) (av':=.t [.e S.hp.length,.e (S.hp.length+1)]) H2 hl (by
  rw[iN bE2 _ _ (iN bHp _ _ hv)];simp[aD,aF,m1,m2,e1])
 exact⟨X,_,tU (tU H3 (f:=KF.at (S.hp.length+1) R2) ⟨v2,m2,r2⟩) (f:=KF.at S.hp.length R1) ⟨v1,m1,r1⟩⟩
theorem aSu {c:Cx}{K:List KF}{n0:Nat}{D:Nat->Prop}{S:St}{o:Oper}{g:Nat}{avs:List AV}{av:AV}(h:iS S.sl o.op=some (g,avs))(hD:∀t,Operand.tmp t∈o.op.operands->D t)(hg:aB c.P g)
  (hp:∀X μ a w aK,PSim c K n0 D S X μ a w->aF μ avs=some aK->∃X2 r,Fn c.P g aK X2 w (eE r)/\aD μ av=some r):Cert c K n0 D S o av none [] S.ow:=by
 refine qJ h hD hg λX μ a w aK H hv=>?_;obtain⟨X2,r,hf,hr⟩:=hp X μ a w aK H hv;refine Calls.mono (hf H.glob) ?_;rintro e w' ⟨v,X',rfl,hb,_,_,hr'⟩;have hr':v=r:=hr';subst hr';exact⟨X,v,rfl,mI H hb hr,λf hf=>by cases hf⟩
theorem bF0 (hc:Ctx c P ty nt)(av:AV){g:Nat}{avs:List AV}{all:Array Oper}{i:Nat}{k:List KI}{S:St}(hg:aB P g)
  (hp:∀n0 D X μ a w aK,PSim c K n0 D S X μ a w->aF μ avs=some aK->∃X2 r,Fn P g aK X2 w (eE r)/\aD μ av=some r) (n:Nat)
  (h:Goal c K (run ty nt K n (.ops all (i+1)::k) (S.putO (eX all i) av none S.ow) [])):Goal c K ⟨.cal g avs all i::k,S,[]⟩:=
 .mk0 (aAk (Kn:=[]) (λo n0 D ho hD _=>aSu ho hD (hc.hP▸hg) (λX μ a w aK H hv=>hc.hP▸hp n0 D X μ a w aK H hv)) (dX hc n h))
theorem PSim.rowOwn {n0:Nat}{D:Nat->Prop}(H:PSim c K n0 D S X μ a w){k bt cap:Nat}{kd:IntKind}{l:List Int}{len:IE}{v:Value}(hk:S.hp[k]?=some (.r bt kd l))(hv:aD μ (.sl k 0 len cap)=some v)(hl:len.den=(l.length:Int))(hc:l.length<=cap):
  ∃b,v=.slice (some ⟨b,0,none⟩) l.length cap/\b<w.heap.size/\(mY kd l).p v (λx=>X x\/x=b) w/\w.heap[b]?=some (.cells (l.map (Value.int kd)).toArray bt (0,0))/\μ k=some (.own b):=by
 obtain⟨ad,h1,h2,h3,h4⟩:=pH hv;cases hm:μ k with
 | none=>simp[atS,hm]at h1
 | some m=>
  have hok:=H.heap k _ m hk hm
  simp only[atS,hm,Option.bind_some]at h1;match m,h1,hok,hm with
  | .own b,h1,hok,hm=>
   have hok:w.heap[b]?=some (.cells (l.map (Value.int kd)).toArray bt (0,0)):=hok
   simp only[MV.atS,Option.some.injEq]at h1;subst h1;have hv':v=.slice (some ⟨b,0,none⟩) l.length cap:=by rw[h2,hl];simp
   refine⟨b,hv',(H.loc k b hm).2.2,?_,hok,rfl⟩;refine⟨some (b,0),cap,by rw[hv'];rfl,hc,.inr rfl,_,(_,(0,0)),hok,λi x hx=>?_⟩;simp[hx]
def FnO (P:Program)(g:Nat)(args:List Value)(X:Nat->Prop)(w:World)(e:Nat)(kd:IntKind)(l:List Int):Prop:=
 Glob P w->Calls P g args.toArray w λex w'=>∃(v:Value) (X':Nat->Prop),ex=.returned v/\Below w.heap.size w w'/\(∀b,X b->X' b)/\w'.ownsRow w.heap.size e 1 v l.length (l.map (Value.int kd))/\∀b,v.ownBlock=some b->¬X' b
def bDm (c:Cx)(fn:Func)(e:Nat)(kd:IntKind)(l:List Int):Prop:=
 aB9 c fn λv w'=>∃(X':Nat->Prop),Below c.B.heap.size c.B w'/\(∀b,c.X0 b->X' b)/\w'.ownsRow c.B.heap.size e 1 v l.length (l.map (Value.int kd))/\∀b,v.ownBlock=some b->¬X' b
theorem aW3 (hm:P.follows .mixedOrders=true)(tok:∀t i,ty t=some i->TyOk P t i){g:Nat}{fn:Func}{code:Code}{args:List Value}(avs:List AV){X:Nat->Prop}{w:World}{e:Nat}{kd:IntKind}{l:List Int}
  (hf:P.funcs[g]?=some fn) (hb:fn.body=some code) (ha:aF hJ avs=some args) (hn:args.length<=fn.ntmps) (hnt:fn.ntmps=nt) (hx:∀b,X b->b<w.heap.size) (hk:∀f,f∈K->f.p X hJ w)
  (h:∀(c:Cx),Ctx c P ty nt->bDm c fn e kd l->Goal c K ⟨[.code code],⟨oY 0 avs,[],[]⟩,[]⟩):FnO P g args X w e kd l:=by
 intro hgl;refine Calls.mono (enter tok hf hb hn ha hgl (K:=K) (X0:=X) (R:=λv w'=>∃(X':Nat->Prop),Below w.heap.size w w'/\(∀b,X b->X' b)/\w'.ownsRow w.heap.size e 1 v l.length (l.map (Value.int kd))/\∀b,v.ownBlock=some b->¬X' b) hx hk λc h1 h2 h3 h4 h5 h6=>?_) ?_
 ·subst h4;subst h5;exact(h c ⟨h1,h2,h3.trans hnt,hm⟩ h6).so
 ·rintro ex w' ⟨v,rfl,X',h1,h2,h3,h4⟩;exact⟨v,X',rfl,h1,h2,h3,h4⟩
theorem bCv (hc:Ctx c P ty nt){fn:Func}{e:Nat}{kd:IntKind}{l:List Int}(hR:bDm c fn e kd l){av:AV}(h:nC ty S fn.results.toList=some av)
  (hr:∀X μ a w v,Sim c K S X μ a w->aD μ av=some v->w.ownsRow c.B.heap.size e 1 v l.length (l.map (Value.int kd))/\∀b,v.ownBlock=some b->¬X b):Goal c K ⟨[],S,[]⟩:=by
 refine .mk0 (aU1 av hR (by rw[hc.hty];exact h) λX μ a w v H hv=>⟨X,H.toP.bel,H.toP.xold,hr X μ a w v H hv⟩)
theorem aYd (hc:Ctx c P ty nt){g:Nat}{avs:List AV}{all:Array Oper}{i:Nat}{k:List KI}{e:Nat}{kd:IntKind}{l:List Int}(hg:aB P g){G:Option Addr->Nat->Nat->List Int->OF}(hG:∀a n cap l,G a n cap l=OF.row (.slice a n cap) c.B.heap.size e kd l)
  (hp:∀X μ a w aK,Sim c K S X μ a w->aF μ avs=some aK->FnO P g aK X w e kd l)
  (h:∀a' n' aU,n'=l.length->Goal c K ⟨.ops all (i+1)::k,S.putO (eX all i) (.xs a' n' aU) none (G a' n' aU l::S.ow),[]⟩):Goal c K ⟨.cal g avs all i::k,S,[]⟩:=by
 refine .mk0 (λaTn X μ a w H=>?_);obtain⟨o,ho,aA3,hd,hgd⟩:=aTn.out;have hlt:i<all.size:=(Array.getElem?_eq_some_iff.1 ho).1;obtain⟨aK,h1,h2⟩:=sZ H.toP aA3 (λ_ _=>trivial) (hc.hP▸hg);simp only[aO];rw[gP hlt];simp only[wpOpsIn,ho];rw[if_pos (cH H.toP hgd (λ_ _=>trivial))];have hf:=hp X μ a w aK H h1;rw[<-hc.hP]at hf;refine qY h2 (Calls.mono (hf H.toP.glob) ?_);rintro ex w' ⟨v,X',rfl,hb,hs,lG,hnx⟩;refine⟨v,rfl,?_⟩;have hB:=H.toP.bel.size;have hv':∃a' aU,v=.slice a' l.length aU/\∀b,v.ownBlock=some b->w.heap.size<=b:=by
  rcases lG.2 with⟨h6,h7⟩ | ⟨gb,aU,cur,h6,h7,_⟩
  ·exact⟨none,0,by rw[h6,h7],λb hb=>by rw[h6]at hb;cases hb⟩
  ·exact⟨_,aU,h6,λb hb=>by rw[h6]at hb;simp[Value.ownBlock]at hb;omega⟩
 obtain⟨a',aU,rfl,hwb⟩:=hv';have bFc:w'.ownsRow c.B.heap.size e 1 (.slice a' l.length aU) l.length (l.map (Value.int kd)):=by
  refine⟨lG.1,?_⟩;rcases lG.2 with h6 | ⟨gb,cp,cur,h6,h7,h8⟩
  ·exact .inl h6
  ·exact .inr ⟨gb,cp,cur,h6,lTr hB h7,h8⟩
 have hde:eX all i=o.dst:=by simp[eX,ho]
 have H':=aK3 (d:=o.dst) hd H (r:=none) ⟨hb.os,hb.tape,hb.output,hb.size,λk hk _=>hb.block k hk⟩ bFc (λf hf=>hf) H.toP.own.apart (λb hb=>by cases hb) (λf hf b hb=>by cases hb) (λb hb=>.inr (hwb b hb))
 have:=(h a' l.length aU rfl).so X μ _ w' (by rw[hde,hG];exact H')
 simpa[aO]using this
theorem aNh {ks:List KI}(d:Nat){a0:Option Addr}{n cap e base:Nat}{kd:IntKind}{l:List Int}{g:OF}{ow':List OF}(hp:jT ks=true)(hl:look S.sl d=some (.xs a0 n cap))(hg:g=OF.row (.slice a0 n cap) base e kd l)(how:S.ow=g::ow')(hne:l≠[])
  (h:∀N,N=l.length->N<=cap->Goal c K ⟨ks,{sl:=(d,.sl S.hp.length 0 (.n N) cap)::S.sl,hp:=S.hp++[.w e kd l],ow:=ow'},[]⟩):Goal c K ⟨ks,S,[]⟩:=by
 refine jD (ι:=Unit) (K':=λ_=>K) (S':=λ_=>{sl:=(d,.sl S.hp.length 0 (.n l.length) cap)::S.sl,hp:=S.hp++[.w e kd l],ow:=ow'}) (p:=λ_=>l.length<=cap) hp (λX μ a w H=>?_) (λ_ hle=>h l.length rfl hle);have P:=H.toP;rw[hg]at how;have hf0:OF.row (.slice a0 n cap) base e kd l∈S.ow:=by rw[how];exact .head _
 obtain⟨hr0,hr1⟩:=P.own.at_ _ hf0;have hap:=P.own.apart;rw[how]at hap;have hr0:w.ownsRow base e 1 (.slice a0 n cap) l.length (l.map (Value.int kd)):=hr0;rcases hr0.2 with⟨h1,h2⟩ | ⟨gb,cp,cur,h1,_,bG6,hnc,_,hcs,htk⟩
 ·exact absurd (List.eq_nil_of_length_eq_zero h2) hne
 ·injection h1 with h1 h2 h3
  subst h1;subst h2;subst h3;obtain⟨q1,q2,q3,q4⟩:=hr1 gb rfl;have hle:Mu.le μ (μ.upd S.hp.length (.own gb)):=Mu.le_upd (H.dom _ (lRf _));have sM:∀k m,(μ.upd S.hp.length (.own gb)) k=some m->μ k=some m\/(k=S.hp.length/\m=.own gb):=λk m hk=>by
   unfold Mu.upd at hk;split at hk
   ·rename_i e1;injection hk with hk;exact .inr ⟨e1,hk.symm⟩
   ·exact .inl hk
  have aBg:=Mu.upd_same μ S.hp.length (.own gb)
  refine⟨(),X,μ.upd S.hp.length (.own gb),hnc,⟨⟨P.dfr,P.size,?_,?_,?_,?_,?_,P.xlt,P.xnew,P.xold,P.bel,lH P.kf (λ_ h=>h) hle.v (λ_ _=>rfl),?_⟩,?_⟩⟩
  ·intro t b _ hb;by_cases e1:d=t
   ·subst e1;rw[bK]at hb;injection hb with hb;subst hb
    obtain⟨v,hv,hs⟩:=P.slots d _ trivial hl;refine⟨v,?_,hs⟩;rw[<-hv];refine(iU (len:=.n l.length) (a:=some (gb,0)) (by simp[atS,aBg,MV.atS]) (by simp[IE.den]) (λe=>by cases e)).trans ?_;simp[aD,IE.den]
   ·rw[bE e1]at hb;obtain⟨v,hv,hs⟩:=P.slots t b trivial hb;exact⟨v,iN hle _ _ hv,hs⟩
  ·intro k blk m hk hm;rcases sM k m hm with h1 | ⟨h1,h2⟩
   ·have hkl:k<S.hp.length:=by
     rcases Nat.lt_or_ge k S.hp.length with h | h
     ·exact h
     ·rw[H.dom k h]at h1;cases h1
    rw[List.getElem?_append_left hkl]at hk;exact Blk.ok_keep hle (λ_ h=>h) (λ_ _=>rfl) (λ_ _=>rfl) (P.heap k blk m hk h1)
   ·subst h1;subst h2;simp at hk;subst hk;refine⟨cur.toList.drop (l.length*1),?_⟩;rw[bG6,<-htk,List.take_append_drop]
  ·intro k hk;simp at hk;rcases Nat.lt_or_ge k S.hp.length with h | h
   ·obtain⟨m,hm⟩:=P.all k h;exact⟨m,hle _ _ hm⟩
   ·have:k=S.hp.length:=zW
    subst this;exact⟨_,aBg⟩
  ·intro k k' b h1 h2;rcases sM k _ h1 with p1 | ⟨p1,e1⟩<;>rcases sM k' _ h2 with p2 | ⟨p2,e2⟩
   ·exact P.inj k k' b p1 p2
   ·injection e2 with e2;subst e2;exact absurd p1 (q4 k)
   ·injection e1 with e1;subst e1;exact absurd p2 (q4 k')
   ·omega
  ·intro k b h1;rcases sM k _ h1 with h1 | ⟨h1,e1⟩
   ·exact P.loc k b h1
   ·injection e1 with e1;subst e1;exact⟨q1,q3,q2⟩
  ·refine⟨λf hf=>?_,?_⟩
   ·obtain⟨h1,h2⟩:=P.own.at_ f (by rw[how];exact .tail _ hf);obtain⟨h3,h4⟩:=f.st μ _ w w hle.v (λ_ _=>rfl) h1;refine⟨h3,λb hb=>?_⟩;obtain⟨r1,r2,r3,r4⟩:=h2 b ((h4 b).1 hb);refine⟨r1,r2,r3,λk hk=>?_⟩;rcases sM k _ hk with h5 | ⟨_,e5⟩
    ·exact r4 k h5
    ·injection e5 with e5;subst e5
     exact List.rel_of_pairwise_cons hap hf b rfl ((h4 b).1 hb)
   ·refine(List.Pairwise.of_cons hap).imp_of_mem λ{f g'} hf hg' hq b hb hb'=>?_;have m1:=P.own.at_ f (by rw[how];exact .tail _ hf);have m2:=P.own.at_ g' (by rw[how];exact .tail _ hg');exact hq b (((f.st μ _ w w hle.v (λ_ _=>rfl) m1.1).2 b).1 hb) (((g'.st μ _ w w hle.v (λ_ _=>rfl) m2.1).2 b).1 hb')
  ·intro k hk;simp at hk;have:k≠S.hp.length:=zW;simp only[Mu.upd,if_neg this];exact H.dom k zW
theorem aGe {ks:List KI}(k:Nat){bt:Nat}{kd:IntKind}{l:List Int}(hp:okc ks=true)(hk:S.hp[k]?=some (.w bt kd l))
  (h:∀f N,N=l.length->(∀i x,l[i]?=some x->f i=x)->Goal c K ⟨ks,{S with hp:=S.hp.set k (.xi kd N f)},[]⟩):Goal c K ⟨ks,S,[]⟩:=by
 refine pN hp (λX μ a w H=>?_) (h (λi=>l.getD i 0) l.length rfl (λi x hx=>by simp[List.getD_eq_getElem?_getD,hx])) rfl;obtain⟨m,hm⟩:=H.toP.all k (List.getElem?_eq_some_iff.1 hk).1;have hok:=H.toP.heap k _ m hk hm;match m,hm,hok with
 | .own b,hm,hok=>
  obtain⟨rest,hok⟩:=hok;exact wL H hk hm (λX' μ' hx=>⟨hx,_,(_,(0,0)),hok,λi hi=>by
   rw[Nat.zero_add,List.getElem?_toArray,List.getElem?_append_left (by simpa using hi)];simp[hi]⟩)
end
end Go.Ai
