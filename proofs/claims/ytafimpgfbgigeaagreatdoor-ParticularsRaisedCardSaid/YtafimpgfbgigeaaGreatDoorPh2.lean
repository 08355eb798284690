/- Part 3: lemmas for the particulars laws -/
import Derived.Test.YtafimpgfbgigeaaGreatDoorPh1
set_option linter.all false
namespace Go.Ai
open Go Go.RowKit
theorem aEb {c:Cx}{b:Code}{k:List KI}{ι:Type}(I:ι->St)(KK:ι->List KF)(m:ι->Nat)
  (h:∀(p:Act->World->Prop) x,(∀y,m y<m x->bH c (KK y) (.hole p::k) (I y))->bH c (KK x) (.code b::.hole p::k) (I x)):
  ∀x,bH c (KK x) (.code (.loop b)::k) (I x):=by
 have key:∀N x,m x<N->∀X μ a w,Sim c (KK x) (I x) X μ a w->Code.roundsIn c.F 0 c.P b (aO c.F c.P c.R k) N a w:=by
  intro N;induction N with
  | zero=>intro x hx;omega
  | succ N ih=>
   intro x hx X μ a w H;rw[roundsIn_succ];have:=h (Code.roundsIn c.F 0 c.P b (aO c.F c.P c.R k) N) x (λy hy X' μ' a' w' H'=>by
    simpa[aO]using ih y zW X' μ' a' w' H') X μ a w H
   simp only[aO]at this;exact wpIn_mono this λe a w hq=>by cases e<;>simpa[aO,Exit.then]using hq
 intro x X μ a w H;simp only[aO];exact wpIn_loop_rounds _ (key (m x+1) x (Nat.lt_succ_self _) X μ a w H)
def St.setBlk (S:St)(k:Nat)(b:Blk):St:={S with hp:=S.hp.set k b}
def fst (ty:Nat->Option TyI)(S:St)(op:Op):Option St:=
 match op with
 | .store t x y=>match ty t,fW S.sl x,fW S.sl y with
  | some i,some (.p k off),some a=>match S.hp[k]?,cellsOf a with
   | some (.c bt cells),some l=>
    if l.length=i.size/\off+l.length<=cells.length/\l.all AV.one=true then some (S.setBlk k (.c bt (pL cells off l)))else none
   | _,_=>none
  | _,_,_=>none
 | _=>none
theorem gJ (b:Nat)(ty:TypeId):∀(vs:List Value) (o:Nat) (w:World) (cs:Array Value),w.heap[b]?=some (.cells cs ty (0,0))->o+vs.length<=cs.size->
  (w.setCells b o vs).heap[b]?=some (.cells ((vs.zipIdx 0).foldl (λcs (x:Value × Nat)=>cs.setIfInBounds (o+x.2) x.1) cs) ty (0,0))
 | [],o,w,cs,h,_=>by simpa[World.setCells]using h
 | v::vs,o,w,cs,h,hle=>by
  simp only[World.setCells];have h1:=heap_setCell_same w b o cs ty v h;have h2:=gJ b ty vs (o+1) _ _ h1 (by simp at hle |-;omega);rw[h2];congr 2;rw[List.zipIdx_cons,List.foldl_cons];have:∀(l:List Value) (j:Nat) (cs:Array Value),(l.zipIdx j).foldl (λcs (x:Value × Nat)=>cs.setIfInBounds (o+1+x.2) x.1) cs=(l.zipIdx (j+1)).foldl (λcs (x:Value × Nat)=>cs.setIfInBounds (o+x.2) x.1) cs:=by
   intro l;induction l with
   | nil=>intro j cs;rfl
   | cons x l ih=>intro j cs;rw[List.zipIdx_cons,List.zipIdx_cons,List.foldl_cons,List.foldl_cons,ih];simp only[show o+1+j=o+(j+1) from zW]
  exact this vs 0 _
theorem fN (b:Nat):∀(vs:List Value) (o:Nat) (w:World) (k:Nat),k≠b->(w.setCells b o vs).heap[k]?=w.heap[k]?
 | [],_,_,_,_=>rfl
 | v::vs,o,w,k,h=>by rw[World.setCells,fN b vs (o+1) _ k h,heap_setCell_other _ _ _ _ h]
theorem fM {B:Nat}(b:Nat)(hb:B<=b){w0:World}:∀(vs:List Value) (o:Nat) (w:World),Below B w0 w->Below B w0 (w.setCells b o vs)
 | [],_,_,h=>h
 | v::vs,o,w,h=>fM b hb vs (o+1) _ (h.setCell hb v)
theorem setCells_size (b:Nat):∀(vs:List Value) (o:Nat) (w:World),(w.setCells b o vs).heap.size=w.heap.size
 | [],_,_=>rfl
 | v::vs,o,w=>by rw[World.setCells,setCells_size b vs];simp
theorem aIc {c:Cx}{K:List KF}{S:St}{X:Nat->Prop}{μ:Mu}{a:Act}{w:World}(H:Sim c K S X μ a w){k b:Nat}(hb:μ k=some (.own b)){blk:Blk}{w':World}(hs:w'.heap.size=w.heap.size)(hbl:Below c.B.heap.size c.B w')
  (ho:∀j,j≠b->w'.heap[j]?=w.heap[j]?) (hn:blk.ok X μ w' (.own b)):Sim c K (S.setBlk k blk) X μ a w':=by
 have P:=H.toP
 have hlen:(S.setBlk k blk).hp.length=S.hp.length:=by simp[St.setBlk]
 have hxb:∀b',X b'->b'≠b:=λb' hx e=>(P.loc k b hb).2.1 (e▸hx)
 refine⟨⟨P.dfr,P.size,P.slots,?_,?_,P.inj,?_,?_,P.xnew,P.xold,hbl,?_,?_⟩,by rw[hlen];exact H.dom⟩
 ·intro j bj b' hj hm;by_cases hjk:j=k
  ·subst hjk;rw[hb]at hm;injection hm with hm;subst hm
   simp only[St.setBlk,List.getElem?_set]at hj;rw[if_pos trivial]at hj;split at hj
   ·injection hj with hj;subst hj;exact hn
   ·cases hj
  ·simp only[St.setBlk,List.getElem?_set]at hj;rw[if_neg (λe=>hjk e.symm)]at hj;exact Blk.ok_keep (Mu.le_refl _) (λ_ h=>h) (λb' hx=>ho b' (hxb b' hx)) (λb'' e=>ho b'' (λe'=>hjk (P.inj j k b (by rw[hm,e,e']) hb))) (P.heap j bj b' hj hm)
 ·rw[hlen];exact P.all
 ·intro j b' hm;obtain⟨h1,h2,h3⟩:=P.loc j b' hm;exact⟨h1,h2,zW⟩
 ·intro b' hx;have:=P.xlt b' hx;omega
 ·exact lH P.kf (λ_ h=>h) (Mu.vle_refl _) (λb' hx=>ho b' (hxb b' hx))
 ·refine⟨λf hf=>?_,P.own.apart⟩;obtain⟨h1,h2⟩:=P.own.at_ f hf;refine⟨(f.st μ μ w w' (Mu.vle_refl _) (λj hj=>ho j (λe=>(h2 j hj).2.2.2 k (by rw[e];exact hb))) h1).1,λj hj=>?_⟩;obtain⟨q1,q2,q3,q4⟩:=h2 j hj;exact⟨q1,zW,q3,q4⟩
theorem yD {μ:Mu}{k:Nat}{x:Nat × Nat}(h:rA μ k=some x):∃m,μ k=some m/\m.at=some x:=by
 unfold rA at h;cases hk:μ k with
 | none=>rw[hk]at h;cases h
 | some m=>rw[hk]at h;exact⟨m,rfl,h⟩
theorem uN {μ:Mu}:∀{l:List AV} {vs:List Value},l.all AV.one=true->aF μ l=some vs->∀v,v∈vs->v.oneCell'=true
 | [],vs,_,h,v,hv=>by simp[aF]at h;subst h;cases hv
 | x::l,vs,h1,h,v,hv=>by
  simp only[aF]at h;simp only[List.all_cons,Bool.and_eq_true]at h1;split at h
  ·rename_i u us h2 h3;injection h with h;subst h
   rcases List.mem_cons.1 hv with e | e
   ·subst e;exact AV.one_spec h1.1 h2
   ·exact uN h1.2 h3 v e
  ·cases h
theorem aRc {c:Cx}{K:List KF}{S S':St}{X:Nat->Prop}{μ:Mu}{a:Act}{w:World}(H:Sim c K S X μ a w){o:Oper}(h:fst c.ty S o.op=some S'):
  ∃w',(execOp a.eval o).run c.P w=.ok .skip w'/\Sim c K S' X μ a w':=by
 unfold fst at h;split at h
 ·rename_i t x y hx;split at h
  ·rename_i i k off av hi hxa hya;split at h
   ·rename_i bt cells l hk hl;split at h
    ·rename_i mM;injection h with h;subst h
     have e1:=aH H.toP hxa (λ_ _=>trivial)
     have e2:=aH H.toP hya (λ_ _=>trivial)
     obtain⟨b0,o0,hb0,hb2⟩:=pT e1;have hcl:=kZ hl e2;obtain⟨m,hb1,hma⟩:=yD hb0;have hok:=H.toP.heap k _ m hk hb1;cases m with
     | ext=>exact hok.elim
     | val=>exact hok.elim
     | own b=>
     simp only[MV.at,Option.some.injEq,Prod.mk.injEq]at hma;obtain⟨rfl,rfl⟩:=hma;rw[Nat.zero_add]at hb2;obtain⟨cs,hcs,ho⟩:=hok;obtain⟨ti,z,h1,h2,h3,h4,h5⟩:=(c.tok _ i hi).info;have hlen:=bC hcl;have aT1:=bC hcs;have mA:=uN mM.2.2 hcl;have hwr:(Instr.storeAt t (a.eval x) (a.eval y)).run c.P w=.ok () (w.setCells b off (a.eval y).cells.toList):=by
      rw[hb2];simp only[Instr.storeAt,Instr.sureAddr,Sem.run_bind,Sem.run_pure,Result.andThen_ok,storeVar,dD h1];rw[if_neg (by simp at hlen;omega)];have:=run_storeCells_cells (P:=c.P) b off (a.eval y).cells.toList 0 w
       (λj hj=>by simp[World.cell?,ho];simp at hlen hj;omega)
       (λj hj=>by simp[World.frozen?,ho]) mA
      simpa using this
     refine⟨w.setCells b off (a.eval y).cells.toList,by simp only[execOp,hx,Sem.run_bind,hwr,Result.andThen_ok,Sem.run_pure],?_⟩;refine aIc H hb1 (setCells_size _ _ _ _) (fM b (H.toP.loc k b hb1).1 _ _ _ H.toP.bel) (λj hj=>fN b _ _ _ j hj) ?_;refine⟨_,rX hcs hcl mM.2.1,(gJ b bt _ off w cs.toArray ho (by simp at hlen |-;omega)).trans ?_⟩;congr 2;rw[<-Array.foldl_toList];simp
    ·cases h
   ·cases h
  ·cases h
 ·cases h
theorem aK8 {c:Cx}{K:List KF}{all:Array Oper}{i:Nat}{k:List KI}{S S':St}{o:Oper}(ho:all[i]?=some o)(hw:∀X μ a w,Sim c K S X μ a w->Region.wanted o (yielded all a.tmps)=true)
  (hd:o.dst=none) (hf:fst c.ty S o.op=some S') (h:bH c K (.ops all (i+1)::k) S'):bH c K (.ops all i::k) S:=by
 intro X μ a w H;have hlt:i<all.size:=(Array.getElem?_eq_some_iff.1 ho).1;simp only[aO];rw[gP hlt];simp only[wpOpsIn,ho];rw[if_pos (hw X μ a w H)];obtain⟨w',hr,H'⟩:=aRc H hf;refine tW hr ?_;rw[hd];simpa[aO,Act.put]using h X μ a w' H'
def iS (S:List (Nat × AV)):Op->Option (Nat × List AV)
 | .call {callee:=.value f,args,..}=>match fW S f,aKj S args.toList with
  | some (.f (.func g) fs cap),some zas=>some (g,fs++zas++cap)
  | _,_=>none
 | _=>none
structure aB (P:Program)(g:Nat):Prop where
 out:∃fn,P.funcs[g]?=some fn/\(fn.name== "runtime.NumGoroutine")=false/\fn.body.isNone=false
theorem sZ {c:Cx}{K:List KF}{n0:Nat}{D:Nat->Prop}{S:St}{X:Nat->Prop}{μ:Mu}{a:Act}{w:World}(H:PSim c K n0 D S X μ a w){o:Oper}{g:Nat}{avs:List AV}(h:iS S.sl o.op=some (g,avs))
  (hD:∀t,Operand.tmp t∈o.op.operands->D t) (hg:aB c.P g):∃aK,aF μ avs=some aK/\(execOp a.eval o).run c.P w=.ok (.enter g aK.toArray) w:=by
 unfold iS at h;split at h
 ·rename_i f args tys hx;split at h
  ·rename_i g' fs cap zas hf has;injection h with h
   injection h with e1 e2
   subst e1;subst e2;have h1:=aH H hf (λt e=>hD t (by rw[hx];simp[Op.operands,Call.operands,e]));have h2:=oP H has (λt e=>hD t (by rw[hx];simp[Op.operands,Call.operands];exact .inr (by simpa using e)));obtain⟨us,vs,h0,h3,h4⟩:=aHf h1;refine⟨_,lB (lB h0 h2) h3,?_⟩;obtain⟨fn,q1,q2,q3⟩:=hg.out;have q2':¬fn.name= "runtime.NumGoroutine":=by simpa using q2
   have q3':¬fn.body=none:=by intro e;rw[e]at q3;cases q3
   have e5:us.toArray++args.map a.eval++vs.toArray=(us++(args.toList.map a.eval++vs)).toArray:=by apply Array.ext';simp
   simp[execOp,hx,resolve,h4,Deferred.ofValue,invoke,callFunc,q1,q2',q3',e5]
  ·cases h
 ·cases h
theorem qJ {c:Cx}{K Kn:List KF}{n0:Nat}{D:Nat->Prop}{S:St}{o:Oper}{g:Nat}{avs:List AV}{av:AV}{ow:List OF}(h:iS S.sl o.op=some (g,avs))(hD:∀t,Operand.tmp t∈o.op.operands->D t)(hg:aB c.P g)
  (hc:∀X μ a w aK,PSim c K n0 D S X μ a w->aF μ avs=some aK->Calls c.P g aK.toArray w λe w'=>∃X' v,e=.returned v/\cV c S X μ w av none ow X' μ v w'/\∀f,f∈Kn->f.p X' μ w'):
  Cert c K n0 D S o av none Kn ow:=by
 intro X μ a w next Q H _ hn
 obtain⟨aK,h1,h2⟩:=sZ H h hD hg;refine qY h2 ((hc X μ a w aK H h1).mono ?_);rintro e w' ⟨X',v,rfl,hp,hk⟩;exact⟨v,rfl,hn X' μ v w' hp hk⟩
def Pure (P:Program)(g:Nat)(args:List Value)(r:Value):Prop:=
 ∀w,Glob P w->Calls P g args.toArray w λe w'=>e=.returned r/\Below w.heap.size w w'
theorem mI {c:Cx}{K:List KF}{n0:Nat}{D:Nat->Prop}{S:St}{X:Nat->Prop}{μ:Mu}{a:Act}{w w':World}(H:PSim c K n0 D S X μ a w){av:AV}{v:Value}(h:Below w.heap.size w w')(hv:aD μ av=some v):cV c S X μ w av none S.ow X μ v w':=
 ⟨h.mono H.bel.size,λb hb _=>h.block b hb,hv,rfl,λ_ h=>h,λ_ h=>.inl h,H.own.keep (Mu.le_refl _) h.size h.block (λb h=>.inl h) (λk b h=>.inl h)⟩
theorem aFh {c:Cx}{K:List KF}{n0:Nat}{D:Nat->Prop}{S:St}{o:Oper}{g:Nat}{avs:List AV}{av:AV}{aK:List Value}{r:Value}(h:iS S.sl o.op=some (g,avs))(hD:∀t,Operand.tmp t∈o.op.operands->D t)(hg:aB c.P g)
  (hp:Pure c.P g aK r) (ha:aF hJ avs=some aK) (hr:aD hJ av=some r):Cert c K n0 D S o av none [] S.ow:=by
 refine qJ h hD hg λX μ a w vals' H hv=>?_;rw[cW ha]at hv;injection hv with hv;subst hv
 refine(hp w H.glob).mono ?_;rintro e w' ⟨rfl,hb⟩;exact⟨X,r,rfl,mI H hb (fE hr),λf hf=>by cases hf⟩
def oY:Nat->List AV->List (Nat × AV)
 | _,[]=>[]
 | i,a::l=>(i,a)::oY (i+1) l
theorem nZ:∀(l:List AV) (i t:Nat) (a:AV),look (oY i l) t=some a->i<=t/\l[t - i]?=some a
 | [],i,t,a,h=>by simp[oY,look]at h
 | x::l,i,t,a,h=>by
  simp only[oY]at h;by_cases e:i=t
  ·subst e;rw[bK]at h;injection h with h;subst h;simp
  ·rw[bE e]at h;obtain⟨h1,h2⟩:=nZ l (i+1) t a h;refine⟨zW,?_⟩;obtain⟨q,hq⟩:∃q,t - i=q+1:=⟨t - i - 1,zW⟩;rw[hq,List.getElem?_cons_succ,<-h2];congr 1;omega
def aFq (P:Program)(fn:Func)(R:Value->World->Prop)(a:Act)(w:World):Prop:=
 a.defers=[]/\∃v,(results fn a.tmps).run P w=.ok v w/\R v w
def aB9 (c:Cx)(fn:Func)(R:Value->World->Prop):Prop:=c.df=[]/\c.R=aFq c.P fn R
theorem enter {P:Program}{ty:Nat->Option TyI}(tok:∀t i,ty t=some i->TyOk P t i){g:Nat}{fn:Func}{code:Code}{args:List Value}{avs:List AV}{B:World}{X0:Nat->Prop}{K:List KF}{R:Value->World->Prop}
  (hf:P.funcs[g]?=some fn) (hb:fn.body=some code) (hn:args.length<=fn.ntmps) (ha:aF hJ avs=some args) (hgl:Glob P B) (hx:∀b,X0 b->b<B.heap.size) (hk:∀f,f∈K->f.p X0 hJ B)
  (h:∀c:Cx,c.P=P->c.ty=ty->c.nt=fn.ntmps->c.B=B->c.X0=X0->aB9 c fn R->bH c K [.code code] ⟨oY 0 avs,[],[]⟩):
  Calls P g args.toArray B λe w'=>∃v,e=.returned v/\R v w':=by
 refine calls_of_wp hf hb ((wpIn_wide (n:=0)).1 ?_);have:=h ⟨P,ty,tok,fn.ntmps,B,X0,hgl,aFq P fn R,none,[]⟩ rfl rfl rfl rfl rfl ⟨rfl,rfl⟩ X0 hJ {tmps:=args.toArray++Array.replicate (fn.ntmps - args.length) undef,defers:=[]} B
  ⟨⟨rfl,by simp;omega,?_,?_,?_,?_,?_,hx,λb h=>.inl h,λb h=>h,Below.refl _ _,hk,OwnOk.nil _ _ _ _⟩,λ_ _=>rfl⟩
 ·simp only[aO]at this;change Code.wpIn Fence.wide 0 P code _ _ B at this;refine wpIn_mono (by simpa using this) λe a w hq=>?_;cases e<;>simp only[aO]at hq
  ·obtain⟨h1,v,h2,h3⟩:=hq;exact⟨h1,v,h2,v,rfl,h3⟩
  ·obtain⟨h1,v,h2,h3⟩:=hq;exact⟨h1,v,h2,v,rfl,h3⟩
 ·intro t av _ hl;obtain⟨_,h1⟩:=nZ _ _ _ _ hl;obtain⟨v,h2,h3⟩:=iF ha t av (by simpa using h1);refine⟨v,h3,?_⟩;have hlt:=(List.getElem?_eq_some_iff.1 h2).1;simp only[List.append_toArray,Array.getElem?_append,List.size_toArray];rw[if_pos hlt];simpa using h2
 ·intro k blk b hk;simp at hk
 ·intro k hk;simp at hk
 ·intro k k' b h1;cases h1
 ·intro k b h1;cases h1
def aX3 (ty:Nat->Option TyI)(S:St):ResultVar->Option AV
 | .tmp t=>look S.sl t
 | .cell p t=>match look S.sl p,ty t with
  | some (.p k off),some i=>match S.hp[k]? with
   | some (.c _ cells)=>partOf i.kind.agg i.size cells off
   | _=>none
  | _,_=>none
def aH7 (ty:Nat->Option TyI)(S:St):List ResultVar->Option (List AV)
 | []=>some []
 | r::l=>match aX3 ty S r,aH7 ty S l with | some a,some zas=>some (a::zas) | _,_=>none
def nC (ty:Nat->Option TyI)(S:St)(l:List ResultVar):Option AV:=
 match aH7 ty S l with
 | some [a]=>some a
 | some zas=>some (.t zas)
 | none=>none
def aD2 (tmps:Array Value)(r:ResultVar):Sem Value:=
 match r with
 | .tmp t=>pure (tmps.getD t undef)
 | .cell p t=>do loadVar t (<-asAddr (tmps.getD p undef))
theorem aNe (fn:Func)(tmps:Array Value):results fn tmps=(do let vs <-fn.results.mapM (aD2 tmps);pure (if h:vs.size=1 then vs[0]else .tuple vs)):=rfl
theorem aKs {c:Cx}{K:List KF}{S:St}{X:Nat->Prop}{μ:Mu}{a:Act}{w:World}(H:Sim c K S X μ a w):∀{l:List ResultVar} {zas:List AV},aH7 c.ty S l=some zas->
  ∃vs,aF μ zas=some vs/\(l.mapM (aD2 a.tmps)).run c.P w=.ok vs w
 | [],zas,h=>by simp[aH7]at h;subst h;exact⟨[],rfl,rfl⟩
 | r::l,zas,h=>by
  simp only[aH7]at h;split at h
  ·rename_i x xs h1 h2;injection h with h;subst h
   obtain⟨vs,h3,h4⟩:=aKs H h2;have h5:∃v,aD μ x=some v/\(aD2 a.tmps r).run c.P w=.ok v w:=by
    cases r with
    | tmp t=>
     obtain⟨v,e1,e2⟩:=H.toP.slots t x trivial h1;exact⟨v,e1,by simp[aD2,e2]⟩
    | cell p t=>
     simp only[aX3]at h1;split at h1
     ·rename_i k off i hp hi;split at h1
      ·rename_i bt cells hk;obtain⟨u,e1,e2⟩:=H.toP.slots p _ trivial hp;obtain⟨b,o1,hb1,hb2⟩:=pT e1;obtain⟨v,q1,q2⟩:=aDq H.toP hi hk hb1 h1;refine⟨v,q2,?_⟩;subst hb2;simp only[Instr.loadAt,Instr.sureAddr,Sem.run_bind,Sem.run_pure,Result.andThen_ok]at q1;simp[aD2,e2,asAddr,q1]
      ·cases h1
     ·cases h1
   obtain⟨v,e1,e2⟩:=h5;refine⟨v::vs,by simp only[aF,e1,h3],?_⟩;rw[List.mapM_cons];simp only[Sem.run_bind,e2,h4,Result.andThen_ok,Sem.run_pure]
  ·cases h
theorem aB3 {c:Cx}{K:List KF}{S:St}{X:Nat->Prop}{μ:Mu}{a:Act}{w:World}(H:Sim c K S X μ a w){fn:Func}{av:AV}(h:nC c.ty S fn.results.toList=some av):
  ∃v,aD μ av=some v/\(results fn a.tmps).run c.P w=.ok v w:=by
 unfold nC at h;cases hl:aH7 c.ty S fn.results.toList with
 | none=>simp[hl]at h
 | some zas=>
  obtain⟨vs,h1,h2⟩:=aKs H hl;have h3:(results fn a.tmps).run c.P w=.ok (if h:vs.toArray.size=1 then vs.toArray[0]else .tuple vs.toArray) w:=by
   simp only[aNe,Array.mapM_eq_mapM_toList,Sem.run_bind,Sem.run_map,h2,Result.andThen_ok,Sem.run_pure]
  rw[h3];rw[hl]at h;match zas,vs,h1,h with
  | [],vs,h1,h=>simp[aF]at h1;subst h1;injection h with h;subst h;exact⟨_,by simp[aD,aF],rfl⟩
  | [x],vs,h1,h=>
   simp only at h;injection h with h;subst h
   simp only[aF]at h1;split at h1
   ·rename_i v ws q1 q2;injection q2 with q2;subst q2
    injection h1 with h1;subst h1
    exact⟨v,q1,zA⟩
   ·cases h1
  | x::y::l,vs,h1,h=>
   simp only at h;injection h with h;subst h
   have hlen:=bC h1
   refine⟨.tuple vs.toArray,by simp only[aD,h1],?_⟩;rw[dif_neg (by simp at hlen |-;omega)]
theorem aQ8 {c:Cx}{K:List KF}{S:St}{fn:Func}{R:Value->World->Prop}{av:AV}(hR:aB9 c fn R)(h:nC c.ty S fn.results.toList=some av)
  (hp:∀X μ a w v,Sim c K S X μ a w->aD μ av=some v->R v w):bH c K [] S:=by
 intro X μ a w H;obtain⟨v,h1,h2⟩:=aB3 H h;simp only[aO,hR.2];exact⟨H.toP.dfr.trans hR.1,v,h2,hp X μ a w v H h1⟩
end Go.Ai
namespace Go.Ai
open Go Go.RowKit
def cF (o:Oper):Bool:=
 match o.op with
 | .call {callee:=.value _,..}=>true
 | .call {callee:=.builtin .append,..}=>true
 | .store ..=>true
 | .lookup ..=>true
 | .insert ..=>true
 | .mapUpdate ..=>true
 | _=>false
def fl (S:St)(o:Oper):St:=if cF o then S else {S with ow:=[]}
theorem tH (S:St)(o:Oper):(fl S o).sl=S.sl:=by unfold fl;split<;>rfl
theorem xS (S:St)(o:Oper):(fl S o).hp=S.hp:=by unfold fl;split<;>rfl
def tmpsOf:List Operand->List Nat
 | []=>[]
 | .tmp t::l=>t::tmpsOf l
 | _::l=>tmpsOf l
theorem fV:∀{l:List Operand} {t:Nat},Operand.tmp t∈l->t∈tmpsOf l
 | x::l,t,h=>by
  rcases List.mem_cons.1 h with e | e
  ·subst e;simp[tmpsOf]
  ·have:=fV e
   cases x<;>simp[tmpsOf,this]
def xU (all:Array Oper)(o:Oper):List Nat:=
 match o.guard with
 | some (j,_)=>match (all[j]?).bind (·.dst)with | some d=>[d] | none=>[]
 | none=>[]
def eG (all:Array Oper)(o:Oper):List Nat:=tmpsOf o.op.operands.toList++xU all o
def xL (all:Array Oper)(o:Oper)(t:Nat):Prop:=t∈eG all o
def guardOf (all:Array Oper)(sl:List (Nat × AV))(o:Oper):Option Bool:=
 match o.guard with
 | none=>some true
 | some (j,want)=>match (all[j]?).bind (·.dst)with
  | some d=>match look sl d with | some (.b (.l t))=>some (t==want) | some (.q (.tuple _))=>some false | _=>none
  | none=>none
theorem cH {c:Cx}{K:List KF}{n0:Nat}{D:Nat->Prop}{S:St}{X:Nat->Prop}{μ:Mu}{a:Act}{w:World}(H:PSim c K n0 D S X μ a w){all:Array Oper}{o:Oper}{b:Bool}(h:guardOf all S.sl o=some b)
  (hD:∀t,t∈xU all o->D t):Region.wanted o (yielded all a.tmps)=b:=by
 unfold guardOf at h;cases hg:o.guard with
 | none=>simp only[hg]at h;injection h with h;subst h;simp[Region.wanted,hg]
 | some x=>
  obtain⟨j,want⟩:=x;simp only[hg]at h;cases hd:(all[j]?).bind (·.dst)with
  | none=>simp[hd]at h
  | some d=>
   simp only[hd]at h;split at h
   ·rename_i t hl;injection h with h;subst h
    obtain⟨v,h1,h2⟩:=H.slots d _ (hD d (by simp[xU,hg,hd])) hl;have h3:=iT h1;subst h3;have hy:yielded all a.tmps j=some t:=by
     unfold yielded;rw[hd];simp[h2,BE.den]
    simp only[Region.wanted,hg,hy];cases t<;>cases want<;>rfl
   ·rename_i vs hl;injection h with h;subst h
    obtain⟨v,h1,h2⟩:=H.slots d _ (hD d (by simp[xU,hg,hd])) hl;simp only[aD,Option.some.injEq]at h1;subst h1;have hy:yielded all a.tmps j=none:=by
     unfold yielded;rw[hd];simp[h2]
    simp only[Region.wanted,hg,hy];cases want<;>rfl
   ·cases h
def aIo:List Oper->Array Nat->Array Nat
 | [],acc=>acc
 | o::l,acc=>aIo l (acc.push (o.after.toList.foldl (λs e=>if Region.binds .any e then s||| (1<<<e.on)||| acc.getD e.on 0 else s) 0))
inductive Reach (all:Array Oper):Nat->Nat->Prop
 | one {j:Nat} {o:Oper} {e:Edge} (ho:all[j]?=some o) (he:e∈o.after) (hb:Region.binds .any e=true):Reach all j e.on
 | more {j i:Nat} {o:Oper} {e:Edge} (ho:all[j]?=some o) (he:e∈o.after) (hb:Region.binds .any e=true) (h:Reach all e.on i):Reach all j i
theorem aE1 {all:Array Oper}{acc:Array Nat}(aMi:∀j i,(acc.getD j 0).testBit i=true->Reach all j i){j:Nat}{o:Oper}(ho:all[j]?=some o):∀(l:List Edge) (s:Nat),(∀e,e∈l->e∈o.after)->(∀i,s.testBit i=true->Reach all j i)->
  ∀i,(l.foldl (λs e=>if Region.binds .any e then s||| (1<<<e.on)||| acc.getD e.on 0 else s) s).testBit i=true->Reach all j i
 | [],s,_,hs,i,h=>hs i h
 | e::l,s,hl,hs,i,h=>by
  rw[List.foldl_cons]at h;refine aE1 aMi ho l _ (λe' he'=>hl e' (List.mem_cons_of_mem _ he')) ?_ i h;intro i hi;split at hi
  ·rename_i hb;simp only[Nat.testBit_or,Bool.or_eq_true]at hi;rcases hi with(hi | hi) | hi
   ·exact hs i hi
   ·rw[Nat.one_shiftLeft,Nat.testBit_two_pow]at hi;have:e.on=i:=by simpa using hi
    subst this;exact .one ho (hl e zA) hb
   ·exact .more ho (hl e zA) hb (aMi _ _ hi)
  ·exact hs i hi
theorem aQc (acc:Array Nat)(x j:Nat):(acc.push x).getD j 0=if j=acc.size then x else acc.getD j 0:=by
 simp only[Array.getD_eq_getD_getElem?,Array.getElem?_push];split<;>simp
theorem aE2 {all:Array Oper}:∀(l:List Oper) (acc:Array Nat),(∀q o,l[q]?=some o->all[acc.size+q]?=some o)->(∀j i,(acc.getD j 0).testBit i=true->Reach all j i)->
  ∀j i,((aIo l acc).getD j 0).testBit i=true->Reach all j i
 | [],acc,_,aMi,j,i,h=>aMi j i h
 | o::l,acc,hl,aMi,j,i,h=>by
  refine aE2 l _ ?_ ?_ j i h
  ·intro q o' hq;have:=hl (q+1) o' (by simpa using hq);rw[Array.size_push];rw[<-this];congr 1;omega
  ·intro j i hji;rw[aQc]at hji;split at hji
   ·rename_i hj;subst hj;exact aE1 aMi (hl 0 o rfl) o.after.toList 0 (λe he=>by simpa using he) (λi hi=>by simp at hi) i hji
   ·exact aMi j i hji
theorem dN {all:Array Oper}{j i:Nat}(h:((aIo all.toList #[]).getD j 0).testBit i=true):Reach all j i:=
 aE2 all.toList #[] (λq o hq=>by simpa using hq) (λj i h=>by simp at h) j i h
def ex (L:Array Bool)(j:Nat):Prop:=L.getD j false=true
def DC (all:Array Oper)(L:Array Bool):Prop:=∀j o,ex L j->all[j]?=some o->∀e,e∈o.after->Region.binds .any e=true->ex L e.on
theorem aKr {all:Array Oper}{L:Array Bool}(hdc:DC all L){j i:Nat}(h:Reach all j i):∀o,all[j]?=some o->(∀e,e∈o.after->Region.binds .any e=true->ex L e.on)->ex L i:=by
 induction h with
 | one ho he hb=>intro o ho' cI;rw[ho]at ho';injection ho' with ho';subst ho';exact cI _ he hb
 | more ho he hb h ih=>
  intro o ho' cI;rw[ho]at ho';injection ho' with ho';subst ho'
  have hx:=cI _ he hb
  cases h with
  | one ho2 he2 hb2=>exact hdc _ _ hx ho2 _ he2 hb2
  | more ho2 he2 hb2 h2=>exact ih _ ho2 (λe he' hb'=>hdc _ _ hx ho2 e he' hb')
def eC (all:Array Oper)(j:Nat):Bool:=match all[j]? with | some o=>cF o | none=>false
def aAe (all:Array Oper)(m:Nat):Bool:=
 let B:=aIo all.toList #[]
 (List.range all.size).all (λj=>match all[j]? with
  | none=>false
  | some o=>o.after.toList.all (λe=> !Region.binds .any e||decide (e.on<j))&&
   (if j<m then
    (eG all o).all (λt=>(List.range m).all λj'=>((all[j']?).bind (·.dst)) !=some t||(decide (j'<j)&&(B.getD j 0).testBit j')||(decide (j<j')&&(B.getD j' 0).testBit j))&&
    (match o.dst with | some d=>(List.range m).all (λj'=>j'==j||((all[j']?).bind (·.dst)) !=some d) | none=>true)&&
    (!cF o||(List.range j).all λj'=> !eC all j'||(B.getD j 0).testBit j')
   else(List.range j).all λi=>(B.getD j 0).testBit i))
structure DrawOk0 (all:Array Oper)(m:Nat):Prop where
 on:∀j o e,all[j]?=some o->e∈o.after->Region.binds .any e=true->e.on<j
 opn:∀j o t j',all[j]?=some o->j<m->xL all o t->j'<m->(all[j']?).bind (·.dst)=some t->(j'<j/\Reach all j j')\/(j<j'/\Reach all j' j)
 dst:∀j o d j',all[j]?=some o->j<m->o.dst=some d->j'<m->(all[j']?).bind (·.dst)=some d->j'=j
 cal:∀j o j' o',all[j]?=some o->j<m->cF o=true->j'<j->all[j']?=some o'->cF o'=true->Reach all j j'
structure DrawOk (all:Array Oper)(m:Nat):Prop extends DrawOk0 all m where
 tail:∀j o i,all[j]?=some o->m<=j->i<j->Reach all j i
theorem aA0 {all:Array Oper}{m:Nat}(h:aAe all m=true):DrawOk all m:=by
 unfold aAe at h;simp only[List.all_eq_true,List.mem_range]at h;have key:∀j o,all[j]?=some o->_:=λj o ho=>by
  have:=h j (Array.getElem?_eq_some_iff.1 ho).1
  simp only[ho,Bool.and_eq_true]at this;exact this
 refine⟨⟨?_,?_,?_,?_⟩,?_⟩
 ·intro j o e ho he hb;have:=(key j o ho).1;simp only[List.all_eq_true]at this;have:=this e (by simpa using he);simpa[hb]using this
 ·intro j o t j' ho hj ht hj' hd;have:=(key j o ho).2;rw[if_pos hj]at this;simp only[Bool.and_eq_true,List.all_eq_true,List.mem_range]at this;have:=this.1.1 t ht j' hj';simp only[hd,Bool.or_eq_true,bne_self_eq_false,Bool.false_eq_true,false_or,Bool.and_eq_true,decide_eq_true_eq]at this;exact this.imp (λh=>⟨h.1,dN h.2⟩) (λh=>⟨h.1,dN h.2⟩)
 ·intro j o d j' ho hj hd hj' hd';have:=(key j o ho).2;rw[if_pos hj]at this;simp only[Bool.and_eq_true]at this;have:=this.1.2;simp only[hd,List.all_eq_true,List.mem_range]at this;have:=this j' hj';simpa[hd']using this
 ·intro j o j' o' ho hj hc hj' ho' hc';have:=(key j o ho).2;rw[if_pos hj]at this;simp only[Bool.and_eq_true]at this;have:=this.2;simp only[hc,Bool.not_true,Bool.false_or,List.all_eq_true,List.mem_range]at this;have:=this j' hj';simp only[eC,ho',hc',Bool.not_true,Bool.false_or]at this;exact dN this
 ·intro j o i ho hj hi;have:=(key j o ho).2;rw[if_neg zW]at this;simp only[List.all_eq_true,List.mem_range]at this;exact dN (this i hi)
def aBt (all:Array Oper)(m:Nat):Bool:=
 let B:=aIo all.toList #[]
 (List.range all.size).all (λj=>match all[j]? with
  | none=>false
  | some o=>o.after.toList.all (λe=> !Region.binds .any e||decide (e.on<j))&&
   (if j<m then
    (eG all o).all (λt=>(List.range m).all λj'=>((all[j']?).bind (·.dst)) !=some t||(decide (j'<j)&&(B.getD j 0).testBit j')||(decide (j<j')&&(B.getD j' 0).testBit j))&&
    (match o.dst with | some d=>(List.range m).all (λj'=>j'==j||((all[j']?).bind (·.dst)) !=some d) | none=>true)&&
    (!cF o||(List.range j).all λj'=> !eC all j'||(B.getD j 0).testBit j')
   else o.dst.isNone&&o.guard.isNone&&(eG all o).all (λt=>(List.range m).all λj'=>((all[j']?).bind (·.dst)) !=some t||(B.getD j 0).testBit j')))
structure DrawOk2 (all:Array Oper)(m:Nat):Prop extends DrawOk0 all m where
 tl:∀j o,all[j]?=some o->m<=j->o.dst=none/\o.guard=none/\∀t j',xL all o t->j'<m->(all[j']?).bind (·.dst)=some t->Reach all j j'
theorem xM {all:Array Oper}{m:Nat}(h:aBt all m=true):DrawOk2 all m:=by
 unfold aBt at h;simp only[List.all_eq_true,List.mem_range]at h;have key:∀j o,all[j]?=some o->_:=λj o ho=>by
  have:=h j (Array.getElem?_eq_some_iff.1 ho).1
  simp only[ho,Bool.and_eq_true]at this;exact this
 refine⟨⟨?_,?_,?_,?_⟩,?_⟩
 ·intro j o e ho he hb;have:=(key j o ho).1;simp only[List.all_eq_true]at this;have:=this e (by simpa using he);simpa[hb]using this
 ·intro j o t j' ho hj ht hj' hd;have:=(key j o ho).2;rw[if_pos hj]at this;simp only[Bool.and_eq_true,List.all_eq_true,List.mem_range]at this;have:=this.1.1 t ht j' hj';simp only[hd,Bool.or_eq_true,bne_self_eq_false,Bool.false_eq_true,false_or,Bool.and_eq_true,decide_eq_true_eq]at this;exact this.imp (λh=>⟨h.1,dN h.2⟩) (λh=>⟨h.1,dN h.2⟩)
 ·intro j o d j' ho hj hd hj' hd';have:=(key j o ho).2;rw[if_pos hj]at this;simp only[Bool.and_eq_true]at this;have:=this.1.2;simp only[hd,List.all_eq_true,List.mem_range]at this;have:=this j' hj';simpa[hd']using this
 ·intro j o j' o' ho hj hc hj' ho' hc';have:=(key j o ho).2;rw[if_pos hj]at this;simp only[Bool.and_eq_true]at this;have:=this.2;simp only[hc,Bool.not_true,Bool.false_or,List.all_eq_true,List.mem_range]at this;have:=this j' hj';simp only[eC,ho',hc',Bool.not_true,Bool.false_or]at this;exact dN this
 ·intro j o ho hj;have:=(key j o ho).2;rw[if_neg zW]at this;simp only[Bool.and_eq_true,List.all_eq_true,List.mem_range]at this;refine⟨by simpa using this.1.1,by simpa using this.1.2,λt j' ht hj' hd=>?_⟩;have:=this.2 t ht j' hj';simp only[hd,bne_self_eq_false,Bool.false_or]at this;exact dN this
def aBu (all:Array Oper)(m m2:Nat):Bool:=
 let B:=aIo all.toList #[]
 decide (m<=m2)&&(List.range all.size).all (λj=>match all[j]? with
  | none=>false
  | some o=>o.after.toList.all (λe=> !Region.binds .any e||decide (e.on<j))&&
   (if j<m then
    (eG all o).all (λt=>(List.range m).all λj'=>((all[j']?).bind (·.dst)) !=some t||(decide (j'<j)&&(B.getD j 0).testBit j')||(decide (j<j')&&(B.getD j' 0).testBit j))&&
    (match o.dst with | some d=>(List.range m).all (λj'=>j'==j||((all[j']?).bind (·.dst)) !=some d) | none=>true)&&
    (!cF o||(List.range j).all λj'=> !eC all j'||(B.getD j 0).testBit j')
   else if j<m2 then o.dst.isNone&&o.guard.isNone&&(eG all o).all (λt=>(List.range m).all λj'=>((all[j']?).bind (·.dst)) !=some t||(B.getD j 0).testBit j')else(List.range j).all λi=>(B.getD j 0).testBit i))
structure DrawOk4 (all:Array Oper)(m m2:Nat):Prop extends DrawOk0 all m where
 le:m<=m2
 tail:∀j o i,all[j]?=some o->m2<=j->i<j->Reach all j i
 tl:∀j o,all[j]?=some o->m<=j->j<m2->o.dst=none/\o.guard=none/\∀t j',xL all o t->j'<m->(all[j']?).bind (·.dst)=some t->Reach all j j'
theorem xO {all:Array Oper}{m m2:Nat}(h:aBu all m m2=true):DrawOk4 all m m2:=by
 unfold aBu at h;simp only[List.all_eq_true,List.mem_range,Bool.and_eq_true,decide_eq_true_eq]at h;obtain⟨hle,h⟩:=h;have key:∀j o,all[j]?=some o->_:=λj o ho=>by
  have:=h j (Array.getElem?_eq_some_iff.1 ho).1
  simp only[ho,Bool.and_eq_true]at this;exact this
 refine⟨⟨?_,?_,?_,?_⟩,hle,?_,?_⟩
 ·intro j o e ho he hb;have:=(key j o ho).1;simp only[List.all_eq_true]at this;have:=this e (by simpa using he);simpa[hb]using this
 ·intro j o t j' ho hj ht hj' hd;have:=(key j o ho).2;rw[if_pos hj]at this;simp only[Bool.and_eq_true,List.all_eq_true,List.mem_range]at this;have:=this.1.1 t ht j' hj';simp only[hd,Bool.or_eq_true,bne_self_eq_false,Bool.false_eq_true,false_or,Bool.and_eq_true,decide_eq_true_eq]at this;exact this.imp (λh=>⟨h.1,dN h.2⟩) (λh=>⟨h.1,dN h.2⟩)
 ·intro j o d j' ho hj hd hj' hd';have:=(key j o ho).2;rw[if_pos hj]at this;simp only[Bool.and_eq_true]at this;have:=this.1.2;simp only[hd,List.all_eq_true,List.mem_range]at this;have:=this j' hj';simpa[hd']using this
 ·intro j o j' o' ho hj hc hj' ho' hc';have:=(key j o ho).2;rw[if_pos hj]at this;simp only[Bool.and_eq_true]at this;have:=this.2;simp only[hc,Bool.not_true,Bool.false_or,List.all_eq_true,List.mem_range]at this;have:=this j' hj';simp only[eC,ho',hc',Bool.not_true,Bool.false_or]at this;exact dN this
 ·intro j o i ho hj hi;have:=(key j o ho).2;rw[if_neg zW,if_neg zW]at this;simp only[List.all_eq_true,List.mem_range]at this;exact dN (this i hi)
 ·intro j o ho hj hj2;have:=(key j o ho).2;rw[if_neg zW,if_pos hj2]at this;simp only[Bool.and_eq_true,List.all_eq_true,List.mem_range]at this;refine⟨by simpa using this.1.1,by simpa using this.1.2,λt j' ht hj' hd=>?_⟩;have:=this.2 t ht j' hj';simp only[hd,bne_self_eq_false,Bool.false_or]at this;exact dN this
def uJ (all:Array Oper)(m:Nat):Bool:=
 let B:=aIo all.toList #[]
 (List.range all.size).all (λj=>match all[j]? with
  | none=>false
  | some o=>o.after.toList.all (λe=> !Region.binds .any e||decide (e.on<j))&&
   (if j<m then
    (eG all o).all (λt=>(List.range m).all λj'=>((all[j']?).bind (·.dst)) !=some t||(decide (j'<j)&&(B.getD j 0).testBit j')||(decide (j<j')&&(B.getD j' 0).testBit j))&&
    (match o.dst with | some d=>(List.range m).all (λj'=>j'==j||((all[j']?).bind (·.dst)) !=some d) | none=>true)&&
    (!cF o||(List.range j).all λj'=> !eC all j'||(B.getD j 0).testBit j')
   else(List.range m).all λi=>(B.getD j 0).testBit i))
structure DrawOk3 (all:Array Oper)(m:Nat):Prop extends DrawOk0 all m where
 bar:∀j o i,all[j]?=some o->m<=j->i<m->Reach all j i
theorem xN {all:Array Oper}{m:Nat}(h:uJ all m=true):DrawOk3 all m:=by
 unfold uJ at h;simp only[List.all_eq_true,List.mem_range]at h;have key:∀j o,all[j]?=some o->_:=λj o ho=>by
  have:=h j (Array.getElem?_eq_some_iff.1 ho).1
  simp only[ho,Bool.and_eq_true]at this;exact this
 refine⟨⟨?_,?_,?_,?_⟩,?_⟩
 ·intro j o e ho he hb;have:=(key j o ho).1;simp only[List.all_eq_true]at this;have:=this e (by simpa using he);simpa[hb]using this
 ·intro j o t j' ho hj ht hj' hd;have:=(key j o ho).2;rw[if_pos hj]at this;simp only[Bool.and_eq_true,List.all_eq_true,List.mem_range]at this;have:=this.1.1 t ht j' hj';simp only[hd,Bool.or_eq_true,bne_self_eq_false,Bool.false_eq_true,false_or,Bool.and_eq_true,decide_eq_true_eq]at this;exact this.imp (λh=>⟨h.1,dN h.2⟩) (λh=>⟨h.1,dN h.2⟩)
 ·intro j o d j' ho hj hd hj' hd';have:=(key j o ho).2;rw[if_pos hj]at this;simp only[Bool.and_eq_true]at this;have:=this.1.2;simp only[hd,List.all_eq_true,List.mem_range]at this;have:=this j' hj';simpa[hd']using this
 ·intro j o j' o' ho hj hc hj' ho' hc';have:=(key j o ho).2;rw[if_pos hj]at this;simp only[Bool.and_eq_true]at this;have:=this.2;simp only[hc,Bool.not_true,Bool.false_or,List.all_eq_true,List.mem_range]at this;have:=this j' hj';simp only[eC,ho',hc',Bool.not_true,Bool.false_or]at this;exact dN this
 ·intro j o i ho hj hi;have:=(key j o ho).2;rw[if_neg zW]at this;simp only[List.all_eq_true,List.mem_range]at this;exact dN (this i hi)
def firstM (n m:Nat):Array Bool:=((List.range n).map λj=>decide (j<m)).toArray
def aXv (ty:Nat->Option TyI)(S:St)(op:Op):Option (Nat × Nat × List AV):=
 match op with
 | .store t x y=>match ty t,fW S.sl x,fW S.sl y with
  | some i,some (.p k 0),some a=>match S.hp[k]?,cellsOf a with
   | some (.d bt n),some l=>if l.length=n/\i.size=n/\l.all AV.one=true then some (k,bt,l)else none
   | _,_=>none
  | _,_,_=>none
 | _=>none
structure Ps where
 j:Nat
 k:Nat
 bt:Nat
 l:List AV
def lI (ty:Nat->Option TyI)(S:St)(all:Array Oper):List Nat->Option (List Ps)
 | []=>some []
 | j::js=>match all[j]? with
  | some o=>match aXv ty S o.op,lI ty S all js with
   | some (k,bt,l),some ps=>if ps.all (λp=>p.k !=k)then some (⟨j,k,bt,l⟩::ps)else none
   | _,_=>none
  | none=>none
def St.setPs (S:St)(ps:List Ps):St:={S with hp:=ps.foldl (λhp p=>hp.set p.k (.c p.bt p.l)) S.hp}
theorem aGj:∀(ps:List Ps) (hp:List Blk),(ps.foldl (λhp p=>hp.set p.k (.c p.bt p.l)) hp).length=hp.length
 | [],hp=>rfl
 | p::ps,hp=>by rw[List.foldl_cons,aGj ps];simp
theorem aGi:∀(ps:List Ps) (hp:List Blk) (k:Nat) (blk:Blk),(ps.foldl (λhp p=>hp.set p.k (.c p.bt p.l)) hp)[k]?=some blk->(∃p,p∈ps/\p.k=k/\blk=.c p.bt p.l)\/hp[k]?=some blk/\∀p,p∈ps->p.k≠k
 | [],hp,k,blk,h=>.inr ⟨h,λp hp=>(by cases hp)⟩
 | p::ps,hp,k,blk,h=>by
  rw[List.foldl_cons]at h;rcases aGi ps _ k blk h with⟨q,h1,h2⟩ | ⟨h1,h2⟩
  ·exact .inl ⟨q,List.mem_cons_of_mem _ h1,h2⟩
  ·rw[List.getElem?_set]at h1;by_cases e:p.k=k
   ·rw[if_pos e]at h1;split at h1
    ·injection h1 with h1;exact .inl ⟨p,zA,e,h1.symm⟩
    ·cases h1
   ·rw[if_neg e]at h1;exact .inr ⟨h1,λq hq=>by
     rcases List.mem_cons.1 hq with e' | e'
     ·subst e';exact e
     ·exact h2 q e'⟩
theorem pM {ty:Nat->Option TyI}{S:St}{all:Array Oper}:∀{js:List Nat} {ps:List Ps},lI ty S all js=some ps->
  (∀j,j∈js->∃p o,p∈ps/\p.j=j/\all[j]?=some o/\aXv ty S o.op=some (p.k,p.bt,p.l))/\(∀p,p∈ps->p.j∈js)/\ps.Pairwise (λp q=>q.k≠p.k)
 | [],ps,h=>by simp[lI]at h;subst h;exact⟨λj hj=>(by cases hj),λp hp=>(by cases hp),List.Pairwise.nil⟩
 | j::js,ps,h=>by
  simp only[lI]at h;split at h
  ·rename_i o ho;split at h
   ·rename_i k bt l ps' h1 h2;split at h
    ·rename_i h3;injection h with h;subst h
     obtain⟨q1,q2,q3⟩:=pM h2;refine⟨λi hi=>?_,λp hp=>?_,List.Pairwise.cons (λq hq=>?_) q3⟩
     ·rcases List.mem_cons.1 hi with e | e
      ·subst e;exact⟨⟨i,k,bt,l⟩,o,zA,rfl,ho,h1⟩
      ·obtain⟨p,o',r1,r2⟩:=q1 i e;exact⟨p,o',List.mem_cons_of_mem _ r1,r2⟩
     ·rcases List.mem_cons.1 hp with e | e
      ·subst e;simp
      ·exact List.mem_cons_of_mem _ (q2 p e)
     ·simp only[List.all_eq_true]at h3;simpa using h3 q hq
    ·cases h
   ·cases h
  ·cases h
theorem aRi {ty:Nat->Option TyI}{S:St}{all:Array Oper}{i n:Nat}{ps:List Ps}(h:lI ty S all (List.range' i n)=some ps){p q:Ps}(hp:p∈ps)(hq:q∈ps)(e:p.j=q.j):p=q:=by
 have key:∀(n i:Nat) (ps:List Ps),lI ty S all (List.range' i n)=some ps->ps.Pairwise (λp q=>p.j<q.j):=by
  intro n;induction n with
  | zero=>intro i ps h;simp[lI]at h;subst h;exact List.Pairwise.nil
  | succ n ih=>
   intro i ps h;rw[List.range'_succ]at h;simp only[lI]at h;split at h
   ·split at h
    ·rename_i k bt l ps' h1 h2;split at h
     ·injection h with h;subst h
      refine List.Pairwise.cons (λq hq=>?_) (ih _ _ h2);have:=(pM h2).2.1 q hq;rw[List.mem_range'_1]at this;show i<q.j
      omega
     ·cases h
    ·cases h
   ·cases h
 have h2:=key n i ps h
 clear key h;induction h2 with
 | nil=>cases hp
 | @cons x l hx hl ih=>
  rcases List.mem_cons.1 hp with e1 | e1<;>rcases List.mem_cons.1 hq with e2 | e2
  ·rw[e1,e2]
  ·subst e1;have:=hx q e2;omega
  ·subst e2;have:=hx p e1;omega
  ·exact ih e1 e2
theorem aZb {ps:List Ps}(h:ps.Pairwise (λp q=>q.k≠p.k)):∀p q,p∈ps->q∈ps->p.k=q.k->p=q:=by
 induction h with
 | nil=>intro p q hp;cases hp
 | @cons x l hx hl ih=>
  intro p q hp hq he;rcases List.mem_cons.1 hp with e1 | e1<;>rcases List.mem_cons.1 hq with e2 | e2
  ·rw[e1,e2]
  ·subst e1;exact absurd he.symm (hx q e2)
  ·subst e2;exact absurd he (hx p e1)
  ·exact ih p q e1 e2 he
def bDk (c:Cx)(all:Array Oper)(k:List KI)(i:Nat)(S:St)(K:List KF):Prop:=
 (aAe all i=true/\bH c K (.ops all i::k) S)\/(aBt all i=true/\∃ps,lI c.ty S all (List.range' i (all.size - i))=some ps/\bH c K (.ops all all.size::k) (S.setPs ps))\/
  (uJ all i=true/\bH c K (.ord all (firstM all.size i)::k) S)\/
  (∃m2,aBu all i m2=true/\m2<=all.size/\∃ps,lI c.ty S all (List.range' i (m2 - i))=some ps/\bH c K (.ops all m2::k) (S.setPs ps))
structure Wk (S S':St):Prop where
 hp:S'.hp=S.hp
 ow:S'.ow=S.ow
 sl:∀t b,look S'.sl t=some b->∃a,look S.sl t=some a/\∀μ,aD μ a=aD μ b
theorem Wk.refl (S:St):Wk S S:=⟨rfl,rfl,λt b h=>⟨b,h,λ_=>rfl⟩⟩
theorem Wk.trans {S S' S'':St}(h:Wk S S')(h':Wk S' S''):Wk S S'':=
 ⟨h'.hp.trans h.hp,h'.ow.trans h.ow,λt b hb=>by
  obtain⟨a,h1,h2⟩:=h'.sl t b hb;obtain⟨a',h3,h4⟩:=h.sl t a h1;exact⟨a',h3,λμ=>(h4 μ).trans (h2 μ)⟩⟩
inductive DPath (c:Cx) (all:Array Oper) (n0:Nat) (K0:List KF) (k:List KI):Nat->St->List KF->Prop
 | stop {i:Nat} {S:St} {K:List KF} (hi:i<=all.size) (h:bDk c all k i S K):DPath c all n0 K0 k i S K
 | op {i:Nat} {S S':St} {K:List KF} {o:Oper} {av:AV} {nb:Option Blk} {Kn:List KF} {ow:List OF} (ho:all[i]?=some o) (hg:guardOf all S.sl o=some true) (hdst:cM c.nt o.dst=true)
   (hc:Cert c (if cF o then K else K0) n0 (xL all o) (fl S o) o av nb Kn ow) (hk:cF o=false->Kn=[]) (hw:Wk (S.putO o.dst av nb (if cF o then ow else S.ow)) S') (h:DPath c all n0 K0 k (i+1) S' (Kn++K)):DPath c all n0 K0 k i S K
 | skip {i:Nat} {S S':St} {K:List KF} {o:Oper} (ho:all[i]?=some o) (hg:guardOf all S.sl o=some false) (hdst:cM c.nt o.dst=true)
   (hw:Wk (S.put o.dst (.q undef) none) S') (h:DPath c all n0 K0 k (i+1) S' K):DPath c all n0 K0 k i S K
 | wk {i:Nat} {S S':St} {K:List KF} (hw:Wk S S') (h:DPath c all n0 K0 k i S' K):DPath c all n0 K0 k i S K
structure Ent where
 av:AV
 nb:Option Blk
 kn:List KF
 ow:List OF
structure EntOk (c:Cx)(all:Array Oper)(n0:Nat)(K0:List KF)(e:Ent)(j:Nat)(S S':St)(K K':List KF)(o:Oper):Prop where
 ho:all[j]?=some o
 hdst:cM c.nt o.dst=true
 wk:Wk (S.putO o.dst e.av e.nb e.ow) S'
 kk:K'=e.kn++K
 kn:cF o=false->e.kn=[]
 nc:cF o=false->e.ow=S.ow
 how:(guardOf all S.sl o=some false/\e.av=.q undef/\e.nb=none/\e.kn=[]/\e.ow=S.ow)\/(guardOf all S.sl o=some true/\∃ow,Cert c (if cF o then K else K0) n0 (xL all o) (fl S o) o e.av e.nb e.kn ow/\(cF o=true->e.ow=ow))
theorem DPath.trace {c:Cx}{all:Array Oper}{n0:Nat}{K0:List KF}{k:List KI}{i:Nat}{S:St}{K:List KF}(h:DPath c all n0 K0 k i S K):
  ∃(m:Nat) (en:Nat->Ent) (st:Nat->St) (kk:Nat->List KF),i<=m/\Wk S (st i)/\kk i=K/\(∀j,i<=j->j<m->∃o,EntOk c all n0 K0 (en j) j (st j) (st (j+1)) (kk j) (kk (j+1)) o)/\m<=all.size/\bDk c all k m (st m) (kk m):=by
 induction h with
 | @stop i S K hi h=>exact⟨i,λ_=>⟨.t [],none,[],[]⟩,λ_=>S,λ_=>K,lRf _,Wk.refl S,rfl,λj h1 h2=>zW,hi,h⟩
 | @op i S S' K o av nb Kn ow ho hg hdst hc hk hw h ih=>
  obtain⟨m,en,st,kk,h1,h2,h3,h4,h5,h6⟩:=ih;refine⟨m,λj=>if j=i then⟨av,nb,Kn,if cF o then ow else S.ow⟩else en j,λj=>if j=i then S else st j,λj=>if j=i then K else kk j,zW,by simp only[if_true];exact Wk.refl S,zA,?_,h5,?_⟩
  ·intro j hj hjm;by_cases e:j=i
   ·subst e;refine⟨o,?_⟩;simp only[if_true,if_neg (show ¬j+1=j by omega),h3];exact⟨ho,hdst,hw.trans h2,rfl,hk,λhf=>by simp[hf],.inr ⟨hg,ow,hc,λhf=>by simp[hf]⟩⟩
   ·obtain⟨o',h⟩:=h4 j zW hjm;refine⟨o',?_⟩;simp only[if_neg e,if_neg (show ¬j+1=i by omega)];exact h
  ·simp only[if_neg (show ¬m=i by omega)];exact h6
 | @skip i S S' K o ho hg hdst hw h ih=>
  obtain⟨m,en,st,kk,h1,h2,h3,h4,h5,h6⟩:=ih;refine⟨m,λj=>if j=i then⟨.q undef,none,[],S.ow⟩else en j,λj=>if j=i then S else st j,λj=>if j=i then K else kk j,zW,by simp only[if_true];exact Wk.refl S,zA,?_,h5,?_⟩
  ·intro j hj hjm;by_cases e:j=i
   ·subst e;refine⟨o,?_⟩;simp only[if_true,if_neg (show ¬j+1=j by omega),h3];exact⟨ho,hdst,hw.trans h2,rfl,λ_=>rfl,λ_=>rfl,.inl ⟨hg,rfl,rfl,rfl,rfl⟩⟩
   ·obtain⟨o',h⟩:=h4 j zW hjm;refine⟨o',?_⟩;simp only[if_neg e,if_neg (show ¬j+1=i by omega)];exact h
  ·simp only[if_neg (show ¬m=i by omega)];exact h6
 | @wk i S S' K hw h ih=>
  obtain⟨m,en,st,kk,h1,h2,h3⟩:=ih;exact⟨m,en,st,kk,h1,hw.trans h2,h3⟩
section
variable {c:Cx}{all:Array Oper}{n0:Nat}{K0:List KF}{m:Nat}{en:Nat->Ent}{st:Nat->St}{kk:Nat->List KF}
def pJ (all:Array Oper)(j:Nat):Option Nat:=(all[j]?).bind (·.dst)
structure Tr (c:Cx)(all:Array Oper)(n0:Nat)(K0:List KF)(m:Nat)(en:Nat->Ent)(st:Nat->St)(kk:Nat->List KF):Prop where
 ent:∀j,j<m->∃o,EntOk c all n0 K0 (en j) j (st j) (st (j+1)) (kk j) (kk (j+1)) o
 ok:DrawOk0 all m
 hm:m<=all.size
 n0:n0=(st 0).hp.length
 k0:kk 0=K0
theorem Tr.hpStep (T:Tr c all n0 K0 m en st kk){j:Nat}(hj:j<m):(st (j+1)).hp=(st j).hp++(en j).nb.toList:=by
 obtain⟨o,h⟩:=T.ent j hj;rw[h.wk.hp];cases (en j).nb<;>simp[St.putO]
theorem Tr.hpPre (T : Tr c all n0 K0 m en st kk) : ∀ {i j : Nat}, i <= j -> j <= m -> ∃ l, (st j).hp = (st i).hp ++ l
  | i, 0, h, _ => by have : i = 0 := by omega
                     subst this; exact ⟨[], by simp⟩
  | i, j + 1, h, hj => by
    rcases Nat.eq_or_lt_of_le h with e | e
    · subst e; exact ⟨[], by simp⟩
    · obtain ⟨l, hl⟩ := T.hpPre (i := i) (j := j) zW zW
      exact ⟨l ++ (en j).nb.toList, by rw [T.hpStep zW, hl, List.append_assoc]⟩
theorem Tr.hpLen (T:Tr c all n0 K0 m en st kk){i j:Nat}(h:i<=j)(hj:j<=m):(st i).hp.length<=(st j).hp.length:=by
 obtain⟨l,hl⟩:=T.hpPre h hj;rw[hl];simp
theorem Tr.owStep (T:Tr c all n0 K0 m en st kk){j:Nat}(hj:j<m):(st (j+1)).ow=(en j).ow/\(eC all j=false->(st (j+1)).ow=(st j).ow):=by
 obtain⟨o,h⟩:=T.ent j hj;have e:(st (j+1)).ow=(en j).ow:=by rw[h.wk.ow];rfl
 exact⟨e,λhc=>e.trans (h.nc (by simpa[eC,h.ho]using hc))⟩
theorem Tr.owEq (T : Tr c all n0 K0 m en st kk) : ∀ {i j : Nat}, i <= j -> j <= m -> (∀ q, i <= q -> q < j -> eC all q = false) -> (st j).ow = (st i).ow
  | i, 0, h, _, _ => by have : i = 0 := by omega
                        subst this; rfl
  | i, j + 1, h, hj, hc => by
    rcases Nat.eq_or_lt_of_le h with e | e
    · subst e; rfl
    · rw [(T.owStep zW).2 (hc j zW zW)]
      exact T.owEq zW zW (λq h1 h2 => hc q h1 zW)
theorem Tr.owSame (T:Tr c all n0 K0 m en st kk){p:Nat->Prop}{i j:Nat}(hi:i<=m)(hj:j<=m)(h1:∀q,q<m->eC all q=true->(p q↔q<i))(h2:∀q,q<m->eC all q=true->(p q↔q<j)):(st i).ow=(st j).ow:=by
 rcases Nat.le_total i j with h | h
 ·refine(T.owEq h hj λq hq1 hq2=>?_).symm;cases hc:eC all q with
  | false=>rfl
  | true=>have:=(h1 q zW hc).1 ((h2 q zW hc).2 hq2);omega
 ·refine T.owEq h hi λq hq1 hq2=>?_;cases hc:eC all q with
  | false=>rfl
  | true=>have:=(h2 q zW hc).1 ((h1 q zW hc).2 hq2);omega
theorem Tr.from (T:Tr c all n0 K0 m en st kk):∀{j:Nat},j<=m->∀{t:Nat} {av:AV},look (st j).sl t=some av->
  (∃j',j'<j/\pJ all j'=some t/\∀μ,aD μ (en j').av=aD μ av)\/((∀j',j'<j->pJ all j'≠some t)/\∃av0,look (st 0).sl t=some av0/\∀μ,aD μ av0=aD μ av)
 | 0,_,t,av,h=>.inr ⟨λj' h=>zW,av,h,λ_=>rfl⟩
 | j+1,hj,t,av,h=>by
  obtain⟨o,E⟩:=T.ent j zW;obtain⟨b,hb1,hb2⟩:=E.wk.sl t av h;have hd:pJ all j=o.dst:=by simp[pJ,E.ho]
  have other:look (st j).sl t=some b->pJ all j≠some t->(∃j',j'<j+1/\pJ all j'=some t/\∀μ,aD μ (en j').av=aD μ av)\/((∀j',j'<j+1->pJ all j'≠some t)/\∃av0,look (st 0).sl t=some av0/\∀μ,aD μ av0=aD μ av):=λhl hne=>by
   rcases T.from (j:=j) zW hl with⟨j',h1,h2,h3⟩ | ⟨h1,av0,h2,h3⟩
   ·exact Or.inl ⟨j',zW,h2,λμ=>(h3 μ).trans (hb2 μ)⟩
   ·refine Or.inr ⟨λj' hj'=>?_,av0,h2,λμ=>(h3 μ).trans (hb2 μ)⟩;rcases Nat.lt_or_ge j' j with h | h
    ·exact h1 j' h
    ·have:j'=j:=zW
     subst this;exact hne
  cases ho:o.dst with
  | none=>
   simp only[St.putO,ho]at hb1;exact other hb1 (by rw[hd,ho];simp)
  | some d=>
   simp only[St.putO,ho]at hb1;by_cases e:d=t
   ·subst e;rw[bK]at hb1;injection hb1 with hb1;subst hb1
    exact .inl ⟨j,zW,by rw[hd,ho],hb2⟩
   ·rw[bE e]at hb1;exact other hb1 (by rw[hd,ho];simpa using e)
theorem Tr.kkMem (T:Tr c all n0 K0 m en st kk):∀{j:Nat},j<=m->∀f,f∈kk j->f∈K0\/∃j',j'<j/\f∈(en j').kn
 | 0,_,f,h=>.inl (T.k0▸h)
 | j+1,hj,f,h=>by
  obtain⟨o,E⟩:=T.ent j zW;rw[E.kk]at h;rcases List.mem_append.1 h with h | h
  ·exact .inr ⟨j,zW,h⟩
  ·rcases T.kkMem (j:=j) zW f h with h | ⟨j',h1,h2⟩
   ·exact .inl h
   ·exact .inr ⟨j',zW,h2⟩
structure PInv (c:Cx)(all:Array Oper)(n0:Nat)(K0:List KF)(m:Nat)(en:Nat->Ent)(st:Nat->St)(L:Array Bool)(X:Nat->Prop)(μ:Mu)(a:Act)(w:World):Prop where
 dfr:a.defers=c.df
 size:a.tmps.size=c.nt
 base:∀t av,(∀j,j<m->pJ all j=some t->¬ex L j)->look (st 0).sl t=some av->∃v,aD μ av=some v/\a.tmps[t]?=some v
 done:∀j,j<m->ex L j->∀d,pJ all j=some d->∃v,aD μ (en j).av=some v/\a.tmps[d]?=some v
 heap:∀k blk m',(st m).hp[k]?=some blk->μ k=some m'->blk.ok X μ w m'
 old:∀k,k<n0->∃b,μ k=some b
 newid:∀k b,μ k=some b->k<n0\/∃j,j<m/\ex L j/\(en j).nb.isSome=true/\k=(st j).hp.length
 alloc:∀j,j<m->ex L j->(en j).nb.isSome=true->∃b,μ (st j).hp.length=some b
 inj:∀k k' b,μ k=some (.own b)->μ k'=some (.own b)->k=k'
 loc:∀k b,μ k=some (.own b)->c.B.heap.size<=b/\¬X b/\b<w.heap.size
 xlt:∀b,X b->b<w.heap.size
 xnew:∀b,X b->c.X0 b\/c.B.heap.size<=b
 xold:∀b,c.X0 b->X b
 bel:Below c.B.heap.size c.B w
 kf0:∀f,f∈K0->f.p X μ w
 kfc:∀j,j<m->ex L j->∀f,f∈(en j).kn->f.p X μ w
 own:∀q,q<=m->(∀j,j<m->eC all j=true->(ex L j↔j<q))->OwnOk c.B (st q).ow X μ w
 thr:∃q,q<=m/\∀j,j<m->eC all j=true->(ex L j↔j<q)
theorem fC {L:Array Bool}{i j:Nat}(hi:i<L.size):ex (L.setIfInBounds i true) j↔j=i\/ex L j:=by
 unfold ex;by_cases h:i=j
 ·subst h;simp[hi]
 ·rw[getD_set_ne false h];constructor
  ·exact .inr
  ·rintro (e | e)
   ·exact absurd e.symm h
   ·exact e
theorem aKq {L:Array Bool}(hdc:DC all L){j i:Nat}(h:Reach all j i)(hx:ex L j):ex L i:=by
 cases h with
 | one ho he hb=>exact hdc _ _ hx ho _ he hb
 | more ho he hb h=>exact aKr hdc (.more ho he hb h) _ ho (λe he' hb'=>hdc _ _ hx ho e he' hb')
theorem aAc (T:Tr c all n0 K0 m en st kk){L:Array Bool}{j:Nat}(hj:j<m){o:Oper}(E:EntOk c all n0 K0 (en j) j (st j) (st (j+1)) (kk j) (kk (j+1)) o)
  (hr:∀i,Reach all j i->ex L i) (hdc:DC all L) (aDi:¬ex L j) (hc:cF o=true):∀q,q<m->eC all q=true->(ex L q↔q<j):=by
 intro q hq hcq;obtain⟨o',E'⟩:=T.ent q hq;have hc':cF o'=true:=by simpa[eC,E'.ho]using hcq
 constructor
 ·intro hx;rcases Nat.lt_trichotomy q j with h | h | h
  ·exact h
  ·subst h;exact absurd hx aDi
  ·exact absurd (aKq hdc (T.ok.cal q o' j o E'.ho hq hc' h E.ho hc) hx) aDi
 ·intro h;exact hr _ (T.ok.cal j o q o' E.ho hj hc h E'.ho hc')
theorem PInv.psim (T:Tr c all n0 K0 m en st kk){L:Array Bool}{X:Nat->Prop}{μ:Mu}{a:Act}{w:World}(H:PInv c all n0 K0 m en st L X μ a w){j:Nat}(hj:j<m){o:Oper}(E:EntOk c all n0 K0 (en j) j (st j) (st (j+1)) (kk j) (kk (j+1)) o)
  (hr:∀i,Reach all j i->ex L i) (hdc:DC all L) (aDi:¬ex L j) (K:List KF) (hK:K=if cF o then kk j else K0):PSim c K n0 (xL all o) (fl (st j) o) X μ a w:=by
 refine⟨H.dfr,H.size,?_,?_,H.old,H.inj,H.loc,H.xlt,H.xnew,H.xold,H.bel,?_,?_⟩
 ·intro t av ht hl;rw[tH]at hl;rcases T.from (Nat.le_of_lt hj) hl with⟨j',h1,h2,h3⟩ | ⟨h1,av0,h2,h3⟩
  ·have hx:=((T.ok.opn j o t j' E.ho hj ht zW h2).resolve_right (λh=>zW)).2
   obtain⟨v,e1,e2⟩:=H.done j' zW (hr _ hx) t h2;exact⟨v,by rw[<-h3 μ];exact e1,e2⟩
  ·obtain⟨v,e1,e2⟩:=H.base t av0 (λj' hj' hd=>by
    rcases Nat.lt_or_ge j' j with h | h
    ·exact absurd hd (h1 j' h)
    ·rcases T.ok.opn j o t j' E.ho hj ht hj' hd with h' | h'
     ·omega
     ·exact λhx=>aDi (aKq hdc h'.2 hx)) h2
   exact⟨v,by rw[<-h3 μ];exact e1,e2⟩
 ·intro k blk b hk hm;rw[xS]at hk;obtain⟨l,hl⟩:=T.hpPre (i:=j) (j:=m) zW (lRf _);refine H.heap k blk b ?_ hm;rw[hl,List.getElem?_append_left (List.getElem?_eq_some_iff.1 hk).1];exact hk
 ·intro f hf;subst hK;cases hc:cF o with
  | false=>rw[hc]at hf;exact H.kf0 f (by simpa using hf)
  | true=>
   rw[hc]at hf;simp only[if_true]at hf;rcases T.kkMem (Nat.le_of_lt hj) f hf with h | ⟨j',h1,h2⟩
   ·exact H.kf0 f h
   ·obtain⟨o',E'⟩:=T.ent j' zW;have hc':cF o'=true:=by
     cases hq:cF o' with
     | true=>rfl
     | false=>rw[E'.kn hq]at h2;cases h2
    exact H.kfc j' zW (hr _ (T.ok.cal j o j' o' E.ho hj hc h1 E'.ho hc')) f h2
 ·cases hc:cF o with
  | false=>simp only[fl,hc,Bool.false_eq_true,if_false];exact OwnOk.nil _ _ _ _
  | true=>
   simp only[fl,hc,if_true];refine H.own j zW (aAc T hj E hr hdc aDi hc)
theorem PInv.step (T:Tr c all n0 K0 m en st kk){L:Array Bool}{X:Nat->Prop}{μ:Mu}{a:Act}{w:World}(H:PInv c all n0 K0 m en st L X μ a w){j:Nat}(hj:j<m)(hL:L.size=all.size){o:Oper}(E:EntOk c all n0 K0 (en j) j (st j) (st (j+1)) (kk j) (kk (j+1)) o)
  (hr:∀i,Reach all j i->ex L i) (hdc:DC all L) (aDi:¬ex L j) {KK:List KF} (HP:PSim c KK n0 (xL all o) (fl (st j) o) X μ a w) {ow:List OF} {X':Nat->Prop} {μ':Mu} {v:Value} {w':World} (hp:cV c (fl (st j) o) X μ w (en j).av (en j).nb ow X' μ' v w') (how:cF o=true->(en j).ow=ow) (hk:∀f,f∈(en j).kn->f.p X' μ' w') (hfr:(en j).nb.isSome=true->μ (st j).hp.length=none):
  PInv c all n0 K0 m en st (L.setIfInBounds j true) X' μ' (a.put o.dst v) w':=by
 have hfl:(fl (st j) o).hp.length=(st j).hp.length:=by rw[xS]
 have hle:Mu.le μ μ':=rT hp (by rw[hfl];exact hfr)
 have aT5:∀b,b<w.heap.size->(∀f,f∈(fl (st j) o).ow->¬f.F μ b)->w'.heap[b]?=w.heap[b]?:=hp.keep
 have hmu:∀k b,μ k=some (.own b)->∀f,f∈(fl (st j) o).ow->¬f.F μ b:=λk b hkb f hf hb=>((HP.own.at_ f hf).2 b hb).2.2.2 k hkb
 have hxo:∀b,X b->∀f,f∈(fl (st j) o).ow->¬f.F μ b:=λb hx f hf hb=>((HP.own.at_ f hf).2 b hb).2.2.1 hx
 have hkx:∀b,X b->w'.heap[b]?=w.heap[b]?:=λb hb=>aT5 b (H.xlt b hb) (hxo b hb)
 have hjl:j<L.size:=by have:=T.hm;omega
 have hd:pJ all j=o.dst:=by simp[pJ,E.ho]
 have sM:∀k m',μ' k=some m'->μ k=some m'\/(∃blk,(en j).nb=some blk/\k=(st j).hp.length/\blk.ok X' μ' w' m'/\∀b,m'=.own b->w.heap.size<=b/\b<w'.heap.size/\¬X' b):=by
  intro k m' hkm;have:=tR hp hkm;rwa [hfl]at this
 refine⟨by rw[put_defers];exact H.dfr,by rw[yH];exact H.size,?_,?_,?_,?_,?_,?_,?_,?_,?_,?_,λb hb=>hp.sub b (H.xold b hb),?_,?_,?_,?_,?_⟩
 ·intro t av hn hl;obtain⟨u,h1,h2⟩:=H.base t av (λj' hj' hd' hx=>hn j' hj' hd' ((fC hjl).2 (.inr hx))) hl;exact⟨u,iN hle _ _ h1,by rw[oQ (by rw[<-hd];exact λh=>hn j hj h ((fC hjl).2 (.inl rfl)))];exact h2⟩
 ·intro j' hj' hx d hd';rcases(fC hjl).1 hx with e | e
  ·subst e;rw[hd]at hd';rw[hd'];have:=E.hdst;rw[hd']at this;simp only[cM,decide_eq_true_eq]at this;exact⟨v,hp.val,nK (by rw[H.size];exact this)⟩
  ·obtain⟨u,h1,h2⟩:=H.done j' hj' e d hd';refine⟨u,iN hle _ _ h1,?_⟩;rw[oQ (λh=>?_)]
   ·exact h2
   ·have:=T.ok.dst j o d j' E.ho hj h hj' hd'
    subst this;exact aDi e
 ·intro k blk m' hkb hm;rcases sM k m' hm with h1 | ⟨blk',e1,e2,h2,h3⟩
  ·exact Blk.ok_keep hle hp.sub hkx (λb e=>aT5 b (H.loc k b (by rw[h1,e])).2.2 (hmu k b (by rw[h1,e]))) (H.heap k blk m' hkb h1)
  ·subst e2;obtain⟨l,hl⟩:=T.hpPre (i:=j+1) (j:=m) zW (lRf _);rw[hl,T.hpStep hj,e1]at hkb;have:blk=blk':=by
    rw[List.append_assoc,List.getElem?_append_right (lRf _)]at hkb;simp at hkb;exact hkb.symm
   subst this;exact h2
 ·intro k hk';obtain⟨b,hb⟩:=H.old k hk';exact⟨b,hle _ _ hb⟩
 ·intro k b hm;rcases sM k b hm with h1 | ⟨blk',e1,e2,_⟩
  ·rcases H.newid k b h1 with h | ⟨j',h2,h3,h4,h5⟩
   ·exact .inl h
   ·exact .inr ⟨j',h2,(fC hjl).2 (.inr h3),h4,h5⟩
  ·exact .inr ⟨j,hj,(fC hjl).2 (.inl rfl),by rw[e1];rfl,e2⟩
 ·intro j' hj' hx hs;rcases(fC hjl).1 hx with e | e
  ·subst e;have hb:=hp.blk;cases hnb:(en j').nb with
   | none=>rw[hnb]at hs;cases hs
   | some blk=>
    rw[hnb]at hb;simp only at hb;rw[hfl]at hb;obtain⟨b',h4,_⟩:=hb;exact⟨b',by rw[h4,Mu.upd_same]⟩
  ·obtain⟨b,hb⟩:=H.alloc j' hj' e hs;exact⟨b,hle _ _ hb⟩
 ·intro k k' b h1 h2;rcases sM k _ h1 with h1 | ⟨_,_,e2,_,h3⟩<;>rcases sM k' _ h2 with h4 | ⟨_,_,e5,_,h6⟩
  ·exact H.inj k k' b h1 h4
  ·have:=(H.loc k b h1).2.2;have:=(h6 b rfl).1;omega
  ·have:=(H.loc k' b h4).2.2;have:=(h3 b rfl).1;omega
  ·omega
 ·intro k b h1;rcases sM k _ h1 with h1 | ⟨_,_,e2,_,h3⟩
  ·obtain⟨l1,l2,l3⟩:=H.loc k b h1;refine⟨l1,λhx=>?_,Nat.lt_of_lt_of_le l3 hp.bel.size⟩;rcases hp.new b hx with h | h | ⟨f,hf,hb⟩
   ·exact l2 h
   ·omega
   ·exact hmu k b h1 f hf hb
  ·obtain⟨q1,q2,q3⟩:=h3 b rfl;exact⟨lTr H.bel.size q1,q3,q2⟩
 ·intro b hx;rcases hp.new b hx with h | h | ⟨f,hf,hb⟩
  ·exact Nat.lt_of_lt_of_le (H.xlt b h) hp.bel.size
  ·exact h.2
  ·exact Nat.lt_of_lt_of_le ((HP.own.at_ f hf).2 b hb).2.1 hp.bel.size
 ·intro b hx;rcases hp.new b hx with h | h | ⟨f,hf,hb⟩
  ·exact H.xnew b h
  ·exact .inr (lTr H.bel.size h.1)
  ·exact .inr ((HP.own.at_ f hf).2 b hb).1
 ·exact H.bel.trans hp.bel
 ·exact lH H.kf0 hp.sub hle.v hkx
 ·intro j' hj' hx f hf;rcases(fC hjl).1 hx with e | e
  ·subst e;exact hk f hf
  ·exact f.st X X' μ μ' w w' hp.sub hle.v hkx (H.kfc j' hj' e f hf)
 ·intro q hq hqb;cases hc:cF o with
  | true=>
   have hb:=aAc T hj E hr hdc aDi hc
   have e:(st q).ow=(st (j+1)).ow:=T.owSame hq zW hqb (λi hi hci=>by
    rw[fC hjl,hb i hi hci];omega)
   rw[e,(T.owStep hj).1,how hc];exact hp.own
  | false=>
   have hcj:eC all j=false:=by simp[eC,E.ho,hc]
   refine(H.own q hq λi hi hci=>?_).keep hle hp.bel.size (λb hb=>aT5 b hb (λf hf=>by simp[fl,hc]at hf)) (λb hx=>?_) (λk b hkb=>?_)
   ·have hne:i≠j:=λe=>by rw[e,hcj]at hci;cases hci
    rw[<-hqb i hi hci,fC hjl];exact⟨.inr,λh=>h.resolve_left hne⟩
   ·rcases hp.new b hx with h | h | ⟨f,hf,_⟩
    ·exact .inl h
    ·exact .inr h.1
    ·simp[fl,hc]at hf
   ·rcases sM k _ hkb with h | ⟨_,_,_,_,h⟩
    ·exact .inl h
    ·exact .inr (h b rfl).1
 ·cases hc:cF o with
  | true=>
   have hb:=aAc T hj E hr hdc aDi hc
   exact⟨j+1,zW,λi hi hci=>by rw[fC hjl,hb i hi hci];omega⟩
  | false=>
   have hcj:eC all j=false:=by simp[eC,E.ho,hc]
   obtain⟨q,hq,hqb⟩:=H.thr;refine⟨q,hq,λi hi hci=>?_⟩;have hne:i≠j:=λe=>by rw[e,hcj]at hci;cases hci
   rw[<-hqb i hi hci,fC hjl];exact⟨λh=>h.resolve_left hne,.inr⟩
theorem PInv.freshId (T:Tr c all n0 K0 m en st kk){L:Array Bool}{X:Nat->Prop}{μ:Mu}{a:Act}{w:World}(H:PInv c all n0 K0 m en st L X μ a w){j:Nat}(hj:j<m)(aDi:¬ex L j)(hs:(en j).nb.isSome=true):μ (st j).hp.length=none:=by
 cases h:μ (st j).hp.length with
 | none=>rfl
 | some b=>
  have h0:=T.hpLen (i:=0) (j:=j) zW zW
  rcases H.newid _ b h with e | ⟨j',h1,h2,h3,h4⟩
  ·have:=T.n0;omega
  ·have hne:j'≠j:=λe=>aDi (e▸h2)
   rcases Nat.lt_or_ge j' j with e | e
   ·have h5:=T.hpLen (i:=j'+1) (j:=j) zW zW
    rw[T.hpStep h1]at h5;cases hq:(en j').nb with
    | none=>rw[hq]at h3;cases h3
    | some x=>simp[hq]at h5;omega
   ·have h5:=T.hpLen (i:=j+1) (j:=j') zW zW
    rw[T.hpStep hj]at h5;cases hq:(en j).nb with
    | none=>rw[hq]at hs;cases hs
    | some x=>simp[hq]at h5;omega
theorem PInv.sim (T:Tr c all n0 K0 m en st kk){L:Array Bool}{X:Nat->Prop}{μ:Mu}{a:Act}{w:World}(H:PInv c all n0 K0 m en st L X μ a w)(cI:∀j,j<m->ex L j):Sim c (kk m) (st m) X μ a w:=by
 have bBg:∀k,(st m).hp.length<=k->μ k=none:=by
  intro k hk;cases h:μ k with
  | none=>rfl
  | some b=>
   rcases H.newid k b h with e | ⟨j,h1,h2,h3,h4⟩
   ·have:=T.n0;have:=T.hpLen (i:=0) (j:=m) zW (lRf _);omega
   ·have h5:=T.hpLen (i:=j+1) (j:=m) zW (lRf _)
    rw[T.hpStep h1]at h5;cases hq:(en j).nb with
    | none=>rw[hq]at h3;cases h3
    | some x=>simp[hq]at h5;omega
 refine⟨⟨H.dfr,H.size,?_,H.heap,?_,H.inj,H.loc,H.xlt,H.xnew,H.xold,H.bel,?_,H.own m (lRf _) (λj hj _=>⟨λ_=>hj,λ_=>cI j hj⟩)⟩,bBg⟩
 ·intro t av _ hl;rcases T.from (lRf m) hl with⟨j',h1,h2,h3⟩ | ⟨h1,av0,h2,h3⟩
  ·obtain⟨v,e1,e2⟩:=H.done j' h1 (cI j' h1) t h2;exact⟨v,by rw[<-h3 μ];exact e1,e2⟩
  ·obtain⟨v,e1,e2⟩:=H.base t av0 (λj' hj' hd=>absurd hd (h1 j' hj')) h2;exact⟨v,by rw[<-h3 μ];exact e1,e2⟩
 ·
  have key:∀i,i<=m->∀k,k<(st i).hp.length->∃b,μ k=some b:=by
   intro i;induction i with
   | zero=>intro _ k hk;exact H.old k (by rw[T.n0];exact hk)
   | succ i ih=>
    intro hi k hk;rw[T.hpStep zW]at hk;rcases Nat.lt_or_ge k (st i).hp.length with h | h
    ·exact ih zW k h
    ·cases hq:(en i).nb with
     | none=>simp[hq]at hk;omega
     | some x=>
      simp[hq]at hk;have:k=(st i).hp.length:=zW;subst this;exact H.alloc i zW (cI i zW) (by rw[hq];rfl)
  exact key m (lRf _)
 ·intro f hf;rcases T.kkMem (lRf m) f hf with h | ⟨j',h1,h2⟩
  ·exact H.kf0 f h
  ·exact H.kfc j' h1 (cI j' h1) f h2
end
end Go.Ai
