/- Part 23: lemmas for the particulars laws -/
import Derived.Maps.RangeRun
import Derived.Test.YtafimpgfbgigeaaGreatDoorPh15
set_option linter.all false
namespace Go.Ai
open Go Go.RowKit
abbrev fQ:=List (List ByteArray × Int)
def jZ (k:List ByteArray):Value:=.agg (k.map Value.string).toArray
def cR:Nat->fQ->List MapEntry
 | _,[]=>[]
 | i,(k,v)::l=>⟨jZ k,.int .i64 v,i⟩::cR (i+1) l
def gC (k:List ByteArray):fQ->Nat->Option (Nat × Int)
 | [],_=>none
 | (q,v)::l,i=>if k=q then some (i,v)else gC k l (i+1)
def gL (es:fQ)(k:List ByteArray):Int:=match gC k es 0 with | some (_,v)=>v | none=>0
def gU (es:fQ)(k:List ByteArray):fQ:=match gC k es 0 with | some _=>es | none=>es++[(k,0)]
def nA (es:fQ)(k:List ByteArray):Nat:=match gC k es 0 with | some (i,_)=>i | none=>es.length
def nL:fQ->Nat->Int->fQ
 | [],_,_=>[]
 | (k,_)::l,0,v=>(k,v)::l
 | x::l,n+1,v=>x::nL l n v
def gD (k:List ByteArray)(d:Int):fQ->fQ
 | []=>[(k,d)]
 | (q,v)::l=>if k=q then(q,v+d)::l else(q,v)::gD k d l
theorem lX:∀(l:fQ) (i j:Nat),(cR i l)[j]?=(l[j]?).map λx=>⟨jZ x.1,.int .i64 x.2,i+j⟩
 | [],i,j=>by simp[cR]
 | (k,v)::l,i,0=>by simp[cR]
 | (k,v)::l,i,j+1=>by
  simp only[cR,List.getElem?_cons_succ,lX l (i+1) j];rw[show i+1+j=i+(j+1) by omega]
theorem aFs:∀(l:fQ) (i:Nat),(cR i l).length=l.length
 | [],_=>rfl
 | _::l,i=>by simp[cR,aFs l (i+1)]
theorem aFr:∀(l m:fQ) (i:Nat),cR i (l++m)=cR i l++cR (i+l.length) m
 | [],m,i=>by simp[cR]
 | (k,v)::l,m,i=>by
  simp only[List.cons_append,cR,aFr l m (i+1),List.length_cons];rw[show i+1+l.length=i+(l.length+1) by omega]
theorem qL:∀{k:List ByteArray} {l:fQ} {i j:Nat} {v:Int},gC k l i=some (j,v)->i<=j/\j<i+l.length/\l[j - i]?=some (k,v)
 | k,[],i,j,v,h=>by cases h
 | k,(q,u)::l,i,j,v,h=>by
  simp only[gC]at h;split at h
  ·rename_i e;injection h with h;injection h with h1 h2
   subst h1;subst h2;subst e;simp
  ·obtain⟨h1,h2,h3⟩:=qL h;refine⟨zW,by simp;omega,?_⟩;obtain⟨m,hm⟩:∃m,j - i=m+1:=⟨j - i - 1,zW⟩;rw[hm,List.getElem?_cons_succ,<-h3];congr 1;omega
theorem aFx:∀(k:List ByteArray) (l:fQ) (i:Nat),gC k l i=none->gC k (l++[(k,0)]) i=some (i+l.length,0)
 | k,[],i,_=>by simp[gC]
 | k,(q,v)::l,i,h=>by
  simp only[gC]at h;split at h
  ·cases h
  ·rename_i e;simp only[List.cons_append,gC,e,if_false,aFx k l (i+1) h,List.length_cons];rw[show i+1+l.length=i+(l.length+1) by omega]
theorem aGm (es:fQ)(k:List ByteArray):nA es k<(gU es k).length:=by
 unfold nA gU;cases h:gC k es 0 with
 | none=>simp
 | some x=>obtain⟨j,v⟩:=x;have:=qL h;simp;omega
theorem aDc (es:fQ)(k:List ByteArray):gL (gU es k) k=gL es k:=by
 unfold gU;cases h:gC k es 0 with
 | none=>simp only[gL,aFx k es 0 h,h]
 | some x=>rfl
theorem yR:∀(k:List ByteArray) (d:Int) (es:fQ) (i:Nat),(match gC k es i with | some (j,v)=>nL es (j - i) (v+d) | none=>nL (es++[(k,0)]) es.length (0+d))=gD k d es
 | k,d,[],i=>by simp[gC,nL,gD]
 | k,d,(q,v)::l,i=>by
  by_cases e:k=q
  ·simp only[gC,e,if_true,gD,Nat.sub_self,nL]
  ·have ih:=yR k d l (i+1)
   simp only[gC,e,if_false,gD];cases h:gC k l (i+1)with
   | none=>
    rw[h]at ih;simp only[List.cons_append,List.length_cons,nL]at ih |-;rw[ih]
   | some x=>
    obtain⟨j,u⟩:=x;rw[h]at ih;have:=qL h;simp only at ih |-;rw[show j - i=(j - (i+1))+1 by omega,nL,ih]
theorem aK0 (es:fQ)(k:List ByteArray)(d:Int):nL (gU es k) (nA es k) (gL es k+d)=gD k d es:=by
 have:=yR k d es 0
 unfold gU nA gL;cases h:gC k es 0 with
 | none=>rw[h]at this;exact this
 | some x=>obtain⟨j,v⟩:=x;rw[h]at this;simpa using this
theorem aK1:∀(l:fQ) (n:Nat) (v:Int),(nL l n v).length=l.length
 | [],_,_=>rfl
 | _::_,0,_=>rfl
 | _::l,n+1,v=>by simp[nL,aK1 l n v]
theorem aGh:∀(l:fQ) (n i:Nat) (v:Int),cR i (nL l n v)=(cR i l).modify n λe=>{e with val:=.int .i64 v}
 | [],n,i,v=>by simp[nL,cR]
 | (k,u)::l,0,i,v=>by simp[nL,cR]
 | (k,u)::l,n+1,i,v=>by simp[nL,cR,aGh l n (i+1) v]
def jF (n:Nat)(es:fQ):Prop:=∀x,x∈es->x.1.length=n
theorem jF.touch {n:Nat}{es:fQ}{k:List ByteArray}(h:jF n es)(hk:k.length=n):jF n (gU es k):=by
 unfold gU;split
 ·exact h
 ·intro x hx;rcases List.mem_append.1 hx with e | e
  ·exact h x e
  ·simp at e;subst e;exact hk
theorem jF.add {n:Nat}{k:List ByteArray}{d:Int}(hk:k.length=n):∀{es:fQ},jF n es->jF n (gD k d es)
 | [],_=>by intro x hx;simp[gD]at hx;subst hx;exact hk
 | (q,v)::l,h=>by
  have hq:=h (q,v) zA
  have hl:jF n l:=λx hx=>h x (List.mem_cons_of_mem _ hx)
  unfold gD;split
  ·intro x hx;rcases List.mem_cons.1 hx with e | e
   ·subst e;exact hq
   ·exact hl x e
  ·intro x hx;rcases List.mem_cons.1 hx with e | e
   ·subst e;exact hq
   ·exact jF.add hk hl x e
def isStr (P:Program)(t:Nat):Bool:=match P.underlying t with | some (.struct _)=>true | _=>false
theorem aUg {P:Program}{t:Nat}(h:isStr P t=true):∃fs,P.underlying t=some (.struct fs):=by
 unfold isStr at h;split at h
 ·rename_i fs e;exact⟨fs,e⟩
 ·cases h
structure KeyTy (P:Program)(mt kt et n:Nat):Prop where
 map:P.underlying mt=some (.map kt et)
 lv:leaves P 12 kt=some (List.replicate n .s)
 strB:isStr P kt=true
 chk:∀(a:List ByteArray) (b:Bool) (w:World),a.length=n->(Instr.checkKey b 10000 kt (jZ a)).run P w=.ok () w
 zero:∀w,(zeroValue et).run P w=.ok (.int .i64 0) w
section
variable {P:Program}{mt kt et n:Nat}
theorem wF:∀(a:List ByteArray),dQ (a.map Value.string)=some (List.replicate a.length .s)
 | []=>rfl
 | x::l=>by simp[dQ,sG,wF l,List.replicate_succ]
theorem tN:∀{a b:List ByteArray},a.map Value.string=b.map Value.string->a=b
 | [],[],_=>rfl
 | [],_::_,h=>by cases h
 | _::_,[],h=>by cases h
 | x::a,y::b,h=>by
  simp only[List.map_cons,List.cons.injEq,Value.string.injEq]at h;rw[h.1,tN h.2]
theorem KeyTy.str (T:KeyTy P mt kt et n):∃fs,P.underlying kt=some (.struct fs):=aUg T.strB
theorem KeyTy.eqv (T:KeyTy P mt kt et n){a b:List ByteArray}(ha:a.length=n)(hb:b.length=n)(w:World):(Op.equal kt (jZ a) (jZ b)).run P w=.ok (decide (a=b)) w:=by
 obtain⟨fs,hfs⟩:=T.str;have E:=vZ (P:=P) 12 9988 kt _ T.lv;obtain⟨r,h1,h2⟩:=E w (jZ a) (jZ b) (by simp only[Shp,hfs];exact⟨_,rfl⟩) (by simp only[Shp,hfs];exact⟨_,rfl⟩) (by simp only[jZ,Value.cells,wF,ha]) (by simp only[jZ,Value.cells,wF,hb]);have e:r=decide (a=b):=by
  rw[Bool.eq_iff_iff,h2,decide_eq_true_eq];simp only[jZ,Value.cells];exact⟨λh=>tN h,λh=>by rw[h]⟩
 rw[<-e];exact h1
theorem KeyTy.asking (T:KeyTy P mt kt et n){k:List ByteArray}(hk:k.length=n)(w:World):∀(l:fQ) (i j:Nat),jF n l->(Instr.findAsking kt (jZ k) (cR i l) j).run P w=.ok ((gC k l j).map λx=>(x.1,.int .i64 x.2)) w
 | [],i,j,_=>by simp[cR,Instr.findAsking,gC]
 | (q,v)::l,i,j,h=>by
  have h1:=h (q,v) zA
  simp only[cR,Instr.findAsking,Sem.run_bind,T.eqv hk h1,Result.andThen_ok,gC];by_cases e:k=q
  ·simp[e]
  ·simp only[e,decide_false,Bool.false_eq_true,if_false];exact T.asking hk w l (i+1) (j+1) (λx hx=>h x (List.mem_cons_of_mem _ hx))
theorem KeyTy.find (T:KeyTy P mt kt et n){k:List ByteArray}(hk:k.length=n)(w:World){es:fQ}(h:jF n es):(Instr.findKey kt (jZ k) (cR 0 es)).run P w=.ok ((gC k es 0).map λx=>(x.1,.int .i64 x.2)) w:=by
 obtain⟨fs,hfs⟩:=T.str;have:=T.asking hk w es 0 0 h;simp only[Instr.findKey,Sem.run_bind,run_underlying hfs,Result.andThen_ok];cases es with
 | nil=>simp[cR,Instr.findNow,gC]
 | cons x l=>
  obtain⟨q,v⟩:=x;simp only[cR]at this |-;simp only[Instr.findNow,Instr.sameNow];exact this
def tM (w:World)(r:Nat)(es:fQ):Prop:=w.heap[r]?=some (.map (cR 0 es).toArray es.length)
theorem KeyTy.look (T:KeyTy P mt kt et n){k:List ByteArray}(hk:k.length=n){w:World}{r:Nat}{es:fQ}(h:jF n es)(hb:tM w r es):(Instr.lookup mt (.map (some r)) (jZ k) false).run P w=.ok (.int .i64 (gL es k)) w:=by
 have h1:=T.find hk w h
 simp only[Instr.lookup,Sem.run_bind,run_underlying T.map,Result.andThen_ok,MapKept.run_getObj_map hb,Sem.run_pure,T.chk k _ w hk,List.toList_toArray,h1];unfold gL;cases hf:gC k es 0 with
 | none=>simp[T.zero,Result.andThen]
 | some x=>obtain⟨j,v⟩:=x;simp
theorem yO:∀(m:Nat) (a:List ByteArray),(((a.map Value.string).zip (a.map Value.string)).all λ(x,y)=>Instr.sameBits (m+1) x y)=true
 | m,[]=>rfl
 | m,x::l=>by
  simp only[List.map_cons,List.zip_cons_cons,List.all_cons,yO m l,Bool.and_true];simp only[Instr.sameBits];exact(MapKept.bytes_beq x x).2 rfl
theorem aH9 (a:List ByteArray):Instr.sameBits 10000 (jZ a) (jZ a)=true:=by
 show Instr.sameBits (9999+1) (.agg (a.map Value.string).toArray) (.agg (a.map Value.string).toArray)=true
 simp only[Instr.sameBits,beq_self_eq_true,Bool.true_and];exact yO 9998 a
theorem KeyTy.entry (T:KeyTy P mt kt et n){k:List ByteArray}(hk:k.length=n){w:World}{r:Nat}{es:fQ}(h:jF n es)(hb:tM w r es):∃v,(Instr.mapEntry mt (.map (some r)) (jZ k)).run P w=.ok (.tuple #[v,.int .i64 (nA es k)]) {w with heap:=w.heap.setIfInBounds r (.map (cR 0 (gU es k)).toArray (gU es k).length)}:=by
 have h1:=T.find hk w h
 simp only[Instr.mapEntry,Sem.run_bind,run_underlying T.map,Result.andThen_ok,MapKept.run_getObj_map hb,T.chk k _ w hk,List.toList_toArray,h1];unfold nA gU;cases hf:gC k es 0 with
 | none=>
  refine⟨.int .i64 0,?_⟩;simp only[Option.map_none,Sem.run_bind,T.zero,Result.andThen_ok,MapKept.run_setObj_map _ hb,Sem.run_pure,goInt];congr 3;simp[aFr,cR]
 | some x=>
  obtain⟨j,v⟩:=x;obtain⟨e1,e2,e3⟩:=qL hf;simp only[Nat.sub_zero,Nat.zero_add]at e2 e3;have hj:(cR 0 es).toArray[j]?=some ⟨jZ k,.int .i64 v,j⟩:=by
   rw[List.getElem?_toArray,lX,e3];simp
  have hm:(cR 0 es).toArray.modify j (λe=>{e with key:=jZ k})=(cR 0 es).toArray:=by
   apply Array.ext';apply List.ext_getElem?;intro q;simp only[Array.toList_modify,List.getElem?_modify];by_cases hq:j=q
   ·subst hq;have:(cR 0 es)[j]?=some ⟨jZ k,.int .i64 v,j⟩:=by simpa using hj
    simp[this]
   ·simp[hq]
  refine⟨.int .i64 v,?_⟩;simp only[Option.map_some,hj,Option.getD_some,Sem.run_bind,Instr.keyThatStays,aH9,if_true,Sem.run_pure,Result.andThen_ok,hm,MapKept.run_setObj_map _ hb,goInt]
theorem aC4 {w:World}{r:Nat}{es:fQ}(hb:tM w r es){s:Nat}(hs:s<es.length)(v:Int):(Instr.entryStore mt (.map (some r)) (.int .i64 s) (.int .i64 v)).run P w=.ok () {w with heap:=w.heap.setIfInBounds r (.map (cR 0 (nL es s v)).toArray (nL es s v).length)}:=by
 have hf:(cR 0 es).toArray.findIdx? (λe=>(e.born:Int)==(s:Int))=some s:=by
  rw[Array.findIdx?_eq_some_iff_getElem];have hl:=aFs es 0;have hg:∀q (hq:q<(cR 0 es).length),((cR 0 es)[q]).born=q:=λq hq=>by
   have h1:=lX es 0 q
   rw[List.getElem?_eq_getElem hq,List.getElem?_eq_getElem zW]at h1;simp only[Option.map_some,Option.some.injEq]at h1;rw[h1];simp
  refine⟨by simp[hl];exact hs,?_,?_⟩
  ·simp[hg]
  ·intro j hj;simp[hg];omega
 simp only[Instr.entryStore,Sem.run_bind,MapKept.run_getObj_map hb,Result.andThen_ok,asInt,asIntOf,Sem.run_pure,hf,MapKept.run_setObj_map _ hb,aK1];rw[aGh];simp
end
def OF.mp (r:Nat)(es:fQ):OF where
 F _ b:=b=r
 p _ w:=tM w r es
 st _ _ w w' _ hk h:=⟨by unfold tM;rw[hk r rfl];exact h,λ_=>Iff.rfl⟩
def OF.it (r m N:Nat)(seen:Array Nat):OF where
 F _ b:=b=r
 p _ w:=w.heap[r]?=some (.mapIter (some m) N seen N)
 st _ _ w w' _ hk h:=⟨by rw[hk r rfl];exact h,λ_=>Iff.rfl⟩
theorem OFr.mp (n r:Nat)(es:fQ):OFr n (OF.mp r es):=⟨λ_ _ h=>⟨h,λ_ h=>h⟩⟩
theorem OFr.it (n r m N:Nat)(seen:Array Nat):OFr n (OF.it r m N seen):=⟨λ_ _ h=>⟨h,λ_ h=>h⟩⟩
section
variable {c:Cx}{P:Program}{ty:Nat->Option TyI}{nt:Nat}{K:List KF}{S:St}{X:Nat->Prop}{μ:Mu}{a:Act}{w:World}
theorem rI {v u:Value}(h:aD μ (.o v)=some u):u=v:=by
 simp only[aD]at h;split at h
 ·injection h with h;exact h.symm
 ·cases h
theorem wM {pre post:List OF}{f f':OF}{r:Nat}{w':World}(H:Sim c K S X μ a w)(how:S.ow=pre++f::post)(hF:∀j,f.F μ j↔j=r)(hF':∀j,f'.F μ j↔j=r)(hp:f'.p μ w')(hos:w'.os=w.os)(htp:w'.tape=w.tape)(hou:w'.output=w.output)
  (hsz:w'.heap.size=w.heap.size) (ho:∀j,j≠r->w'.heap[j]?=w.heap[j]?):Sim c K {S with ow:=pre++f'::post} X μ a w':=by
 have P:=H.toP
 have hf0:f∈S.ow:=by rw[how];simp
 obtain⟨r1,r2,r3,r4⟩:=(P.own.at_ f hf0).2 r ((hF r).2 rfl);have hxr:∀b,X b->b≠r:=λb hx e=>r3 (e▸hx);have hap:=P.own.apart;rw[how,List.pairwise_append]at hap;obtain⟨p1,p2,p3⟩:=hap;have bBd:Below c.B.heap.size c.B w':=⟨hos.trans P.bel.os,htp.trans P.bel.tape,hou.trans P.bel.output,by rw[hsz];exact P.bel.size,λk hk=>(ho k zW).trans (P.bel.block k hk)⟩;refine⟨⟨P.dfr,P.size,P.slots,λk blk m hk hm=>?_,P.all,P.inj,λk b hk=>?_,λb hb=>by rw[hsz];exact P.xlt b hb,P.xnew,P.xold,bBd,lH P.kf (λ_ h=>h) (Mu.vle_refl _) (λb hx=>ho b (hxr b hx)),?_⟩,H.dom⟩
 ·exact Blk.ok_keep (Mu.le_refl _) (λ_ h=>h) (λb hx=>ho b (hxr b hx)) (λb e=>ho b (λe'=>r4 k (by rw[hm,e,e']))) (P.heap k blk m hk hm)
 ·obtain⟨q1,q2,q3⟩:=P.loc k b hk;exact⟨q1,q2,zW⟩
 ·refine⟨λg hg=>?_,List.pairwise_append.2 ⟨p1,List.Pairwise.cons (λg hg b hb hb'=>?_) (List.Pairwise.of_cons p2),λg hg h hh b hb hb'=>?_⟩⟩
  ·have other:∀g,g∈S.ow->(∀b,f.F μ b->¬g.F μ b)->g.p μ w'/\∀b,g.F μ b->c.B.heap.size<=b/\b<w'.heap.size/\¬X b/\∀k,μ k≠some (.own b):=λg hg hne=>by
    obtain⟨h1,h2⟩:=P.own.at_ g hg;refine⟨(g.st μ μ w w' (Mu.vle_refl _) (λj hj=>ho j (λe=>hne r ((hF r).2 rfl) (e▸hj))) h1).1,λb hb=>?_⟩;obtain⟨q1,q2,q3,q4⟩:=h2 b hb;exact⟨q1,zW,q3,q4⟩
   rcases List.mem_append.1 hg with e | e
   ·exact other g (by rw[how];simp[e]) (λb hb hb'=>p3 g e f zA b hb' hb)
   ·rcases List.mem_cons.1 e with e | e
    ·subst e;exact⟨hp,λb hb=>by
      have:=(hF' b).1 hb
      subst this;exact⟨r1,zW,r3,r4⟩⟩
    ·exact other g (by rw[how];simp[e]) (λb hb hb'=>List.rel_of_pairwise_cons p2 e b hb hb')
  ·exact List.rel_of_pairwise_cons p2 hg b ((hF b).2 ((hF' b).1 hb)) hb'
  ·rcases List.mem_cons.1 hh with e | e
   ·subst e;exact p3 g hg f zA b hb ((hF b).2 ((hF' b).1 hb'))
   ·exact p3 g hg h (by simp[e]) b hb hb'
theorem uU {f':OF}{o:Obj}(H:Sim c K S X μ a w)(hF':∀j,f'.F μ j↔j=w.heap.size)(hp:f'.p μ (w.alloc o)):Sim c K {S with ow:=f'::S.ow} X μ a (w.alloc o):=by
 have P:=H.toP
 have hsz:(w.alloc o).heap.size=w.heap.size+1:=by show(w.heap.push o).size=_;simp
 have ho:∀j,j<w.heap.size->(w.alloc o).heap[j]?=w.heap[j]?:=λj hj=>Go.RowKit.Below.heap_alloc w o j hj
 have bBd:Below c.B.heap.size c.B (w.alloc o):=⟨P.bel.os,P.bel.tape,P.bel.output,by rw[hsz];have:=P.bel.size;omega,λk hk=>(ho k (by have:=P.bel.size;omega)).trans (P.bel.block k hk)⟩
 refine⟨⟨P.dfr,P.size,P.slots,λk blk m hk hm=>?_,P.all,P.inj,λk b hk=>?_,λb hb=>by rw[hsz];have:=P.xlt b hb;omega,P.xnew,P.xold,bBd,lH P.kf (λ_ h=>h) (Mu.vle_refl _) (λb hx=>ho b (P.xlt b hx)),?_⟩,H.dom⟩
 ·exact Blk.ok_keep (Mu.le_refl _) (λ_ h=>h) (λb hx=>ho b (P.xlt b hx)) (λb e=>ho b (P.loc k b (by rw[hm,e])).2.2) (P.heap k blk m hk hm)
 ·obtain⟨q1,q2,q3⟩:=P.loc k b hk;exact⟨q1,q2,zW⟩
 ·refine⟨λg hg=>?_,List.Pairwise.cons (λg hg b hb hb'=>?_) P.own.apart⟩
  ·rcases List.mem_cons.1 hg with e | e
   ·subst e;exact⟨hp,λb hb=>by
     have:=(hF' b).1 hb
     subst this;exact⟨P.bel.size,zW,λhx=>by have:=P.xlt _ hx;omega,λk hk=>by have:=(P.loc k _ hk).2.2;omega⟩⟩
   ·obtain⟨h1,h2⟩:=P.own.at_ g e;refine⟨(g.st μ μ w _ (Mu.vle_refl _) (λj hj=>ho j (h2 j hj).2.1) h1).1,λb hb=>?_⟩;obtain⟨q1,q2,q3,q4⟩:=h2 b hb;exact⟨q1,zW,q3,q4⟩
  ·have:=(hF' b).1 hb
   subst this;have:=((P.own.at_ g hg).2 _ hb').2.1;omega
theorem yS (H:Sim c K S X μ a w){d:Option Nat}(hd:cM c.nt d=true){av:AV}{v:Value}(hv:aD μ av=some v):Sim c K (S.put d av none) X μ (a.put d v) w:=by
 have:=mQ (Kn:=[]) H hd (cV.same H.toP.own hv) (λf hf=>by cases hf)
 simpa[St.put]using this
theorem aGg (hc:Ctx c P ty nt){all:Array Oper}{i:Nat}{k:List KI}(o:Oper)(ho:all[i]?=some o)(hg:guardOf all S.sl o=some true)(hd:cM nt o.dst=true){mt:Nat}{M:Nat->fQ->OF}(hM:∀r es,M r es=OF.mp r es)(hop:o.op=.makeMap mt none)
  (h:∀r,Goal c K ⟨.ops all (i+1)::k,S.putO o.dst (.o (.map (some r))) none (M r []::S.ow),[]⟩):Goal c K ⟨.ops all i::k,S,[]⟩:=by
 refine vM hc o ho hg (ι:=Nat) (K':=λ_=>K) (S':=λr=>S.putO o.dst (.o (.map (some r))) none (M r []::S.ow)) (p:=λ_=>True) (λX μ a w H=>?_) (λr _=>h r);refine⟨w.heap.size,.map (some w.heap.size),w.alloc (.map #[] 0),X,μ,trivial,?_,?_⟩
 ·simp[execOp,hop,Instr.makeMap]
 ·rw[hM];have H1:=uU (f':=OF.mp w.heap.size []) (o:=.map #[] 0) H (λj=>Iff.rfl) (by show(w.alloc _).heap[w.heap.size]?=_;rw[heap_alloc_new];rfl);exact yS H1 (by rw[hc.hnt];exact hd) (av:=.o (.map (some w.heap.size))) rfl
theorem aPk (hc:Ctx c P ty nt){all:Array Oper}{i:Nat}{k:List KI}(o:Oper)(ho:all[i]?=some o)(hg:guardOf all S.sl o=some true)(hd:cM nt o.dst=true){mt kt et n r:Nat}(T:KeyTy P mt kt et n){x y:Operand}{kav:AV}{ks:List ByteArray}{es:fQ}(pre:List OF){post:List OF}{M:Nat->fQ->OF}(hM:∀r es,M r es=OF.mp r es)(hop:o.op=.lookup mt x y false)
  (hx:fW S.sl x=some (.o (.map (some r)))) (hy:fW S.sl y=some kav) (hk:aD hJ kav=some (jZ ks)) (hn:ks.length=n) (hes:jF n es) (how:S.ow=pre++M r es::post) (z:Int) (hz:z=gL es ks)
  (h:Goal c K ⟨.ops all (i+1)::k,S.put o.dst (.i .i64 (.v z)) none,[]⟩):Goal c K ⟨.ops all i::k,S,[]⟩:=by
 refine aVh hc o ho hg hd (.i .i64 (.v z)) (λX μ a w H=>?_) h;have e1:=aH H.toP hx (λ_ _=>trivial);have e2:=aH H.toP hy (λ_ _=>trivial);rw[fE hk]at e2;injection e2 with e2
 have e1:=(rI e1).symm
 rw[hM]at how;have hm:tM w r es:=(H.toP.own.at_ (OF.mp r es) (by rw[how];simp)).1;refine⟨.int .i64 z,?_,rfl⟩;subst hz;simp only[execOp,hop,<-e1,<-e2,T.look hn hes hm,Sem.run_bind,Result.andThen_ok,Sem.run_pure]
theorem aJx {w:World}{r:Nat}{o o':Obj}(h:w.heap[r]?=some o):({w with heap:=w.heap.setIfInBounds r o'}:World).heap[r]?=some o':=by
 have:=(Array.getElem?_eq_some_iff.1 h).1
 simp[this]
theorem aA5 {w:World}{r j:Nat}{o':Obj}(h:j≠r):({w with heap:=w.heap.setIfInBounds r o'}:World).heap[j]?=w.heap[j]?:=
 Array.getElem?_setIfInBounds_ne (λe=>h e.symm)
theorem aD5 (hc:Ctx c P ty nt){all:Array Oper}{i:Nat}{k:List KI}(o:Oper)(ho:all[i]?=some o)(hg:guardOf all S.sl o=some true)(hd:cM nt o.dst=true){mt kt et n r:Nat}(T:KeyTy P mt kt et n){x y:Operand}{kav:AV}{ks:List ByteArray}{es:fQ}(pre:List OF){post:List OF}{M:Nat->fQ->OF}(hM:∀r es,M r es=OF.mp r es)(hop:o.op=.mapEntry mt x y)
  (hx:fW S.sl x=some (.o (.map (some r)))) (hy:fW S.sl y=some kav) (hk:aD hJ kav=some (jZ ks)) (hn:ks.length=n) (hes:jF n es) (how:S.ow=pre++M r es::post) {es':fQ} {st:Nat} (h1:es'=gU es ks) (h2:st=nA es ks)
  (h:∀v,Goal c K ⟨.ops all (i+1)::k,S.putO o.dst (.t [.q v,.i .i64 (.n st)]) none (pre++M r es'::post),[]⟩):Goal c K ⟨.ops all i::k,S,[]⟩:=by
 refine vM hc o ho hg (ι:=Value) (K':=λ_=>K) (S':=λv=>S.putO o.dst (.t [.q v,.i .i64 (.n st)]) none (pre++M r es'::post)) (p:=λ_=>True) (λX μ a w H=>?_) (λv _=>h v);have e1:=aH H.toP hx (λ_ _=>trivial);have e2:=aH H.toP hy (λ_ _=>trivial);rw[fE hk]at e2;injection e2 with e2
 have e1:=(rI e1).symm
 simp only[hM]at how |-;have hm:tM w r es:=(H.toP.own.at_ (OF.mp r es) (by rw[how];simp)).1;obtain⟨v,hv⟩:=T.entry hn hes hm;subst h1;subst h2;refine⟨v,.tuple #[v,.int .i64 (nA es ks)],{w with heap:=w.heap.setIfInBounds r (.map (cR 0 (gU es ks)).toArray (gU es ks).length)},X,μ,trivial,?_,?_⟩
 rotate_left
 ·have H1:=wM (f':=OF.mp r (gU es ks)) H how (λj=>Iff.rfl) (λj=>Iff.rfl) (w':={w with heap:=w.heap.setIfInBounds r (.map (cR 0 (gU es ks)).toArray (gU es ks).length)}) (aJx hm) rfl rfl rfl zA (λj hj=>aA5 hj)
  exact yS H1 (by rw[hc.hnt];exact hd) (av:=.t [.q v,.i .i64 (.n (nA es ks))]) (v:=.tuple #[v,.int .i64 (nA es ks)]) rfl
 ·simp only[execOp,hop,<-e1,<-e2,hv,Sem.run_bind,Result.andThen_ok,Sem.run_pure]
theorem yN (hc:Ctx c P ty nt){all:Array Oper}{i:Nat}{k:List KI}(o:Oper)(ho:all[i]?=some o)(hg:guardOf all S.sl o=some true)(hd:o.dst=none){mt r st:Nat}{x y z:Operand}{e:IE}{es:fQ}(pre:List OF){post:List OF}{M:Nat->fQ->OF}(hM:∀r es,M r es=OF.mp r es)(hop:o.op=.entryStore mt x y z)
  (hx:fW S.sl x=some (.o (.map (some r)))) (hy:fW S.sl y=some (.i .i64 (.n st))) (hz:fW S.sl z=some (.i .i64 e)) (hst:st<es.length) (how:S.ow=pre++M r es::post) {es':fQ} (h1:es'=nL es st e.den)
  (h:Goal c K ⟨.ops all (i+1)::k,{S with ow:=pre++M r es'::post},[]⟩):Goal c K ⟨.ops all i::k,S,[]⟩:=by
 refine aVe hc o ho hg hd (λX μ a w H=>?_) h;have e1:=aH H.toP hx (λ_ _=>trivial);have e2:=bY (aH H.toP hy (λ_ _=>trivial));have e3:=bY (aH H.toP hz (λ_ _=>trivial));have e1:=(rI e1).symm;simp only[hM]at how |-;have hm:tM w r es:=(H.toP.own.at_ (OF.mp r es) (by rw[how];simp)).1;subst h1;refine⟨{w with heap:=w.heap.setIfInBounds r (.map (cR 0 (nL es st e.den)).toArray (nL es st e.den).length)},X,μ,?_,wM (f':=OF.mp r (nL es st e.den)) H how (λj=>Iff.rfl) (λj=>Iff.rfl) (w':={w with heap:=w.heap.setIfInBounds r (.map (cR 0 (nL es st e.den)).toArray (nL es st e.den).length)}) (aJx hm) rfl rfl rfl zA (λj hj=>aA5 hj)⟩;simp only[execOp,hop,<-e1,e2,e3,IE.den,aC4 hm hst,Sem.run_bind,Result.andThen_ok,Sem.run_pure]
theorem aPn (hc:Ctx c P ty nt){all:Array Oper}{i:Nat}{k:List KI}(o:Oper)(ho:all[i]?=some o)(hg:guardOf all S.sl o=some true)(hd:cM nt o.dst=true){mt kt et n r:Nat}(T:KeyTy P mt kt et n){x:Operand}{es:fQ}(pre:List OF){post:List OF}{M:Nat->fQ->OF}(hM:∀r es,M r es=OF.mp r es){I:Nat->Nat->Nat->Array Nat->OF}(hI:∀a b c d,I a b c d=OF.it a b c d)(hop:o.op=.range mt x)
  (hx:fW S.sl x=some (.o (.map (some r)))) (how:S.ow=pre++M r es::post)
  (h:∀q,Goal c K ⟨.ops all (i+1)::k,S.putO o.dst (.o (.pointer (some ⟨q,0,none⟩))) none (I q r es.length #[]::S.ow),[]⟩):Goal c K ⟨.ops all i::k,S,[]⟩:=by
 refine vM hc o ho hg (ι:=Nat) (K':=λ_=>K) (S':=λq=>S.putO o.dst (.o (.pointer (some ⟨q,0,none⟩))) none (I q r es.length #[]::S.ow)) (p:=λ_=>True) (λX μ a w H=>?_) (λq _=>h q);have e1:=aH H.toP hx (λ_ _=>trivial);have e1:=(rI e1).symm;have aEq:=how;rw[hM]at aEq;have hm:tM w r es:=(H.toP.own.at_ (OF.mp r es) (by rw[aEq];simp)).1;refine⟨w.heap.size,.pointer (some ⟨w.heap.size,0,none⟩),w.alloc (.mapIter (some r) es.length #[] es.length),X,μ,trivial,by simp only[execOp,hop,<-e1,run_range_map w mt kt et r _ _ T.map hm,Sem.run_bind,Result.andThen_ok,Sem.run_pure],?_⟩;rw[hI];have H1:=uU (f':=OF.it w.heap.size r es.length #[]) (o:=.mapIter (some r) es.length #[] es.length) H (λj=>Iff.rfl) (heap_alloc_new w _);exact yS H1 (by rw[hc.hnt];exact hd) (av:=.o (.pointer (some ⟨w.heap.size,0,none⟩))) rfl
theorem aQi {es:fQ}{seen:Array Nat}(h:(leftOf (cR 0 es).toArray seen).size=0):∀j,j<es.length->j∈seen:=by
 intro j hj;have h1:=lX es 0 j;rw[List.getElem?_eq_getElem hj]at h1;simp only[Option.map_some,Nat.zero_add]at h1;have h2:leftOf (cR 0 es).toArray seen=#[]:=Array.eq_empty_of_size_eq_zero h;unfold leftOf at h2;rw[Array.filter_eq_empty_iff]at h2;have:=h2 _ (by
  have:=List.mem_of_getElem? h1
  simpa using this)
 simpa using this
theorem aQj {es:fQ}{seen:Array Nat}{e:MapEntry}(h:e∈(leftOf (cR 0 es).toArray seen).toList):∃j k v,es[j]?=some (k,v)/\j∉seen/\e=⟨jZ k,.int .i64 v,j⟩:=by
 unfold leftOf at h;simp only[Array.toList_filter,List.mem_filter]at h;obtain⟨j,hj⟩:=List.getElem?_of_mem h.1;simp only[lX,Nat.zero_add]at hj;cases hx:es[j]? with
 | none=>rw[hx]at hj;cases hj
 | some x=>
  rw[hx]at hj;simp only[Option.map_some,Option.some.injEq]at hj;refine⟨j,x.1,x.2,hx,?_,hj.symm⟩;have:=h.2;rw[<-hj]at this;simpa using this
theorem aVd (hc:Ctx c P ty nt){all:Array Oper}{i:Nat}{k:List KI}(o:Oper)(ho:all[i]?=some o)(hg:guardOf all S.sl o=some true)(hd:cM nt o.dst=true){r q:Nat}{x:Operand}{es:fQ}{seen:Array Nat}{M:Nat->fQ->OF}(hM:∀r es,M r es=OF.mp r es){I:Nat->Nat->Nat->Array Nat->OF}(hI:∀a b c d,I a b c d=OF.it a b c d)(hop:o.op=.next x false)
  (hx:fW S.sl x=some (.o (.pointer (some ⟨q,0,none⟩)))) (pre:List OF) {post:List OF} (how:S.ow=pre++I q r es.length seen::post) (pV:M r es∈S.ow)
  (h0:(∀j,j<es.length->j∈seen)->Goal c K ⟨.ops all (i+1)::k,S.put o.dst (.t [.b (.l false)]) none,[]⟩)
  (h1:∀j ks v,es[j]?=some (ks,v)->j∉seen->Goal c K ⟨.ops all (i+1)::k,S.putO o.dst (.t [.b (.l true),.q (jZ ks),.i .i64 (.v v)]) none (pre++I q r es.length (seen.push j)::post),[]⟩):Goal c K ⟨.ops all i::k,S,[]⟩:=by
 refine vM hc o ho hg (ι:=Option (Nat × List ByteArray × Int)) (K':=λ_=>K)
  (S':=λz=>match z with | none=>S.put o.dst (.t [.b (.l false)]) none | some (j,ks,v)=>S.putO o.dst (.t [.b (.l true),.q (jZ ks),.i .i64 (.v v)]) none (pre++I q r es.length (seen.push j)::post))
  (p:=λz=>match z with | none=>∀j,j<es.length->j∈seen | some (j,ks,v)=>es[j]?=some (ks,v)/\j∉seen) (λX μ a w H=>?_) (λz hz=>?_)
 rotate_left
 ·cases z with
  | none=>exact h0 hz
  | some z=>obtain⟨j,ks,v⟩:=z;exact h1 j ks v hz.1 hz.2
 have e1:=aH H.toP hx (λ_ _=>trivial)
 have e1:=(rI e1).symm
 rw[hM]at pV;simp only[hI]at how |-;have hm:tM w r es:=(H.toP.own.at_ (OF.mp r es) pV).1;have hit:w.heap[q]?=some (.mapIter (some r) es.length seen es.length):=(H.toP.own.at_ (OF.it q r es.length seen) (by rw[how];simp)).1;rcases run_next_at (P:=P) w o.type q r es.length es.length seen (cR 0 es).toArray es.length hit hm (λy hy=>by
   obtain⟨j,hj⟩:=List.getElem?_of_mem hy;simp only[List.toList_toArray,lX,Nat.zero_add]at hj;cases hx:es[j]? with
   | none=>rw[hx]at hj;cases hj
   | some z=>
    rw[hx]at hj;simp only[Option.map_some,Option.some.injEq]at hj;rw[<-hj];exact(List.getElem?_eq_some_iff.1 hx).1) (lRf _)with⟨hl,aMl⟩ | ⟨e,he,w1,hw1,aMl⟩
 ·refine⟨none,.tuple #[.bool false],w,X,μ,aQi hl,by simp only[execOp,hop,<-e1,aMl,Sem.run_bind,Result.andThen_ok,Sem.run_pure],?_⟩;exact yS H (by rw[hc.hnt];exact hd) (av:=.t [.b (.l false)]) rfl
 ·obtain⟨j,ks,v,hj,hns,rfl⟩:=aQj he;refine⟨some (j,ks,v),.tuple #[.bool true,jZ ks,.int .i64 v],ChangeMaps.setBlock w1 q (.mapIter (some r) es.length (seen.push j) es.length),X,μ,⟨hj,hns⟩,by simp only[execOp,hop,<-e1,aMl,Sem.run_bind,Result.andThen_ok,Sem.run_pure],?_⟩;have hh:w1.heap=w.heap:=by rcases hw1 with rfl | rfl<;>rfl
  have H1:=wM (f':=OF.it q r es.length (seen.push j)) H how (λj=>Iff.rfl) (λj=>Iff.rfl) (w':=ChangeMaps.setBlock w1 q (.mapIter (some r) es.length (seen.push j) es.length)) (by
    show(w1.heap.setIfInBounds q _)[q]?=_
    have:=(Array.getElem?_eq_some_iff.1 hit).1
    rw[hh];simp[this])
   (by rcases hw1 with rfl | rfl<;>rfl) (by rcases hw1 with rfl | rfl<;>rfl) (by rcases hw1 with rfl | rfl<;>rfl) (by show(w1.heap.setIfInBounds q _).size=_;rw[hh];simp) (λj' hj'=>by
    show(w1.heap.setIfInBounds q _)[j']?=_
    rw[hh];exact Array.getElem?_setIfInBounds_ne (λe=>hj' e.symm))
  exact yS H1 (by rw[hc.hnt];exact hd) (av:=.t [.b (.l true),.q (jZ ks),.i .i64 (.v v)]) rfl
theorem aJr (es:fQ):(((cR 0 es).toArray).toList.map (·.born)).Nodup:=by
 have:∀(l:fQ) (i:Nat),(cR i l).map (·.born)=List.range' i l.length:=by
  intro l;induction l with
  | nil=>intro i;rfl
  | cons x l ih=>intro i;obtain⟨k,v⟩:=x;simp[cR,ih,List.range'_succ]
 rw[List.toList_toArray,this];exact List.nodup_range'
theorem aCw (μ:Mu):∀(l:List ByteArray),aF μ (l.map λs=>AV.s (.v s))=some (l.map Value.string)
 | []=>rfl
 | x::l=>by simp only[List.map_cons,aF,aD,aCw μ l,SE.den]
theorem aPj (hc:Ctx c P ty nt){all:Array Oper}{i:Nat}{k:List KI}(o:Oper)(ho:all[i]?=some o)(hg:guardOf all S.sl o=some true)(hd:cM nt o.dst=true){r q j:Nat}{x:Operand}{es:fQ}{seen:Array Nat}{ks:List ByteArray}{v:Int}{M:Nat->fQ->OF}(hM:∀r es,M r es=OF.mp r es){I:Nat->Nat->Nat->Array Nat->OF}(hI:∀a b c d,I a b c d=OF.it a b c d)(hop:o.op=.entry x)
  (hx:fW S.sl x=some (.o (.pointer (some ⟨q,0,none⟩)))) (hit:I q r es.length (seen.push j)∈S.ow) (pV:M r es∈S.ow) (hj:es[j]?=some (ks,v))
  (h:Goal c K ⟨.ops all (i+1)::k,S.put o.dst (.t [.g (ks.map λs=>.s (.v s)),.i .i64 (.v v)]) none,[]⟩):Goal c K ⟨.ops all i::k,S,[]⟩:=by
 refine aVh hc o ho hg hd _ (λX μ a w H=>?_) h;have e1:=aH H.toP hx (λ_ _=>trivial);have e1:=(rI e1).symm;rw[hM]at pV;rw[hI]at hit;have hm:tM w r es:=(H.toP.own.at_ _ pV).1;have hit:w.heap[q]?=some (.mapIter (some r) es.length (seen.push j) es.length):=(H.toP.own.at_ _ hit).1;have he:(⟨jZ ks,.int .i64 v,j⟩:MapEntry)∈(cR 0 es).toArray.toList:=by
  have:=lX es 0 j
  rw[hj]at this;have:=List.mem_of_getElem? this;simpa using this
 have:=run_entry_at (P:=P) w q r es.length seen (cR 0 es).toArray es.length ⟨jZ ks,.int .i64 v,j⟩ hit hm he (aJr es)
 refine⟨.tuple #[jZ ks,.int .i64 v],?_,?_⟩
 ·simp only[execOp,hop,<-e1,this,Sem.run_bind,Result.andThen_ok,Sem.run_pure]
 ·simp only[aD,aF,aCw,IE.den];rfl
end
end Go.Ai
namespace Go.Ai
open Go Go.RowKit
section
variable {c:Cx}{P:Program}{ty:Nat->Option TyI}{nt:Nat}{K:List KF}{S:St}
theorem jH {ks:List KI}(j:Nat){bt:Nat}{cells:List AV}(cells':List AV)(hp:jT ks=true)(hj:S.hp[j]?=some (.c bt cells))(he:∀μ,aF μ cells=aF μ cells')
  (h:Goal c K ⟨ks,{S with hp:=S.hp.set j (.c bt cells')},[]⟩):Goal c K ⟨ks,S,[]⟩:=by
 refine oR hp (λX μ a w H=>⟨X,μ,?_⟩) h;have P:=H.toP;refine⟨⟨P.dfr,P.size,P.slots,λk blk m hk hm=>?_,by simpa using P.all,P.inj,P.loc,P.xlt,P.xnew,P.xold,P.bel,P.kf,P.own⟩,by simpa using H.dom⟩;simp only[List.getElem?_set]at hk;split at hk
 ·rename_i e;subst e;split at hk
  ·injection hk with hk;subst hk
   have:=P.heap _ _ m hj hm
   cases m with
   | own b=>obtain⟨vs,h1,h2⟩:=this;exact⟨vs,by rw[<-he];exact h1,h2⟩
   | ext x=>exact this.elim
   | val v=>exact this.elim
  ·cases hk
 ·exact P.heap k blk m hk hm
theorem jU {all:Array Oper}{i:Nat}{k:List KI}(h:Goal c K ⟨k,S,[]⟩)(hi:Nat.ble all.size i=true:=by exact rfl)(hk:jT k=true:=by exact rfl):Goal c K ⟨.ops all i::k,S,[]⟩:=
 .mk0 (yT (lbl hi) (oO hk h))
theorem aVc {ks:List KI}{S':St}(hp:jT ks=true)(hhp:S'.hp=S.hp)(how:S'.ow=S.ow)(hsl:∀t av,look S'.sl t=some av->look S.sl t=some av)(h:Goal c K ⟨ks,S',[]⟩):Goal c K ⟨ks,S,[]⟩:=
 .mk0 (yU (S':=S') (by
  match ks,hp with
  | [],_=>rfl
  | .code _::_,_=>rfl
  | .ops _ _::_,_=>rfl
  | .blk _::_,_=>rfl
  | .hole _::_,_=>rfl
  | .ord _ _::_,_=>rfl) ⟨hhp,how,λt b hb=>⟨b,hsl t b hb,λ_=>rfl⟩⟩ h.so)
def Ls (b4 b5 b6 b7 b8:Bool):Array Bool:=#[true,true,true,true,b4,b5,b6,b7,b8]
theorem aGf (hc:Ctx c P ty nt){mt kt et n:Nat}(T:KeyTy P mt kt et n){all:Array Oper}{n0:Nat}{K0:List KF}{k:List KI}{M:Nat->fQ->OF}(hM:∀r es,M r es=OF.mp r es){r:Nat}{ks:List ByteArray}{es:fQ}(pre:List OF){post:List OF}{a b d4 d5 d6 d7:Nat}{kav:AV}{bop:BinOp}(dl:Int)
  (hsz:all.size=9) {o4 o5 o6 o7 o8:Oper} (g4:all[4]?=some o4) (g5:all[5]?=some o5) (g6:all[6]?=some o6) (g7:all[7]?=some o7) (g8:all[8]?=some o8)
  (e4:o4.op=.lookup mt (.tmp a) (.tmp b) false) (f4:o4.dst=some d4) (q4:o4.guard=none)
  (e5:o5.op=.binOp bop 3 (.tmp d4) (.const (.int .i64 1)) 3) (f5:o5.dst=some d5) (q5:o5.guard=none)
  (e6:o6.op=.mapEntry mt (.tmp a) (.tmp b)) (f6:o6.dst=some d6) (q6:o6.guard=none)
  (e7:o7.op=.extract (.tmp d6) 1) (f7:o7.dst=some d7) (q7:o7.guard=none)
  (e8:o8.op=.entryStore mt (.tmp a) (.tmp d7) (.tmp d5)) (f8:o8.dst=none) (q8:o8.guard=none)
  (hb:(bop=.add/\dl=1)\/(bop=.sub/\dl=-1)) (hz:-4611686018427387904<=gL es ks/\gL es ks<=4611686018427387904)
  (hdd:(decide (d4<nt)&&decide (d5<nt)&&decide (d6<nt)&&decide (d7<nt))=true) (aJv:[a,b,d4,d5,d6,d7].Nodup)
  (sa:look S.sl a=some (.o (.map (some r)))) (sb:look S.sl b=some kav) (hk:aD hJ kav=some (jZ ks)) (hn:ks.length=n) (hes:jF n es) (how:S.ow=pre++M r es::post)
  (w4:look S.sl d4=none) (w5:look S.sl d5=none) (w6:look S.sl d6=none) (w7:look S.sl d7=none)
  (r0:Region.ready .any all (Ls false false false false false)=[4,6]) (r4:Region.ready .any all (Ls true false false false false)=[5,6]) (r6:Region.ready .any all (Ls false false true false false)=[4,7])
  (r45:Region.ready .any all (Ls true true false false false)=[6]) (r46:Region.ready .any all (Ls true false true false false)=[5,7]) (r67:Region.ready .any all (Ls false false true true false)=[4])
  (r456:Region.ready .any all (Ls true true true false false)=[7]) (r467:Region.ready .any all (Ls true false true true false)=[5]) (r4567:Region.ready .any all (Ls true true true true false)=[8]) (r8:Region.ready .any all (Ls true true true true true)=[])
  (hd:uJ all 4=true) (hkk:jT k=true) (h:Goal c K ⟨k,{S with ow:=pre++M r (gD ks dl es)::post},[]⟩):Goal c K ⟨.dops all 4 n0 K0::k,S,[]⟩:=by
 simp only[Bool.and_eq_true,decide_eq_true_eq]at hdd;obtain⟨⟨⟨l4,l5⟩,l6⟩,l7⟩:=hdd;simp only[List.nodup_cons,List.mem_cons,List.not_mem_nil,not_or,or_false,not_false_eq_true,List.nodup_nil,and_true]at aJv;obtain⟨⟨n1,n2,n3,n4,n5⟩,⟨n6,n7,n8,n9⟩,⟨n10,n11,n12⟩,⟨n13,n14⟩,n15⟩:=aJv;have hd4:cM nt o4.dst=true:=by rw[f4];simpa[cM]using l4
 have hd5:cM nt o5.dst=true:=by rw[f5];simpa[cM]using l5
 have hd6:cM nt o6.dst=true:=by rw[f6];simpa[cM]using l6
 have hd7:cM nt o7.dst=true:=by rw[f7];simpa[cM]using l7
 have gd:∀(o:Oper) (sl:List (Nat × AV)),o.guard=none->guardOf #[o] sl o=some true:=λo sl h=>by simp[guardOf,h]
 have aMj:=hes.touch (k:=ks) hn
 obtain⟨z,hz'⟩:=nm (gL es ks);rw[<-hz']at hz;obtain⟨st,hst⟩:=nm (nA es ks);obtain⟨es1,aDf⟩:=nm (gU es ks);rw[<-aDf]at aMj;have hlt:st<es1.length:=by rw[hst,aDf];exact aGm es ks
 have hz1:z=gL es1 ks:=by rw[aDf,aDc];exact hz'
 let e5e:IE:=if bop=.add then .add (.v z) (.l 1)else .sub (.v z) (.l 1)
 have he5:e5e.den=z+dl:=by
  rcases hb with⟨h1,h2⟩ | ⟨h1,h2⟩
  ·simp only[e5e,h1,h2,if_true,IE.den]
  ·simp only[e5e,h1,h2,if_neg (show ¬BinOp.sub=BinOp.add by intro h;cases h),IE.den];omega
 have jL:nL es1 st e5e.den=gD ks dl es:=by rw[he5,aDf,hst,hz'];exact aK0 es ks dl
 have t4:∀(S1:St) (L:Array Bool) (es0:fQ),jF n es0->z=gL es0 ks->look S1.sl a=some (.o (.map (some r)))->look S1.sl b=some kav->S1.ow=pre++M r es0::post->
   Goal c K ⟨.ord all L::k,{S1 with sl:=(d4,.i .i64 (.v z))::S1.sl},[]⟩->Goal c K ⟨.ops #[o4] 0::.ord all L::k,S1,[]⟩:=by
  intro S1 L es0 u1 u2 u3 u4 u5 g;refine aPk hc o4 rfl (gd _ _ q4) hd4 T pre hM e4 u3 u4 hk hn u1 u5 z u2 ?_;refine jU ?_;simp only[St.put,St.putO,f4];exact g
 have t5:∀(S1:St) (L:Array Bool),look S1.sl d4=some (.i .i64 (.v z))->Goal c K ⟨.ord all L::k,{S1 with sl:=(d5,.i .i64 e5e)::S1.sl},[]⟩->Goal c K ⟨.ops #[o5] 0::.ord all L::k,S1,[]⟩:=by
  intro S1 L u1 g;have hf:fop c.ty S1.hp.length S1 o5.op=some ⟨.i .i64 e5e,none,[.inR .i64 e5e]⟩:=by
   rw[e5];rcases hb with⟨h1,h2⟩ | ⟨h1,h2⟩
   ·subst h1;simp only[fop,fW,u1,yE,aLq,IE.mkAdd,sH,if_true,e5e]
   ·subst h1;simp only[fop,fW,u1,yE,aLq,IE.mkSub,sH,if_true,e5e,if_neg (show ¬BinOp.sub=BinOp.add by intro h;cases h)]
  have hs:Goal c K ⟨.ops #[o5] 1::.ord all L::k,S1.put o5.dst (.i .i64 e5e) none,[]⟩:=by
   refine jU ?_;simp only[St.put,St.putO,f5];exact g
  refine .mk0 (show bH c K _ _ from mC (Kn:=[]) (o:=o5) rfl (λX μ a w H=>iZ q5 _) (by rw[hc.hnt];exact hd5) (lA hf ⟨?_,trivial⟩ (λ_ _=>trivial)) hs.so);show lo .i64<=e5e.den/\e5e.den<=hi .i64
  rw[he5];simp only[lo,hi];rcases hb with⟨_,h2⟩ | ⟨_,h2⟩<;>omega
 have t6:∀(S1:St) (L:Array Bool),look S1.sl a=some (.o (.map (some r)))->look S1.sl b=some kav->S1.ow=pre++M r es::post->
   (∀v,Goal c K ⟨.ord all L::k,{S1 with sl:=(d6,.t [.q v,.i .i64 (.n st)])::S1.sl,ow:=pre++M r es1::post},[]⟩)->Goal c K ⟨.ops #[o6] 0::.ord all L::k,S1,[]⟩:=by
  intro S1 L u3 u4 u5 g;refine aD5 hc o6 rfl (gd _ _ q6) hd6 T pre hM e6 u3 u4 hk hn hes u5 aDf hst (λv=>?_);refine jU ?_;simp only[St.putO,f6];exact g v
 have t7:∀(S1:St) (L:Array Bool) (v:Value),look S1.sl d6=some (.t [.q v,.i .i64 (.n st)])->Goal c K ⟨.ord all L::k,{S1 with sl:=(d7,.i .i64 (.n st))::S1.sl},[]⟩->Goal c K ⟨.ops #[o7] 0::.ord all L::k,S1,[]⟩:=by
  intro S1 L v u1 g;have hf:fop c.ty S1.hp.length S1 o7.op=some ⟨.i .i64 (.n st),none,[]⟩:=by
   rw[e7];simp only[fop,fW,u1,eA,List.getElem?_cons_succ,List.getElem?_cons_zero]
  have hs:Goal c K ⟨.ops #[o7] 1::.ord all L::k,S1.put o7.dst (.i .i64 (.n st)) none,[]⟩:=by
   refine jU ?_;simp only[St.put,St.putO,f7];exact g
  exact .mk0 (show bH c K _ _ from mC (Kn:=[]) (o:=o7) rfl (λX μ a w H=>iZ q7 _) (by rw[hc.hnt];exact hd7) (lA hf trivial (λ_ _=>trivial)) hs.so)
 have t8:∀(S1:St),look S1.sl a=some (.o (.map (some r)))->look S1.sl d7=some (.i .i64 (.n st))->look S1.sl d5=some (.i .i64 e5e)->S1.ow=pre++M r es1::post->S1.hp=S.hp->(∀t av,look S.sl t=some av->look S1.sl t=some av)->
   Goal c K ⟨.ops #[o8] 0::.ord all (Ls true true true true true)::k,S1,[]⟩:=by
  intro S1 u1 u2 u3 u4 u5 u6;refine yN hc o8 rfl (gd _ _ q8) f8 pre hM e8 u1 u2 u3 hlt u4 jL.symm ?_;refine jU ?_;refine wK r8 hkk ?_;exact aVc (S':={S with ow:=pre++M r (gD ks dl es)::post}) hkk u5.symm rfl u6 h
 have ne:∀{d t:Nat},¬t=d->(d==t)=false:=λh=>by simp;exact λe=>h e.symm
 have keep:∀(l:List (Nat × AV)),(∀x,x∈l->x.1=d4\/x.1=d5\/x.1=d6\/x.1=d7)->∀t av,look S.sl t=some av->look (l++S.sl) t=some av:=by
  intro l;induction l with
  | nil=>intro _ t av h;exact h
  | cons x l ih=>
   intro hl t av ht;have hx:=hl x zA;rw[List.cons_append];obtain⟨j,v⟩:=x;rw[bE]
   ·exact ih (λy hy=>hl y (List.mem_cons_of_mem _ hy)) t av ht
   ·intro e;simp only at e hx;subst e;rcases hx with e | e | e | e<;>subst e
    ·rw[w4]at ht;cases ht
    ·rw[w5]at ht;cases ht
    ·rw[w6]at ht;cases ht
    ·rw[w7]at ht;cases ht
 have L0:firstM all.size 4=Ls false false false false false:=by rw[hsz];rfl
 refine aB5 hc hd zW ?_;rw[L0];have A:=n1;have m1:∀{x y:Nat} {av:AV} {l:List (Nat × AV)},¬y=x->look ((x,av)::l) y=look l y:=λh=>bE (λe=>h e.symm) _ _;have m2:∀{x y:Nat} {av:AV} {l:List (Nat × AV)},¬x=y->look ((x,av)::l) y=look l y:=λh=>bE h _ _;have m3:∀{x:Nat} {av:AV} {l:List (Nat × AV)},look ((x,av)::l) x=some av:=bK _ _ _;refine bU [4,6] r0 rfl (λi hi=>?_);simp only[List.mem_cons,List.not_mem_nil,or_false]at hi;rcases hi with rfl | rfl
 ·
  refine⟨o4,g4,q4,t4 S _ es hes hz' sa sb how ?_⟩;refine bU [5,6] r4 rfl (λi hi=>?_);simp only[List.mem_cons,List.not_mem_nil,or_false]at hi;rcases hi with rfl | rfl
  ·refine⟨o5,g5,q5,t5 _ _ m3 ?_⟩;refine bU [6] r45 rfl (λi hi=>?_);simp only[List.mem_cons,List.not_mem_nil,or_false]at hi;subst hi;refine⟨o6,g6,q6,t6 _ _ ((m1 n3).trans ((m1 n2).trans sa)) ((m1 n7).trans ((m1 n6).trans sb)) how (λv=>?_)⟩;refine bU [7] r456 rfl (λi hi=>?_);simp only[List.mem_cons,List.not_mem_nil,or_false]at hi;subst hi;refine⟨o7,g7,q7,t7 _ _ v m3 ?_⟩;refine bU [8] r4567 rfl (λi hi=>?_);simp only[List.mem_cons,List.not_mem_nil,or_false]at hi;subst hi;exact⟨o8,g8,q8,t8 _ ((m1 n5).trans ((m1 n4).trans ((m1 n3).trans ((m1 n2).trans sa)))) m3 ((m1 n14).trans ((m1 n13).trans m3)) rfl rfl (keep [(d7,_),(d6,_),(d5,_),(d4,_)] zA)⟩
  ·refine⟨o6,g6,q6,t6 _ _ ((m1 n2).trans sa) ((m1 n6).trans sb) how (λv=>?_)⟩;refine bU [5,7] r46 rfl (λi hi=>?_);simp only[List.mem_cons,List.not_mem_nil,or_false]at hi;rcases hi with rfl | rfl
   ·refine⟨o5,g5,q5,t5 _ _ ((m1 n11).trans m3) ?_⟩;refine bU [7] r456 rfl (λi hi=>?_);simp only[List.mem_cons,List.not_mem_nil,or_false]at hi;subst hi;refine⟨o7,g7,q7,t7 _ _ v ((m2 n13).trans m3) ?_⟩;refine bU [8] r4567 rfl (λi hi=>?_);simp only[List.mem_cons,List.not_mem_nil,or_false]at hi;subst hi;exact⟨o8,g8,q8,t8 _ ((m1 n5).trans ((m1 n3).trans ((m1 n4).trans ((m1 n2).trans sa)))) m3 ((m1 n14).trans m3) rfl rfl (keep [(d7,_),(d5,_),(d6,_),(d4,_)] zA)⟩
   ·refine⟨o7,g7,q7,t7 _ _ v m3 ?_⟩;refine bU [5] r467 rfl (λi hi=>?_);simp only[List.mem_cons,List.not_mem_nil,or_false]at hi;subst hi;refine⟨o5,g5,q5,t5 _ _ ((m1 n12).trans ((m1 n11).trans m3)) ?_⟩;refine bU [8] r4567 rfl (λi hi=>?_);simp only[List.mem_cons,List.not_mem_nil,or_false]at hi;subst hi;exact⟨o8,g8,q8,t8 _ ((m1 n3).trans ((m1 n5).trans ((m1 n4).trans ((m1 n2).trans sa)))) ((m2 n14).trans m3) m3 rfl rfl (keep [(d5,_),(d7,_),(d6,_),(d4,_)] zA)⟩
 ·
  refine⟨o6,g6,q6,t6 S _ sa sb how (λv=>?_)⟩;refine bU [4,7] r6 rfl (λi hi=>?_);simp only[List.mem_cons,List.not_mem_nil,or_false]at hi;rcases hi with rfl | rfl
  ·refine⟨o4,g4,q4,t4 _ _ es1 aMj hz1 ((m1 n4).trans sa) ((m1 n8).trans sb) rfl ?_⟩;refine bU [5,7] r46 rfl (λi hi=>?_);simp only[List.mem_cons,List.not_mem_nil,or_false]at hi;rcases hi with rfl | rfl
   ·refine⟨o5,g5,q5,t5 _ _ m3 ?_⟩;refine bU [7] r456 rfl (λi hi=>?_);simp only[List.mem_cons,List.not_mem_nil,or_false]at hi;subst hi;refine⟨o7,g7,q7,t7 _ _ v ((m2 n13).trans ((m2 n11).trans m3)) ?_⟩;refine bU [8] r4567 rfl (λi hi=>?_);simp only[List.mem_cons,List.not_mem_nil,or_false]at hi;subst hi;exact⟨o8,g8,q8,t8 _ ((m1 n5).trans ((m1 n3).trans ((m1 n2).trans ((m1 n4).trans sa)))) m3 ((m1 n14).trans m3) rfl rfl (keep [(d7,_),(d5,_),(d4,_),(d6,_)] zA)⟩
   ·refine⟨o7,g7,q7,t7 _ _ v ((m2 n11).trans m3) ?_⟩;refine bU [5] r467 rfl (λi hi=>?_);simp only[List.mem_cons,List.not_mem_nil,or_false]at hi;subst hi;refine⟨o5,g5,q5,t5 _ _ ((m1 n12).trans m3) ?_⟩;refine bU [8] r4567 rfl (λi hi=>?_);simp only[List.mem_cons,List.not_mem_nil,or_false]at hi;subst hi;exact⟨o8,g8,q8,t8 _ ((m1 n3).trans ((m1 n5).trans ((m1 n2).trans ((m1 n4).trans sa)))) ((m2 n14).trans m3) m3 rfl rfl (keep [(d5,_),(d7,_),(d4,_),(d6,_)] zA)⟩
  ·refine⟨o7,g7,q7,t7 _ _ v m3 ?_⟩;refine bU [4] r67 rfl (λi hi=>?_);simp only[List.mem_cons,List.not_mem_nil,or_false]at hi;subst hi;refine⟨o4,g4,q4,t4 _ _ es1 aMj hz1 ((m1 n5).trans ((m1 n4).trans sa)) ((m1 n9).trans ((m1 n8).trans sb)) rfl ?_⟩;refine bU [5] r467 rfl (λi hi=>?_);simp only[List.mem_cons,List.not_mem_nil,or_false]at hi;subst hi;refine⟨o5,g5,q5,t5 _ _ m3 ?_⟩;refine bU [8] r4567 rfl (λi hi=>?_);simp only[List.mem_cons,List.not_mem_nil,or_false]at hi;subst hi;exact⟨o8,g8,q8,t8 _ ((m1 n3).trans ((m1 n2).trans ((m1 n5).trans ((m1 n4).trans sa)))) ((m2 n14).trans ((m2 n12).trans m3)) m3 rfl rfl (keep [(d5,_),(d4,_),(d7,_),(d6,_)] zA)⟩
end
end Go.Ai
