/- Part 29: lemmas for the particulars laws -/
import Derived.WalkKit
import Derived.Deep.LoopGhost
import Derived.Lib.Walk
import Derived.Lib.SliceRun
import Derived.Test.YtafimpgfbgigeaaGreatDoorPh21
import Derived.Test.YtafimpgfbgigeaaGreatDoorPh27
set_option linter.all false
namespace Go.Ai
open Go Go.Num V3
def iE {α:Type}(f:α->Rat):List α->Rat
 | []=>0
 | x::l=>f x+iE f l
theorem aLd {α:Type}(f:α->Rat):∀l m:List α,iE f (l++m)=iE f l+iE f m
 | [],m=>by simp only[List.nil_append,iE];grind
 | x::l,m=>by simp only[List.cons_append,iE,aLd f l m];grind
theorem aLc {α:Type}(f g:α->Rat):∀l:List α,iE (λx=>f x+g x) l=iE f l+iE g l
 | []=>by simp only[iE];grind
 | x::l=>by simp only[iE,aLc f g l];grind
theorem aGn {α β:Type}(f:β->Rat)(g:α->List β):∀l:List α,iE f (l.flatMap g)=iE (λx=>iE f (g x)) l
 | []=>rfl
 | x::l=>by rw[List.flatMap_cons,aLd,aGn f g l];rfl
theorem wO {α:Type}{f g:α->Rat}:∀{l:List α},(∀x,x∈l->f x=g x)->iE f l=iE g l
 | [],_=>rfl
 | x::l,h=>by simp only[iE];rw[h x (.head _),wO λy hy=>h y (.tail _ hy)]
theorem aAp {α:Type}{f:α->Rat}:∀{l:List α},(∀x,x∈l->f x=0)->iE f l=0
 | [],_=>rfl
 | x::l,h=>by simp only[iE];rw[h x (.head _),aAp λy hy=>h y (.tail _ hy)];grind
def tS (ψ:V3->V3->Rat)(t:Tri):Rat:=ψ t.a t.b+ψ t.b t.c+ψ t.c t.a
def bDj (ψ:V3->V3->Rat):Prop:=∀x y,ψ y x=-ψ x y
def wtE (w:List ByteArray->Rat)(es:fQ):Rat:=iE (λx=>(x.2:Rat)*w x.1) es
theorem aIj (w:List ByteArray->Rat)(k:List ByteArray)(d:Int):∀es:fQ,wtE w (gD k d es)=wtE w es+d*w k
 | []=>by simp only[gD,wtE,iE];grind
 | (q,v)::l=>by
  unfold gD;split
  ·rename_i e;subst e;simp only[wtE,iE,Rat.intCast_add];grind
  ·have:=aIj w k d l;simp only[wtE,iE]at *;grind
theorem bGc (w:List ByteArray->Rat)(es:fQ)(t:Tri):wtE w (aJk es t)=wtE w es+tS (λa b=>w (sL a b) - w (sL b a)) t:=by
 have e1:((1:Int):Rat)=1:=rfl
 have e2:((-1:Int):Rat)=-1:=rfl
 simp only[aJk,aS0,aIj,tS,e1,e2];grind
theorem aZs (w:List ByteArray->Rat):∀(l:List Tri) (es:fQ),wtE w (l.foldl aJk es)=wtE w es+iE (tS λa b=>w (sL a b) - w (sL b a)) l
 | [],es=>by simp only[List.foldl,iE];grind
 | t::l,es=>by rw[List.foldl_cons,aZs w l,bGc];simp only[iE];grind
theorem bGb (w:List ByteArray->Rat)(l:List Tri):wtE w (aBe l)=iE (tS λa b=>w (sL a b) - w (sL b a)) l:=by
 have:=aZs w l []
 unfold aBe;rw[this];simp only[wtE,iE];grind
def aHj (ψ:V3->V3->Rat):List ByteArray->Rat
 | [a,b,c,d,e,f]=>ψ ⟨(sO a.data.toList).getD 0,(sO b.data.toList).getD 0,(sO c.data.toList).getD 0⟩ ⟨(sO d.data.toList).getD 0,(sO e.data.toList).getD 0,(sO f.data.toList).getD 0⟩
 | _=>0
theorem aOo (ψ:V3->V3->Rat)(a b:V3):aHj ψ (sL a b)=ψ a b:=by
 simp only[sL,aHj,dC,Option.getD_some]
theorem aUm {l:List Tri}(h:mX l=true){ψ:V3->V3->Rat}(ha:bDj ψ):iE (tS ψ) l=0:=by
 have h1:=bGb (aHj ψ) l
 have h2:wtE (aHj ψ) (aBe l)=0:=aAp λx hx=>by
  have h3:=List.all_eq_true.1 h x hx
  obtain⟨k,n⟩:=x;by_cases hn:n=0
  ·subst hn;show((0:Int):Rat)*_=0;grind
  ·have h4:k.take 3=k.drop 3:=by
    simp only[aCe,hn,ne_eq,not_false_eq_true,decide_true,Bool.true_and,Bool.not_eq_true',decide_eq_false_iff_not,Decidable.not_not]at h3;exact h3
   have:aHj ψ k=0:=by
    unfold aHj;split
    ·simp at h4;obtain⟨rfl,rfl,rfl⟩:=h4;have:=ha ⟨(sO ‹ByteArray›.data.toList).getD 0,0,0⟩ ⟨0,0,0⟩;have h5:∀v,ψ v v=0:=λv=>by have:=ha v v;grind
     exact h5 _
    ·rfl
   show _*aHj ψ k=0
   rw[this];grind
 rw[h2]at h1;have h6:(λa b=>aHj ψ (sL a b) - aHj ψ (sL b a))=λa b=>ψ a b+ψ a b:=by
  funext a b;rw[aOo,aOo,ha a b];grind
 rw[h6,show(tS λa b=>ψ a b+ψ a b)=λt=>tS ψ t+tS ψ t from by funext t;simp only[tS];grind,aLc]at h1;grind
def KU (es:fQ):Prop:=es.Pairwise λx y=>x.1≠y.1
theorem aIm {k:List ByteArray}{d:Int}:∀{es:fQ} {x:List ByteArray × Int},x∈gD k d es->x.1=k\/∃y,y∈es/\y.1=x.1
 | [],x,h=>by simp[gD]at h;subst h;exact .inl rfl
 | (q,v)::l,x,h=>by
  unfold gD at h;split at h
  ·rcases List.mem_cons.1 h with e | e
   ·subst e;exact .inr ⟨_,.head _,rfl⟩
   ·exact .inr ⟨x,.tail _ e,rfl⟩
  ·rcases List.mem_cons.1 h with e | e
   ·subst e;exact .inr ⟨_,.head _,rfl⟩
   ·rcases aIm e with e | ⟨y,e1,e2⟩
    ·exact .inl e
    ·exact .inr ⟨y,.tail _ e1,e2⟩
theorem KU.add {k:List ByteArray}{d:Int}:∀{es:fQ},KU es->KU (gD k d es)
 | [],h=>by simp[gD,KU]
 | (q,v)::l,h=>by
  obtain⟨h1,h2⟩:=List.pairwise_cons.1 h;unfold gD;split
  ·exact List.pairwise_cons.2 ⟨h1,h2⟩
  ·rename_i hk;refine List.pairwise_cons.2 ⟨λx hx=>?_,KU.add h2⟩;rcases aIm hx with e | ⟨y,e1,e2⟩
   ·rw[e];exact λe=>hk e.symm
   ·rw[<-e2];exact h1 y e1
theorem KU.l:∀(l:List Tri) {es:fQ},KU es->KU (l.foldl aJk es)
 | [],_,h=>h
 | t::l,es,h=>KU.l l (es:=aJk es t) h.add.add.add.add.add.add
def one (k:List ByteArray)(k':List ByteArray):Rat:=if k'=k then 1 else 0
theorem KU.at:∀{es:fQ},KU es->∀{x},x∈es->wtE (one x.1) es=x.2
 | y::l,h,x,hx=>by
  obtain⟨h1,h2⟩:=List.pairwise_cons.1 h;have h3:wtE (one x.1) (y::l)=y.2*one x.1 y.1+wtE (one x.1) l:=rfl;rw[h3];rcases List.mem_cons.1 hx with e | e
  ·subst e;have:wtE (one x.1) l=0:=aAp λz hz=>by
    show _*one x.1 z.1=0
    unfold one;rw[if_neg (λe=>h1 z hz e.symm)];grind
   rw[this];unfold one;rw[if_pos rfl];grind
  ·rw[KU.at h2 e];unfold one;rw[if_neg (h1 x e)];grind
def Cop (a b c d:V3):Prop:=(a.sub d).dot ((b.sub d).cross (c.sub d))=0
structure Cone (T:V3->V3->V3->Rat):Prop where
 rot:∀a b c,T b c a=T a b c
 alt:∀a b c,T a c b=-T a b c
 add:∀a b c d,Cop a b c d->T a b c=T d a b+T d b c+T d c a
def bD0 (a b c:V3):Rat:=a.dot (b.cross c)
theorem Cone.same {T:V3->V3->V3->Rat}(hT:Cone T)(o x:V3):T o x x=0:=by have:=hT.alt o x x;grind
theorem aXp {p:Pl}{x y:V3}(h:p.over x≠p.over y):p.height x - p.height y≠0:=by
 refine aS5 ?_;unfold Pl.over at h;by_cases h1:0<p.height x<;>by_cases h2:0<p.height y<;>simp[h1,h2]at h |-
theorem tB {p:Pl}{x y:V3}(h:p.over x≠p.over y):p.cut y x=p.cut x y:=by
 have h1:=aXp h
 have h2:p.height y/(p.height y - p.height x)=1 - p.height x/(p.height x - p.height y):=by
  generalize p.height x=u,p.height y=v at *;have h3:v - u≠0:=by grind
  grind
 unfold Pl.cut;rw[h2];generalize p.height x/(p.height x - p.height y)=s;simp only[V3.add,V3.sub,V3.scale,V3.mk.injEq];refine⟨?_,?_,?_⟩<;>grind
def Spn (a e f x:V3):Prop:=∃u v,x=(a.add (e.scale u)).add (f.scale v)
theorem Spn.cut {a e f x y:V3}(p:Pl)(hx:Spn a e f x)(hy:Spn a e f y):Spn a e f (p.cut x y):=by
 obtain⟨u,v,rfl⟩:=hx;obtain⟨u',v',rfl⟩:=hy;unfold Pl.cut;generalize Pl.height _ _/_=s;refine⟨u+(u' - u)*s,v+(v' - v)*s,?_⟩;simp only[V3.add,V3.sub,V3.scale,V3.mk.injEq];refine⟨?_,?_,?_⟩<;>grind
theorem Spn.a (t:Tri):Spn t.a (t.b.sub t.a) (t.c.sub t.a) t.a:=⟨0,0,by cases t;rename_i a b c;cases a;simp only[V3.add,V3.sub,V3.scale,V3.mk.injEq];refine⟨?_,?_,?_⟩<;>grind⟩
theorem Spn.b (t:Tri):Spn t.a (t.b.sub t.a) (t.c.sub t.a) t.b:=⟨1,0,by cases t;rename_i a b c;cases b;simp only[V3.add,V3.sub,V3.scale,V3.mk.injEq];refine⟨?_,?_,?_⟩<;>grind⟩
theorem Spn.c (t:Tri):Spn t.a (t.b.sub t.a) (t.c.sub t.a) t.c:=⟨0,1,by cases t;rename_i a b c;cases c;simp only[V3.add,V3.sub,V3.scale,V3.mk.injEq];refine⟨?_,?_,?_⟩<;>grind⟩
def aSs (F:V3->V3->Rat)(p:Pl)(t:Tri):Rat:=
 match p.over t.a,p.over t.b,p.over t.c with
 | true,false,false=>F (p.cut t.a t.b) (p.cut t.c t.a)
 | false,true,false=>F (p.cut t.b t.c) (p.cut t.a t.b)
 | false,false,true=>F (p.cut t.c t.a) (p.cut t.b t.c)
 | false,true,true=>F (p.cut t.c t.a) (p.cut t.a t.b)
 | true,false,true=>F (p.cut t.a t.b) (p.cut t.b t.c)
 | true,true,false=>F (p.cut t.b t.c) (p.cut t.c t.a)
 | _,_,_=>0
theorem aYh {F:V3->V3->Rat}(hF:∀x,F x x=0)(t:Tri)(p:Pl):iE (λg=>F g.a g.b) (t.seg p)=aSs F p t:=by
 have c1:=λh=>tB (p:=p) (x:=t.a) (y:=t.b) h
 have c2:=λh=>tB (p:=p) (x:=t.b) (y:=t.c) h
 have c3:=λh=>tB (p:=p) (x:=t.c) (y:=t.a) h
 have sg:∀(x y:V3),iE (λg:Seg=>F g.a g.b) (if x=y then []else [⟨x,y⟩])=F x y:=λx y=>by
  split
  ·rename_i e;subst e;exact(hF x).symm
  ·simp only[iE];grind
 cases h1:p.over t.a<;>cases h2:p.over t.b<;>cases h3:p.over t.c<;>simp only[h1,h2,h3,ne_eq,reduceCtorEq,not_true_eq_false,not_false_eq_true,forall_const,Tri.seg,Tri.cx,Tri.cy,Tri.turn,Tri.cutP,aHi,Tri.rot,aSs]at *
 ·rfl
 ·simp only[Int.toNat,Tri.rot,c2,Int.reduceLT,ite_false,ite_true,reduceIte];exact sg _ _
 ·simp only[Int.toNat,Tri.rot,c1,Int.reduceLT,ite_false,ite_true,reduceIte];exact sg _ _
 ·simp only[Int.toNat,Tri.rot,<-c3,Int.reduceLT,ite_false,ite_true,reduceIte];simp only[eq_comm (a:=p.cut t.a t.b),reduceIte,Bool.false_eq_true];exact sg _ _
 ·simp only[Int.toNat,Tri.rot,c3,Int.reduceLT,ite_false,ite_true,reduceIte];exact sg _ _
 ·simp only[Int.toNat,Tri.rot,c1,Int.reduceLT,ite_false,ite_true,reduceIte];simp only[eq_comm (a:=p.cut t.b t.c),reduceIte,Bool.false_eq_true];exact sg _ _
 ·simp only[Int.toNat,Tri.rot,c2,Int.reduceLT,ite_false,ite_true,reduceIte];simp only[eq_comm (a:=p.cut t.c t.a),reduceIte,Bool.false_eq_true];exact sg _ _
 ·rfl
def chi (φ:V3->Rat)(p:Pl)(x y:V3):Rat:=
 if p.over x then(if p.over y then 0 else φ (p.cut x y))else(if p.over y then -φ (p.cut x y)else 0)
theorem aSw (φ:V3->Rat)(p:Pl):bDj (chi φ p):=λx y=>by
 unfold chi;cases hx:p.over x<;>cases hy:p.over y
 ·simp
 ·simp;rw[tB (x:=x) (y:=y) (by rw[hx,hy];decide)]
 ·simp;rw[tB (x:=x) (y:=y) (by rw[hx,hy];decide)]
 ·simp
theorem aWq (φ:V3->Rat)(p:Pl)(t:Tri):aSs (λx y=>φ x - φ y) p t=tS (chi φ p) t:=by
 cases h1:p.over t.a<;>cases h2:p.over t.b<;>cases h3:p.over t.c<;>simp only[h1,h2,h3,aSs,tS,chi,ite_true,ite_false,Bool.false_eq_true]<;>grind
theorem bC0 {F:V3->V3->Rat}(hF:∀x,F x x=0)(p:Pl)(l:List Tri):iE (λg=>F g.a g.b) (eQ p l)=iE (aSs F p) l:=by
 unfold eQ;rw[aGn];exact wO λt _=>aYh hF t p
def V3.mir (v:V3):V3:=⟨v.x,-v.y,v.z⟩
def Tri.mir (t:Tri):Tri:=⟨t.a.mir,t.c.mir,t.b.mir⟩
def Pl.mir (p:Pl):Pl:=⟨p.n.mir,p.a⟩
structure Flip (T:V3->V3->V3->Rat)(σ:Rat):Prop where
 f:∀a b c,T a.mir b.mir c.mir=-(σ*T a b c)
def At.mir (a:At):At:=⟨-a.h,a.t⟩
end Go.Ai
namespace Go.Ai
open Go Go.Proofs Go.Num Go.RowKit Go.Lib
end Go.Ai
namespace Go.Ai
open Go Go.Proofs Go.Num V3
def bx (a b c d:Rat):List Tri:=
 let p0:V3:=⟨a,-b,0⟩
 let p1:V3:=⟨c,-b,0⟩
 let p2:V3:=⟨c,b,0⟩
 let p3:V3:=⟨a,b,0⟩
 let q0:V3:=⟨a,-b,d⟩
 let q1:V3:=⟨c,-b,d⟩
 let q2:V3:=⟨c,b,d⟩
 let q3:V3:=⟨a,b,d⟩
 [⟨p0,p2,p1⟩,⟨p0,p3,p2⟩,⟨q0,q1,q2⟩,⟨q0,q2,q3⟩,⟨p0,p1,q1⟩,⟨p0,q1,q0⟩,⟨p1,p2,q2⟩,⟨p1,q2,q1⟩,⟨p2,p3,q3⟩,⟨p2,q3,q2⟩,⟨p3,p0,q0⟩,⟨p3,q0,q3⟩]
def aEm:List Tri:=bx 0 2 10 3
def bDq:List ByteArray:=[⟨#[48]⟩,⟨#[45,50]⟩,⟨#[48]⟩,⟨#[49,48]⟩,⟨#[50]⟩,⟨#[48]⟩,⟨#[49,48]⟩,⟨#[45,50]⟩,⟨#[48]⟩,⟨#[48]⟩,⟨#[45,50]⟩,⟨#[48]⟩,⟨#[48]⟩,⟨#[50]⟩,⟨#[48]⟩,⟨#[49,48]⟩,⟨#[50]⟩,⟨#[48]⟩,⟨#[48]⟩,⟨#[45,50]⟩,⟨#[51]⟩,⟨#[49,48]⟩,⟨#[45,50]⟩,⟨#[51]⟩,⟨#[49,48]⟩,⟨#[50]⟩,⟨#[51]⟩,⟨#[48]⟩,⟨#[45,50]⟩,⟨#[51]⟩,⟨#[49,48]⟩,⟨#[50]⟩,⟨#[51]⟩,⟨#[48]⟩,⟨#[50]⟩,⟨#[51]⟩,⟨#[48]⟩,⟨#[45,50]⟩,⟨#[48]⟩,⟨#[49,48]⟩,⟨#[45,50]⟩,⟨#[48]⟩,⟨#[49,48]⟩,⟨#[45,50]⟩,⟨#[51]⟩,⟨#[48]⟩,⟨#[45,50]⟩,⟨#[48]⟩,⟨#[49,48]⟩,⟨#[45,50]⟩,⟨#[51]⟩,⟨#[48]⟩,⟨#[45,50]⟩,⟨#[51]⟩,⟨#[49,48]⟩,⟨#[45,50]⟩,⟨#[48]⟩,⟨#[49,48]⟩,⟨#[50]⟩,⟨#[48]⟩,⟨#[49,48]⟩,⟨#[50]⟩,⟨#[51]⟩,⟨#[49,48]⟩,⟨#[45,50]⟩,⟨#[48]⟩,⟨#[49,48]⟩,⟨#[50]⟩,⟨#[51]⟩,⟨#[49,48]⟩,⟨#[45,50]⟩,⟨#[51]⟩,⟨#[49,48]⟩,⟨#[50]⟩,⟨#[48]⟩,⟨#[48]⟩,⟨#[50]⟩,⟨#[48]⟩,⟨#[48]⟩,⟨#[50]⟩,⟨#[51]⟩,⟨#[49,48]⟩,⟨#[50]⟩,⟨#[48]⟩,⟨#[48]⟩,⟨#[50]⟩,⟨#[51]⟩,⟨#[49,48]⟩,⟨#[50]⟩,⟨#[51]⟩,⟨#[48]⟩,⟨#[50]⟩,⟨#[48]⟩,⟨#[48]⟩,⟨#[45,50]⟩,⟨#[48]⟩,⟨#[48]⟩,⟨#[45,50]⟩,⟨#[51]⟩,⟨#[48]⟩,⟨#[50]⟩,⟨#[48]⟩,⟨#[48]⟩,⟨#[45,50]⟩,⟨#[51]⟩,⟨#[48]⟩,⟨#[50]⟩,⟨#[51]⟩]
set_option maxRecDepth 100000 in
theorem aWg:kE aEm=bDq:=by decide+kernel
def at0:At:=⟨0,0⟩
def pl0:Pl:=at0.water 1
def aNc:Raw:=⟨kE aEm,12,⟨#[48]⟩,⟨#[48]⟩,⟨#[49]⟩⟩
theorem wX:∀t,t∈aEm->t.le (2^9):=by
 unfold Tri.le V3.le;decide+kernel
theorem aXt:pl0.fit (2^9):=⟨λh=>by have:=congrArg V3.z h;revert this;decide+kernel,by unfold V3.le;decide+kernel,by decide+kernel⟩
theorem aRo (l:List Tri):uY (kE l)=false:=by
 unfold uY;rw[Bool.not_eq_false',List.all_eq_true];intro a ha;obtain⟨t,_,h⟩:=List.mem_flatMap.1 ha;unfold aVr at h;simp only[List.mem_cons,List.not_mem_nil,or_false]at h;rcases h with h | h | h | h | h | h | h | h | h<;>rw[h]<;>exact mH _
theorem bC4 {l:List Tri}{k:Nat}(hk:2*k+2<=2^31)(hl:∀t,t∈l->t.le k):∀a,a∈kE l->a.size<=2^31:=by
 intro a ha;obtain⟨t,ht,h⟩:=List.mem_flatMap.1 ha;have:=hl t ht;obtain⟨⟨a1,a2,a3⟩,⟨b1,b2,b3⟩,c1,c2,c3⟩:=this;unfold aVr at h;simp only[List.mem_cons,List.not_mem_nil,or_false]at h;rcases h with h | h | h | h | h | h | h | h | h<;>rw[h]<;>exact lTr (aZ _) zW
theorem bD4:aNc.good aEm pl0:=by
 refine⟨rfl,aRo _,bC4 (k:=2^9) zV wX,rfl,λt ht=>⟨(wX t ht).1.mono zV,(wX t ht).2.1.mono zV,(wX t ht).2.2.mono zV⟩,?_,by decide+kernel⟩;have k:=bC6 (a:=at0) (d:=1) ⟨by decide+kernel,by decide+kernel⟩ (by decide+kernel);rw[if_pos (show at0.ok=true by decide+kernel)]at k;unfold atV at k;rw[show aA at0.h=⟨#[48]⟩ from eS,show aA at0.t=⟨#[48]⟩ from eS,oW]at k;exact k
theorem dY:aB PP 33:=zK
theorem nS:aB PP 28:=zK
theorem nQ:aB PP 27:=zK
def sh (s:ByteArray):Bool:=decide ((s.size:Int)<=40)
theorem rN (s:ByteArray):Pure PP 33 [.string s] (.bool (sh s)):=by
 unfold sh;refine zF [.s (.v s)] Tryz.func33 λc hc hR=>?_;cbv;exact zR
theorem aHo (h t:ByteArray):Pure PP 27 [.agg #[.string h,.string t]] (.bool (sh h&&sh t)):=by
 have k1:=rN h
 have k2:=rN t
 generalize sh h=b1,sh t=b2 at *;refine zF [.g [.s (.v h),.s (.v t)]] Tryz.func27 λc hc hR=>?_;cbv;cases b1
 ·refine zC (.b (.l false)) k1 dY ?_;cbv;exact zR
 ·refine zC (.b (.l true)) k1 dY ?_;cbv;cases b2
  ·refine zC (.b (.l false)) k2 dY ?_;cbv;exact zR
  ·refine zC (.b (.l true)) k2 dY ?_;cbv;exact zR
theorem aHq (a b d:ByteArray):Pure PP 28 [gT a b d] (.bool (sh a&&sh b&&sh d)):=by
 have k1:=rN a
 have k2:=rN b
 have k3:=rN d
 unfold gT;generalize sh a=b1,sh b=b2,sh d=b3 at *;refine zF [iI a b d] Tryz.func28 λc hc hR=>?_;cbv;cases b1
 ·refine zC (.b (.l false)) k1 dY ?_;cbv;exact zR
 ·refine zC (.b (.l true)) k1 dY ?_;cbv;cases b2
  ·refine zC (.b (.l false)) k2 dY ?_;cbv;exact zR
  ·refine zC (.b (.l true)) k2 dY ?_;cbv;cases b3
   ·refine zC (.b (.l false)) k3 dY ?_;cbv;exact zR
   ·refine zC (.b (.l true)) k3 dY ?_;cbv;exact zR
theorem sA {a:ByteArray}(h:sh a=true):a.size<=40:=by have:=of_decide_eq_true h;omega
inductive Out (r:Raw) (l:List Tri):Prop
 | bad (e:Int):r.errs e->Out r l
 | ok (p:Pl):r.good l p->p.fit (2^9)->(∀t,t∈l->t.le (2^9))->l.length<=24->Out r l
end Go.Ai
namespace Go.Ai
open Go Go.Num V3
theorem aHh (t:Rat):jK t*jK t+gR t*gR t=1:=by
 have h:=Rat.inv_mul_cancel _ (aDv t)
 unfold jK gR;rw[Rat.div_def,Rat.div_def];generalize (1+t*t)⁻¹=i at *;grind
theorem At.det (a:At):bD0 a.ahead a.side a.up=1:=by
 have h1:=aHh a.h
 have h2:=aHh a.t
 simp only[bD0,V3.dot,V3.cross,At.ahead,At.side,At.up];generalize jK a.h=c,gR a.h=s,jK a.t=d,gR a.t=q at *;grind
section
variable {a:At}{d:Rat}{l:List Tri}
variable (hm:mX l=true)
include hm
end
def jac (a b c:V3):Rat:=(b.x - a.x)*(c.y - a.y) - (c.x - a.x)*(b.y - a.y)
def dbl (x y z x' y' z':Rat):Rat:=(x*x'+y*y'+z*z'+(x+y+z)*(x'+y'+z'))*(1/24)
def cr (a b:V3):Rat:=a.x*b.y - b.x*a.y
def s0 (a b c:V3):Rat:=jac a b c*(1/2)
def s1 (a b c:V3):Rat:=jac a b c*((a.x+b.x+c.x)*(1/6))
def s2 (a b c:V3):Rat:=jac a b c*((a.y+b.y+c.y)*(1/6))
def s3 (a b c:V3):Rat:=jac a b c*dbl a.x b.x c.x a.x b.x c.x
def s4 (a b c:V3):Rat:=jac a b c*dbl a.y b.y c.y a.y b.y c.y
section
variable {a:At}{d:Rat}{l:List Tri}(hm:mX l=true)
include hm
end
theorem aZt (w:List ByteArray->Rat):∀(l:List Seg) (es:fQ),wtE w (l.foldl aJj es)=wtE w es+iE (λg=>w (vK g.a) - w (vK g.b)) l
 | [],es=>by simp only[List.foldl,iE];grind
 | g::l,es=>by
  have e1:((1:Int):Rat)=1:=rfl
  have e2:((-1:Int):Rat)=-1:=rfl
  rw[List.foldl_cons,aZt w l];simp only[aJj,aIj,iE,e1,e2];grind
theorem KU.s:∀(l:List Seg) {es:fQ},KU es->KU (l.foldl aJj es)
 | [],_,h=>h
 | g::l,es,h=>KU.s l (es:=aJj es g) h.add.add
theorem bCy (p:Pl){l:List Tri}(hm:mX l=true):aPo (eQ p l)=true:=by
 refine List.all_eq_true.2 λx hx=>?_;have h1:=KU.at (KU.s (eQ p l) (es:=[]) .nil) (x:=x) hx;have h2:=aZt (one x.1) (eQ p l) [];rw[h1,bC0 (F:=λa b=>one x.1 (vK a) - one x.1 (vK b)) (λx=>by grind),wO λt _=>aWq (λa=>one x.1 (vK a)) p t,aUm hm (aSw _ p)]at h2;have h3:(x.2:Rat)=0:=by rw[h2];simp only[wtE,iE];grind
 simpa using Rat.intCast_inj.1 (h3.trans rfl)
end Go.Ai
namespace Go.Ai
open Go Go.Proofs Go.Num V3
theorem aZr {u v:V3}(hu:u.le (2^13))(hv:v.le (2^13)):∀{l:List Seg},(∀g,g∈l->g.a.le (2^14)/\g.b.le (2^14))->∀{s:Wp} {k:Nat},s.le k->(l.foldl (Wp.seg u v) s).le (k+l.length*884772)
 | [],_,s,k,hs=>by simpa using hs
 | g::l,h,s,k,hs=>by
  have hz:∀z r:V3,z.le (2^13)->r.le (2^14)->sz (z.dot r)<=73730:=λz r h1 h2=>lTr (V3.sz_dot h1 h2) zV
  obtain⟨ha,hb⟩:=h g (.head _);have h1:=Wp.le_tri hs (hz u _ hu ha) (hz v _ hv ha) (hz u _ hu hb) (hz v _ hv hb);have:=aZr hu hv (l:=l) (λx hx=>h x (.tail _ hx)) h1;rw[List.foldl_cons,List.length_cons,show k+(l.length+1)*884772=k+(12*73730+12)+l.length*884772 by omega];exact this
theorem aLz:aB PP 104:=zK
theorem bCc {s p q ar:Rat}(h0:ar≠0)(hs:sz s<=2^26)(hp:sz p<=2^26)(hq:sz q<=2^26)(ha:sz ar<=2^26)(t1 t2 t3 t4 t5:ByteArray):uZ PP 104 [.string (aA s),.string (aA p),.string (aA q)] [aA ar,t1,t2,t3,t4,t5] (.string (aA (s - p*q/ar))):=by
 have m:=sz_mm hp hq
 have k1:=bCb (lTr hp (show 2^26<=2^29 by decide)) (lTr hq (show 2^26<=2^29 by decide))
 have k2:=aQp h0 (lTr m (show 2^26+2^26<=2^29 by decide)) (lTr ha (show 2^26<=2^29 by decide))
 have k3:=bIk (x:=s) (y:=p*q/ar) (lTr hs zV) (lTr (kF _ _) (lTr (Nat.add_le_add m ha) zV))
 clear m hs hp hq ha h0;generalize aA (s - p*q/ar)=r,aA (p*q/ar)=r1,aA (p*q)=r2,aA s=s',aA p=p',aA q=q',aA ar=a' at *;refine uZ.of_fn (λX w v hX hv=>?_);obtain⟨K,hK⟩:=nm ([KF.cst v (aUw [a',t1,t2,t3,t4,t5])]);refine bJ mixed tok [.s (.v s'),.s (.v p'),.s (.v q'),.q v] (K:=K) Tryz.func104 rfl rfl (lbl rfl) rfl hX (by rw[hK];simp;exact hv) λc hc hR=>?_;refine aNg 3 [a',t1,t2,t3,t4,t5] rfl rfl (λX μ a w v' H hv'=>cD H (by rw[hK];exact .head _) hv') (λf hf=>?_);have hf:f 0=a':=hf 0 _ rfl;subst hf;apply zN hc;cbv;refine uQ hc k1 aCm 100 ?_;cbv;try (refine pZ hc ?_)
 refine zD (.s (.v r1)) k2 vS ?_;cbv;refine zD (.s (.v r)) k3 bAf ?_;cbv;refine zE ?_;cbv;exact fJ hc hR
def bB0:Value:=.agg #[.string ⟨#[]⟩,.string ⟨#[]⟩,.string ⟨#[]⟩,.string ⟨#[]⟩,.string ⟨#[]⟩,.string ⟨#[]⟩,.string ⟨#[]⟩,.string ⟨#[]⟩,.string ⟨#[]⟩,.string ⟨#[]⟩]
def aXh (M:Ms)(W:Wp):Hy:=⟨aA M.v,aA (M.f.scale (1/M.v)).x,aA (M.f.scale (1/M.v)).y,aA (M.f.scale (1/M.v)).z,aA W.a,aA (W.x/W.a),aA (W.y/W.a),aA (W.xx - W.x*W.x/W.a),aA (W.yy - W.y*W.y/W.a),aA (W.xy - W.x*W.y/W.a)⟩
theorem bDt:aB PP 49:=zK
section
variable {r:Raw}{l:List Tri}{p:Pl}{a:At}(hg:r.good l p)(hp:p.fit (2^9))(hl:∀t,t∈l->t.le (2^9))(hN:r.N<=32)(hL:r.L.length=9*r.N)(hb:(cC p l).le (2^26))(ha:a.le (2^10))(hk:a.ok=true)(hra:r.attV=atV a)
include hg hp hl hN hL hb ha hk hra
theorem le_wp:(wpS a.ahead a.side (eQ p l)).le (2^25):=by
 have hlen:l.length=r.N:=by
  have:=hL
  rw[hg.eq,lL]at this;omega
 have:=aZr ((At.le_ahead ha).mono zV) ((At.le_side ha).mono zV) (l:=eQ p l) (λg h=>by
   have:=aIa hp hl h
   exact⟨this.1.mono zV,this.2.mono zV⟩) (s:=Wp.none) (k:=1) ⟨nB,nB,nB,nB,nB,nB⟩
 have h2:1+(eQ p l).length*884772<=2^25:=by
  have:=yQ p l
  have:=Nat.mul_le_mul_right 884772 (show(eQ p l).length<=32 by omega)
  omega
 obtain⟨h3,h4,h5,h6,h7,h8⟩:=this;exact⟨lTr h3 h2,lTr h4 h2,lTr h5 h2,lTr h6 h2,lTr h7 h2,lTr h8 h2⟩
def ofS (M:Ms)(W:Wp):Value × Int:=if M.v=0\/W.a=0 then(bB0,16)else(hyV (aXh M W),0)
theorem pOf:aAt PP 49 (dR r.N r.L) [r.attV,.string r.d] (.tuple #[(ofS (cC p l) (wpS a.ahead a.side (eQ p l))).1,.int .i64 (ofS (cC p l) (wpS a.ahead a.side (eQ p l))).2]):=by
 have lw:=le_wp hg hp hl hN hL hb ha hk hra
 have kv:aAt PP 14 (dR r.N r.L) [r.attV,.string r.d] (.tuple #[.string (aA (cC p l).v),.int .i64 0]):=λ_ _ _ hX hv=>aMe hg hp hl hN hL hX hv
 have kw:aAt PP 23 (dR r.N r.L) [r.attV,.string r.d] (.tuple #[wpV (wpS a.ahead a.side (eQ p l)),.int .i64 0]):=λ_ _ _ hX hv=>aC7 hg hp hl hN hL ha hk hra (bCy p hg.ok) hX hv
 have kc:(cC p l).v≠0->aAt PP 21 (dR r.N r.L) [r.attV,.string r.d] (.tuple #[gA ((cC p l).f.scale (1/(cC p l).v)),.int .i64 0]):=λh _ _ _ hX hv=>aMd hg hp hl hN hL hb h hX hv
 generalize cC p l=M,wpS a.ahead a.side (eQ p l)=W at *;obtain⟨w1,w2,w3,w4,w5,w6⟩:=lw;have big:∀{x:Rat} {n:Nat},sz x<=n->n<=2^29->sz x<=2^29:=λh h'=>lTr h h';have b6:∀{x:Rat},sz x<=2^25->sz x<=2^26:=λh=>lTr h zV;have k1:W.a≠0->_:=λh=>aQp h (big w2 zV) (big w1 zV);have k2:W.a≠0->_:=λh=>aQp h (big w3 zV) (big w1 zV);have k3:W.a≠0->_:=λh=>bCc h (b6 w4) (b6 w2) (b6 w2) (b6 w1);have k4:W.a≠0->_:=λh=>bCc h (b6 w5) (b6 w3) (b6 w3) (b6 w1);have k5:W.a≠0->_:=λh=>bCc h (b6 w6) (b6 w2) (b6 w3) (b6 w1);have z1:=aKz (s:=aA M.v) (x:=M.v) rfl eS.symm;have z2:=aKz (s:=aA W.a) (x:=W.a) rfl eS.symm;unfold ofS aXh wpV gA gT Raw.attV at *;clear w1 w2 w3 w4 w5 w6 hg hp hl hN hL hb ha hk hra big b6;generalize aA (W.xx - W.x*W.x/W.a)=r1,aA (W.yy - W.y*W.y/W.a)=r2,aA (W.xy - W.x*W.y/W.a)=r3,aA (W.x/W.a)=r4,aA (W.y/W.a)=r5,aA (M.f.scale (1/M.v)).x=c1,aA (M.f.scale (1/M.v)).y=c2,aA (M.f.scale (1/M.v)).z=c3,aA M.v=tv,aA W.a=y0,aA W.x=y1,aA W.y=y2 at *;generalize aA W.xx=y3,aA W.yy=y4,aA W.xy=y5 at *;by_cases hv:M.v=0
 ·rw[if_pos (.inl hv)];rw[decide_eq_true hv]at z1;unfold bB0;refine aMc mixed tok [.g [.s (.v r.h),.s (.v r.t)],.s (.v r.d)] Tryz.func49 rfl rfl rfl rfl λc v K hm hc hR=>?_;apply zN hc;cbv;refine rY hc kv zQ hm (.t [.s (.v tv),.i .i64 (.l 0)]) 100 ?_;cbv;refine rY hc kw pQ hm (.t [.g [.s (.v y0),.s (.v y1),.s (.v y2),.s (.v y3),.s (.v y4),.s (.v y5)],.i .i64 (.l 0)]) 100 ?_;cbv;refine dK hc 35 _ z1 rfl rfl 100 ?_;cbv;exact fJ hc hR
 ·rw[decide_eq_false hv]at z1;by_cases hw:W.a=0
  ·rw[if_pos (.inr hw)];rw[decide_eq_true hw]at z2;unfold bB0;refine aMc mixed tok [.g [.s (.v r.h),.s (.v r.t)],.s (.v r.d)] Tryz.func49 rfl rfl rfl rfl λc v K hm hc hR=>?_;apply zN hc;cbv;refine rY hc kv zQ hm (.t [.s (.v tv),.i .i64 (.l 0)]) 100 ?_;cbv;refine rY hc kw pQ hm (.t [.g [.s (.v y0),.s (.v y1),.s (.v y2),.s (.v y3),.s (.v y4),.s (.v y5)],.i .i64 (.l 0)]) 100 ?_;cbv;refine dK hc 35 _ z1 rfl rfl 100 ?_;cbv;refine fH hc _ z2 100 ?_;cbv;exact fJ hc hR
  ·rw[if_neg (by simp[hv,hw])];rw[decide_eq_false hw]at z2;have kc:=kc hv;have k1:=k1 hw;have k2:=k2 hw;have k3:=k3 hw y1 y2 y3 y4 y5;have k4:=k4 hw y1 y2 y3 y4 y5;have k5:=k5 hw y1 y2 y3 y4 y5;unfold hyV;refine aMc mixed tok [.g [.s (.v r.h),.s (.v r.t)],.s (.v r.d)] Tryz.func49 rfl rfl rfl rfl λc v K hm hc hR=>?_;apply zN hc;cbv;refine rY hc kv zQ hm (.t [.s (.v tv),.i .i64 (.l 0)]) 100 ?_;cbv;refine rY hc kw pQ hm (.t [.g [.s (.v y0),.s (.v y1),.s (.v y2),.s (.v y3),.s (.v y4),.s (.v y5)],.i .i64 (.l 0)]) 100 ?_;cbv;refine dK hc 35 _ z1 rfl rfl 100 ?_;cbv;refine fH hc _ z2 100 ?_;cbv;refine rY hc kc aPw hm (.t [.g [.s (.v c1),.s (.v c2),.s (.v c3)],.i .i64 (.l 0)]) 100 ?_;cbv;refine uQ hc k1 vS 100 ?_;cbv;refine uQ hc k2 vS 100 ?_;cbv;refine iB hc (.s (.v r1)) (pre:=[.s (.v y3),.s (.v y1),.s (.v y1)]) k3 aLz 100 ?_;cbv;refine iB hc (.s (.v r2)) (pre:=[.s (.v y4),.s (.v y2),.s (.v y2)]) k4 aLz 100 ?_;cbv;refine iB hc (.s (.v r3)) (pre:=[.s (.v y5),.s (.v y1),.s (.v y2)]) k5 aLz 100 ?_;cbv;refine zE ?_;cbv;exact fJ hc hR
end
end Go.Ai
namespace Go.Ai
open Go Go.Proofs Go.Num V3
theorem bAd:aB PP 78:=zK
theorem pG:aB PP 143:=zK
theorem aCk:aB PP 25:=zK
theorem aBc (a b d:ByteArray):Pure PP 143 [.string a,.string b,.string d] (gT a b d):=by
 unfold gT;refine zF [.s (.v a),.s (.v b),.s (.v d)] Tryz.func143 λc hc hR=>?_;cbv;exact zR
set_option maxRecDepth 100000 in
theorem bIh {X:Nat->Prop}{w:World}(hX:∀b,X b->b<w.heap.size):Fn PP 78 [] X w (dR 12 (kE aEm)):=by
 rw[aWg];obtain⟨R,hRR⟩:=nm (dR 12 bDq);rw[<-hRR];obtain⟨K,hK⟩:∃K:List KF,K=[]:=⟨_,rfl⟩;refine bJ mixed tok [] (K:=K) Tryz.func78 rfl rfl (lbl rfl) rfl hX (by rw[hK];simp) λc hc hR=>?_;apply zN hc;cbv;refine fT hc (iI ⟨#[48]⟩ ⟨#[45,50]⟩ ⟨#[48]⟩) (aBc ⟨#[48]⟩ ⟨#[45,50]⟩ ⟨#[48]⟩) pG zG zG 100 ?_;cbv;refine fT hc (iI ⟨#[49,48]⟩ ⟨#[45,50]⟩ ⟨#[48]⟩) (aBc ⟨#[49,48]⟩ ⟨#[45,50]⟩ ⟨#[48]⟩) pG zG zG 100 ?_;cbv;refine fT hc (iI ⟨#[49,48]⟩ ⟨#[50]⟩ ⟨#[48]⟩) (aBc ⟨#[49,48]⟩ ⟨#[50]⟩ ⟨#[48]⟩) pG zG zG 100 ?_;cbv;refine fT hc (iI ⟨#[48]⟩ ⟨#[50]⟩ ⟨#[48]⟩) (aBc ⟨#[48]⟩ ⟨#[50]⟩ ⟨#[48]⟩) pG zG zG 100 ?_;cbv;refine fT hc (iI ⟨#[48]⟩ ⟨#[45,50]⟩ ⟨#[51]⟩) (aBc ⟨#[48]⟩ ⟨#[45,50]⟩ ⟨#[51]⟩) pG zG zG 100 ?_;cbv;refine fT hc (iI ⟨#[49,48]⟩ ⟨#[45,50]⟩ ⟨#[51]⟩) (aBc ⟨#[49,48]⟩ ⟨#[45,50]⟩ ⟨#[51]⟩) pG zG zG 100 ?_;cbv;refine fT hc (iI ⟨#[49,48]⟩ ⟨#[50]⟩ ⟨#[51]⟩) (aBc ⟨#[49,48]⟩ ⟨#[50]⟩ ⟨#[51]⟩) pG zG zG 100 ?_;cbv;refine fT hc (iI ⟨#[48]⟩ ⟨#[50]⟩ ⟨#[51]⟩) (aBc ⟨#[48]⟩ ⟨#[50]⟩ ⟨#[51]⟩) pG zG zG 100 ?_;cbv;obtain⟨E,hE⟩:∃E:Option Addr->Nat->Nat->List Value->OF,∀a n cap l,E a n cap l=OF.rv (.slice a n cap) c.B.heap.size 36 9 n l:=⟨_,λ_ _ _ _=>rfl⟩;refine aVb 0 8 (n:=12) (sz:=9) hE (K':=K) (l:=[]) rfl rfl rfl rfl rfl zV rfl trivial rfl (by subst hK;trivial) trivial (λb0=>?_);cbv;refine fL (sz:=9) (hE _ _ _ _) (pre:=[]) ?_;cbv;refine bB hc hR rfl (λX μ a w v' Hs hv'=>?_);have:=Hs.toP.cst (.head _);simp only[aD]at hv';injection hv' with hv'
 rw[hRR,<-hv'];exact this
def aHu:Hy:=⟨⟨#[52,48]⟩,⟨#[53]⟩,⟨#[48]⟩,⟨#[49,47,50]⟩,⟨#[52,48]⟩,⟨#[53]⟩,⟨#[48]⟩,⟨#[49,48,48,48,47,51]⟩,⟨#[49,54,48,47,51]⟩,⟨#[48]⟩⟩
theorem aXg:aXh (cC pl0 aEm) (wpS at0.ahead at0.side (eQ pl0 aEm))=aHu:=by
 unfold aXh aHu;rw[Hy.mk.injEq];decide+kernel
theorem aBx:aHu.le (2^20):=⟨zV,zV,zV,zV,zV,zV,zV,zV,zV,zV⟩
theorem of0:ofS (cC pl0 aEm) (wpS at0.ahead at0.side (eQ pl0 aEm))=(hyV aHu,0):=by
 unfold ofS;rw[if_neg (by decide+kernel),aXg]
theorem bIq:aD0 aHu=(⟨#[52,47,51]⟩,⟨#[50,53,47,51]⟩,0):=by decide+kernel
theorem bId:yB aHu ⟨#[48]⟩ ⟨#[48]⟩ ⟨#[53]⟩ ⟨#[48]⟩ ⟨#[49]⟩=(⟨#[53,47,54]⟩,⟨#[52,55,47,54]⟩,0):=by decide+kernel
theorem bH9:aMs aHu ⟨#[49]⟩=(⟨#[52,48]⟩,0):=by decide+kernel
theorem bIt:aQ5 aHu ⟨#[49]⟩ ⟨#[49,48]⟩=(⟨#[49,47,52]⟩,0):=by decide+kernel
theorem aM1 {X:Nat->Prop}{w:World}(hX:∀b,X b->b<w.heap.size):Fn PP 25 [] X w (eE (.bool true)):=by
 have hL:aNc.L.length=9*aNc.N:=by show(kE aEm).length=9*12;rw[lL];rfl
 have e0:aNc.attV=.agg #[.string ⟨#[48]⟩,.string ⟨#[48]⟩]:=rfl
 have ko:=pOf (r:=aNc) (a:=at0) bD4 aXt wX zV hL (by unfold Ms.le V3.le;decide+kernel) ⟨by decide+kernel,by decide+kernel⟩ (by decide+kernel) (by unfold Raw.attV atV;rw[show aA at0.h=⟨#[48]⟩ from eS,show aA at0.t=⟨#[48]⟩ from eS];rfl)
 rw[of0]at ko;have kr:=aH3 aBx;have km:=aUs (h:=⟨#[48]⟩) (t:=⟨#[48]⟩) (g1:=⟨#[53]⟩) (g2:=⟨#[48]⟩) (g3:=⟨#[49]⟩) aBx zV zV zV zV zV;have ki:=bFt (d:=⟨#[49]⟩) aBx zV;have ks:=aZa (d:=⟨#[49]⟩) (m:=⟨#[49,48]⟩) aBx zV zV;rw[bIq]at kr;rw[bId]at km;rw[bH9]at ki;rw[bIt]at ks;obtain⟨RS,hRS⟩:=nm (dR aNc.N aNc.L);have kb:∀{X:Nat->Prop} {w:World},(∀b,X b->b<w.heap.size)->Fn PP 78 [] X w RS:=λhX=>by rw[hRS];exact bIh hX
 rw[<-hRS]at ko;obtain⟨K,hK⟩:∃K:List KF,K=[]:=⟨_,rfl⟩;refine bJ mixed tok [] (K:=K) Tryz.func25 rfl rfl (lbl rfl) rfl hX (by rw[hK];simp) λc hc hR=>?_;apply zN hc;cbv;refine mP hc (R:=RS) bAd (λD X μ a w aK H hv=>?_) 100 ?_
 ·rw[<-(Option.some.inj hv)];exact kb H.xlt
 cbv;refine aUz hc ko bDt (.head _) (.t [hyA aHu,.i .i64 (.l 0)]) rfl rfl 3 ?_;cbv;refine fR hc _ ?_;cbv;refine aYa hc 8 zG zV zV rfl 100 ?_;cbv;refine aR hc kr qG rfl 100 ?_;cbv;refine aR hc km vT rfl 100 ?_;cbv;refine aR hc ki aSe rfl 100 ?_;cbv;refine aR hc ks aOb rfl 100 ?_;cbv;refine dK hc 48 true (by decide+kernel) rfl rfl 100 ?_;cbv;refine dK hc 53 true (by decide+kernel) rfl rfl 100 ?_;cbv;refine dK hc 58 true (by decide+kernel) rfl rfl 100 ?_;cbv;refine dK hc 63 true (by decide+kernel) rfl rfl 100 ?_;cbv;refine dK hc 68 true (by decide+kernel) rfl rfl 100 ?_;cbv;refine dK hc 72 true (by decide+kernel) rfl rfl 100 ?_;cbv;refine dK hc 76 true (by decide+kernel) rfl rfl 100 ?_;cbv;refine dK hc 80 true (by decide+kernel) rfl rfl 100 ?_;cbv;refine dK hc 84 true (by decide+kernel) rfl rfl 100 ?_;cbv;refine dK hc 88 true (by decide+kernel) rfl rfl 100 ?_;cbv;refine dK hc 92 true (by decide+kernel) rfl rfl 100 ?_;cbv;try (refine pZ hc ?_)
 exact fJ hc hR
theorem eR {a:ByteArray}(h:sh a=true):a.size<=2^20:=lTr (sA h) zV
theorem lHeights (H:Hy)(h t g1 g2 g3:ByteArray){X:Nat->Prop}{w:World}(hX:∀b,X b->b<w.heap.size):Fn PP 6 [hyV H,attV h t,gT g1 g2 g3] X w (eE (.bool true)):=by
 have k1:=aHp H
 have k2:=aHo h t
 have k3:=aHq g1 g2 g3
 obtain⟨b1,e1⟩:=nm H.short;obtain⟨b2,e2⟩:=nm (sh h&&sh t);obtain⟨b3,e3⟩:=nm (sh g1&&sh g2&&sh g3);rw[<-e1]at k1;rw[<-e2]at k2;rw[<-e3]at k3;unfold gT at *;refine bJ mixed tok [hyA H,.g [.s (.v h),.s (.v t)],iI g1 g2 g3] (K:=[]) Tryz.func6 rfl rfl (lbl rfl) rfl hX (λf hf=>nomatch hf) λc hc hR=>?_;apply zN hc;cbv;refine cE hc (.b (.l true)) aCk (λn0 D X μ a w aK Hs hv=>by rw[<-Option.some.inj hv];exact aM1 Hs.xlt) rfl 100 ?_;cbv;cases b1
 ·refine aR hc k1 nR rfl 100 ?_;cbv;exact fJ hc hR
 refine aR hc k1 nR rfl 100 ?_;cbv;cases b2
 ·refine aR hc k2 nQ rfl 100 ?_;cbv;exact fJ hc hR
 refine aR hc k2 nQ rfl 100 ?_;cbv;cases b3
 ·refine aR hc k3 nS rfl 100 ?_;cbv;exact fJ hc hR
 refine aR hc k3 nS rfl 100 ?_;cbv;have hs:=Hy.short_le e1.symm;have e2:=e2.symm;have e3:=e3.symm;simp only[Bool.and_eq_true]at e2 e3;have kr:=aH3 hs;have kR:=aTk hs;have km:=aUs hs (eR e2.1) (eR e2.2) (eR e3.1.1) (eR e3.1.2) (eR e3.2);have kM:=bD7 hs (eR e2.1) (eR e2.2) (eR e3.1.1) (eR e3.1.2) (eR e3.2);generalize aD0 H=x at kr kR;generalize yB H h t g1 g2 g3=y at km kM;obtain⟨r1,r2,e⟩:=x;obtain⟨m1,m2,f⟩:=y;refine zC (.t [.s (.v r1),.s (.v r2),.i .i64 (.v e)]) kr qG ?_;cbv;refine bQ hc aUe (λ_=>.t [.s (.v r1),.s (.v r2),.i .i64 (.l e)]) kR aI0 rfl rfl 100 λK hK _=>?_;cbv;refine zC (.t [.s (.v m1),.s (.v m2),.i .i64 (.v f)]) km vT ?_;cbv;refine bQ hc hK (λ_=>.t [.s (.v m1),.s (.v m2),.i .i64 (.l f)]) kM aR0 rfl rfl 100 λK hK _=>?_;cbv;refine dK hc 65 true (lK _) rfl rfl 100 ?_;cbv;refine dK hc 70 true (lK _) rfl rfl 100 ?_;cbv;refine dK hc 75 true (xP _) rfl rfl 100 ?_;cbv;refine dK hc 80 true (lK _) rfl rfl 100 ?_;cbv;refine dK hc 85 true (lK _) rfl rfl 100 ?_;cbv;exact fJ hc hR rfl (congrArg (λb=>some (Value.bool b)) (xP f))
theorem lMasses (H:Hy)(h t g1 g2 g3 d m l:ByteArray){X:Nat->Prop}{w:World}(hX:∀b,X b->b<w.heap.size):Fn PP 8 [hyV H,.agg #[.string h,.string t,.string g1,.string g2,.string g3],.agg #[.string d,.string m,.string l]] X w (eE (.bool true)):=by
 have k1:=aHp H
 have k2:=aHo h t
 have k3:=aHq g1 g2 g3
 have k4:=rN d
 have k5:=rN m
 have k6:=rN l
 obtain⟨b1,e1⟩:=nm H.short;obtain⟨b2,e2⟩:=nm (sh h&&sh t);obtain⟨b3,e3⟩:=nm (sh g1&&sh g2&&sh g3);obtain⟨b4,e4⟩:=nm (sh d);obtain⟨b5,e5⟩:=nm (sh m);obtain⟨b6,e6⟩:=nm (sh l);rw[<-e1]at k1;rw[<-e2]at k2;rw[<-e3]at k3;rw[<-e4]at k4;rw[<-e5]at k5;rw[<-e6]at k6;unfold gT at *;refine bJ mixed tok [hyA H,.g [.s (.v h),.s (.v t),.s (.v g1),.s (.v g2),.s (.v g3)],.g [.s (.v d),.s (.v m),.s (.v l)]] (K:=[]) Tryz.func8 rfl rfl (lbl rfl) rfl hX (λf hf=>nomatch hf) λc hc hR=>?_;apply zN hc;cbv;refine cE hc (.b (.l true)) aCk (λn0 D X μ a w aK Hs hv=>by rw[<-Option.some.inj hv];exact aM1 Hs.xlt) rfl 100 ?_;cbv;cases b1
 ·refine aR hc k1 nR rfl 100 ?_;cbv;exact fJ hc hR
 refine aR hc k1 nR rfl 100 ?_;cbv;cases b2
 ·refine aR hc k2 nQ rfl 100 ?_;cbv;exact fJ hc hR
 refine aR hc k2 nQ rfl 100 ?_;cbv;cases b3
 ·refine aR hc k3 nS rfl 100 ?_;cbv;exact fJ hc hR
 refine aR hc k3 nS rfl 100 ?_;cbv;cases b4
 ·refine aR hc k4 dY rfl 100 ?_;cbv;exact fJ hc hR
 refine aR hc k4 dY rfl 100 ?_;cbv;cases b5
 ·refine aR hc k5 dY rfl 100 ?_;cbv;exact fJ hc hR
 refine aR hc k5 dY rfl 100 ?_;cbv;cases b6
 ·refine aR hc k6 dY rfl 100 ?_;cbv;exact fJ hc hR
 refine aR hc k6 dY rfl 100 ?_;cbv;have hs:=Hy.short_le e1.symm;have e2:=e2.symm;have e3:=e3.symm;simp only[Bool.and_eq_true]at e2 e3;have hd:=eR e4.symm;have hm:=eR e5.symm;have hl:=eR e6.symm;have ki:=bFt hs hd;have kI:=bD6 hs hd;have kk:=aZa hs hd hm;have kK:=bEc hs hd hm;have kc:=bIi hs (eR e2.1) (eR e2.2) (eR e3.1.1) (eR e3.1.2) (eR e3.2) hd hl;have kC:=bGq hs (eR e2.1) (eR e2.2) (eR e3.1.1) (eR e3.1.2) (eR e3.2) hd hl;generalize aMs H d=x at ki kI;generalize aQ5 H d m=y at kk kK;generalize aSv H h t g1 g2 g3 d l=z at kc kC;obtain⟨r1,c1⟩:=x;obtain⟨r2,c2⟩:=y;obtain⟨r3,c3⟩:=z;refine zC (.t [.s (.v r1),.i .i64 (.v c1)]) ki aSe ?_;cbv;refine bQ hc aUe (λ_=>.t [.s (.v r1),.i .i64 (.l c1)]) kI aRz rfl rfl 100 λK hK _=>?_;cbv;refine zC (.t [.s (.v r2),.i .i64 (.v c2)]) kk aOb ?_;cbv;refine bQ hc hK (λ_=>.t [.s (.v r2),.i .i64 (.l c2)]) kK aWj rfl rfl 100 λK hK _=>?_;cbv;refine zC (.t [.s (.v r3),.i .i64 (.v c3)]) kc bAe ?_;cbv;refine bQ hc hK (λ_=>.t [.s (.v r3),.i .i64 (.l c3)]) kC aZ5 rfl rfl 100 λK hK _=>?_;cbv;refine dK hc 115 true (lK _) rfl rfl 100 ?_;cbv;refine dK hc 120 true (xP _) rfl rfl 100 ?_;cbv;refine dK hc 125 true (lK _) rfl rfl 100 ?_;cbv;refine dK hc 130 true (xP _) rfl rfl 100 ?_;cbv;refine dK hc 135 true (lK _) rfl rfl 100 ?_;cbv;exact fJ hc hR rfl (congrArg (λb=>some (Value.bool b)) (xP c3))
end Go.Ai
