/- Part 11: lemmas for the particulars laws -/
import Derived.Lib.ItoaNum
import Derived.Shelf.Strings.Builder1
import Derived.Shelf.Strings.Builder2
import Derived.Shelf.Small.Wraps
import Derived.Shelf.Strings.BuilderF
import Derived.Shelf.Strings.BuilderK
import Derived.Shelf.Strings.Builder2Cap
import Derived.Shelf.Strconv.Itoa0
import Derived.Shelf.Strconv.Itoa1
import Derived.Shelf.LaysM
import Derived.Shelf.Strconv.Itoa2
import Derived.Shelf.Strconv.Itoa3
import Derived.Shelf.Strconv.Itoa4
import Derived.Shelf.Strconv.ParseIntEmpty
import Derived.Shelf.Strconv.Clone
import Derived.Shelf.Strconv.SyntaxError
import Derived.Shelf.LaysC
import Derived.Shelf.Strconv.ToError
import Derived.Shelf.Strconv.Lower
import Derived.Shelf.Strconv.ParseUint10
import Derived.Shelf.Strconv.ParseUint10Empty
import Derived.Shelf.Strconv.ParseUint10Any
import Derived.Shelf.Strconv.ParseInt10
import Derived.Shelf.Strconv.RangeError
import Derived.Shelf.Strconv.ToErrorRange
import Derived.Shelf.Strconv.ParseUintEmpty
import Derived.Shelf.Strconv.ParseUint10b64
import Derived.Shelf.Strconv.ParseUint10b32
import Derived.Shelf.Strconv.ParseUint10b16
import Derived.Shelf.Strconv.ParseUint10b8
import Derived.Shelf.Strconv.ParseUint10At
import Derived.Shelf.Strconv.ParseInt10At64
import Derived.Shelf.Strconv.ParseInt10At32
import Derived.Shelf.Strconv.ParseInt10At16
import Derived.Shelf.Strconv.ParseInt10At8
import Derived.Shelf.Strconv.ParseInt10All
import Derived.Shelf.Strconv.ParseIntPublic10
import Derived.Ground.MpProg
import Derived.Shelf.Pu.ParseUintPublic10
import Derived.Shelf.Strings.Search1
import Derived.Shelf.Strings.Search2
import Derived.Shelf.Strings.Cut
import Derived.Shelf.Strings.Shaped
import Derived.Shelf.Strings.Prefix
import Derived.Shelf.Bits.Mul64
import Derived.Shelf.Strings.Repeat
import Derived.Shelf.Strings.BuilderCap
import Derived.Ground.Names2Prog
import Derived.Shelf.Slices.SearchI
import Derived.Test.YtafimpgfbgigeaaGreatDoorProg
import Derived.Test.YtafimpgfbgigeaaGreatDoorPh9
set_option linter.all false
namespace Go.Num
open Go.Lib
def nI (b:UInt8):Bool:=decide (48<=b.toNat)&&decide (b.toNat<=57)
def isNat (l:List UInt8):Bool:=(decide (l.length=1)||(decide (1<l.length)&&decide (l.getD 0 0≠48)))&&l.all nI
def bDz (a:Nat)(b:UInt8):Nat:=10*a+(b.toNat - 48)
def eI (a:Nat)(l:List UInt8):Nat:=l.foldl bDz a
theorem jR (a:Nat):eI a []=a:=rfl
theorem gG (a:Nat)(b:UInt8)(l:List UInt8):eI a (b::l)=eI (10*a+(b.toNat - 48)) l:=by unfold eI;rw[List.foldl_cons,bDz]
theorem pI (a:Nat)(l m:List UInt8):eI a (l++m)=eI (eI a l) m:=by unfold eI;rw[List.foldl_append]
theorem aHk (l:List UInt8):∀(a:Nat),a<=eI a l:=by
 induction l with
 | nil=>intro a;rw[jR];exact lRf _
 | cons b l ih=>intro a;rw[gG];have:=ih (10*a+(b.toNat - 48));omega
theorem aJm (l:List UInt8):∀(a:Nat),eI a l=a*10^l.length+eI 0 l:=by
 induction l with
 | nil=>intro a;simp[jR]
 | cons b l ih=>
  intro a;rw[gG,gG,ih (10*a+(b.toNat - 48)),ih (10*0+(b.toNat - 48)),List.length_cons,Nat.pow_succ];generalize 10^l.length=p,eI 0 l=q,b.toNat - 48=r;rw[Nat.add_mul,show 10*a*p=a*(p*10) by rw[Nat.mul_comm 10 a,Nat.mul_assoc,Nat.mul_comm 10],show 10*0+r=r by omega];omega
theorem aOp (l:List UInt8):l.all nI=true->eI 0 l<10^l.length:=by
 induction l with
 | nil=>intro _;simp[jR]
 | cons b l ih=>
  intro h;simp only[List.all_cons,Bool.and_eq_true]at h;have ih:=ih h.2;have hb:=h.1;simp only[nI,Bool.and_eq_true,decide_eq_true_eq]at hb;rw[gG,aJm,List.length_cons,Nat.pow_succ];obtain⟨r,hr⟩:∃r,b.toNat - 48=r:=⟨_,rfl⟩;rw[hr];have:(10*0+r)*10^l.length<=9*10^l.length:=Nat.mul_le_mul_right _ zW;omega
theorem uF {d:Nat}(h:d<10):(UInt8.ofNat (48+d)).toNat=48+d:=by
 rw[UInt8.toNat_ofNat'];omega
theorem aOq {d:Nat}(h:d<10):nI (UInt8.ofNat (48+d))=true:=by
 simp only[nI,uF h,Bool.and_eq_true,decide_eq_true_eq];omega
theorem bT {n:Nat}(h:n<10):decDigits n=[UInt8.ofNat (48+n)]:=by rw[decDigits,dif_pos h]
theorem eH {n:Nat}(h:¬n<10):decDigits n=decDigits (n/10)++[UInt8.ofNat (48+n%10)]:=by rw[decDigits,dif_neg h]
theorem aMb:decDigits 0=[48]:=by rw[bT zV];rfl
theorem aW0:decDigits 1=[49]:=by rw[bT zV];rfl
theorem dG (n:Nat):eI 0 (decDigits n)=n:=by
 induction n using Nat.strongRecOn with
 | _ n ih=>
  by_cases h:n<10
  ·rw[bT h,gG,jR,uF h];omega
  ·rw[eH h,pI,ih (n/10) zW,gG,jR,uF (show n%10<10 by omega)];omega
theorem pU {n m:Nat}(h:decDigits n=decDigits m):n=m:=by
 rw[<-dG n,h,dG]
theorem iG (n:Nat):(decDigits n).all nI=true:=by
 induction n using Nat.strongRecOn with
 | _ n ih=>
  by_cases h:n<10
  ·rw[bT h,List.all_cons,aOq h];rfl
  ·rw[eH h,List.all_append,ih (n/10) zW,List.all_cons,aOq (show n%10<10 by omega)];rfl
theorem gO (n:Nat):decDigits n≠[]:=by
 by_cases h:n<10
 ·rw[bT h];simp
 ·rw[eH h];simp
theorem aC0 {n:Nat}(h:n≠0):(decDigits n).getD 0 0≠48:=by
 induction n using Nat.strongRecOn with
 | _ n ih=>
  by_cases hn:n<10
  ·rw[bT hn];intro e;have:=congrArg UInt8.toNat e;simp only[List.getD_cons_zero,uF hn]at this;have h48:(48:UInt8).toNat=48:=rfl;omega
  ·rw[eH hn];have:=ih (n/10) zW zW;have hne:=gO (n/10);cases hl:decDigits (n/10)with
   | nil=>exact absurd hl hne
   | cons c t=>rw[hl]at this;simpa using this
theorem gZ (n:Nat):isNat (decDigits n)=true:=by
 simp only[isNat,iG,Bool.and_true,Bool.or_eq_true,decide_eq_true_eq,Bool.and_eq_true];have h:=gO n;have hp:0<(decDigits n).length:=List.length_pos_iff.2 h;by_cases h1:n<10
 ·left;rw[bT h1];rfl
 ·right
  refine⟨?_,aC0 zW⟩;rw[eH h1];have:=List.length_pos_iff.2 (gO (n/10));simp;omega
theorem aV0 {b:UInt8}(h:nI b=true):UInt8.ofNat (48+(b.toNat - 48))=b:=by
 simp only[nI,Bool.and_eq_true,decide_eq_true_eq]at h;apply UInt8.toNat_inj.1;rw[UInt8.toNat_ofNat'];omega
theorem lC:∀(n:Nat) (l:List UInt8),l.length=n->isNat l=true->decDigits (eI 0 l)=l
 | 0,l,hn,h=>by
  simp only[isNat,Bool.and_eq_true,Bool.or_eq_true,decide_eq_true_eq]at h;omega
 | n+1,l,hn,h=>by
  rcases List.eq_nil_or_concat l with e | ⟨t,b,e⟩
  ·subst e;simp at hn
  ·rw[List.concat_eq_append]at e;subst e;simp only[isNat,Bool.and_eq_true,Bool.or_eq_true,decide_eq_true_eq,List.all_append,List.all_cons,List.all_nil,Bool.and_true,List.length_append,List.length_singleton]at h;obtain⟨h1,h2,h3⟩:=h;have hb:=h3;simp only[nI,Bool.and_eq_true,decide_eq_true_eq]at hb;rw[pI,gG,jR];cases ht:t with
   | nil=>rw[jR,bT zW,Nat.mul_zero,Nat.zero_add,aV0 h3];rfl
   | cons c t'=>
    rw[<-ht];have hc:c≠48:=by
     rcases h1 with h1 | ⟨_,h1⟩
     ·rw[ht]at h1;simp at h1
     ·rw[ht]at h1;simpa using h1
    have hcd:nI c=true:=by rw[ht]at h2;simp only[List.all_cons,Bool.and_eq_true]at h2;exact h2.1
    have hc':=hcd
    simp only[nI,Bool.and_eq_true,decide_eq_true_eq]at hc';have bJf:c.toNat≠48:=λe=>hc (UInt8.toNat_inj.1 e);have ih:=lC n t (by simp at hn;omega) (by
     simp only[isNat,Bool.and_eq_true,Bool.or_eq_true,decide_eq_true_eq];refine⟨?_,h2⟩;rw[ht];by_cases hl:t'.length=0
     ·left;simp[hl]
     ·right;exact⟨by simp;omega,by simpa using hc⟩)
    have aAg:1<=eI 0 t:=by
     rw[ht,gG];have:=aHk t' (10*0+(c.toNat - 48));omega
    rw[eH zW];rw[show(10*eI 0 t+(b.toNat - 48))/10=eI 0 t by omega,show(10*eI 0 t+(b.toNat - 48))%10=b.toNat - 48 by omega,ih,aV0 h3]
def pad:Nat->Nat->List UInt8
 | 0,_=>[]
 | k+1,n=>pad k (n/10)++[UInt8.ofNat (48+n%10)]
theorem vE {a:Nat}(ha:0<a):∀(k b:Nat),b<10^k->decDigits (a*10^k+b)=decDigits a++pad k b
 | 0,b,hb=>by simp at hb;subst hb;simp[pad]
 | k+1,b,hb=>by
  rw[Nat.pow_succ]at hb |-;have hp:1<=10^k:=Nat.one_le_pow _ _ zV;have h1:1*10^k<=a*10^k:=Nat.mul_le_mul_right _ ha;rw[<-Nat.mul_assoc];rw[eH zW,show(a*10^k*10+b)/10=a*10^k+b/10 by omega,show(a*10^k*10+b)%10=b%10 by omega,vE ha k (b/10) zW,pad,List.append_assoc]
theorem aUu:∀(k b:Nat),b<10^(k+1)->pad (k+1) b=List.replicate (k+1 - (decDigits b).length) 48++decDigits b
 | 0,b,hb=>by
  have:b<10:=by simpa using hb
  rw[bT this];simp[pad,Nat.mod_eq_of_lt this]
 | k+1,b,hb=>by
  rw[Nat.pow_succ]at hb;rw[pad,aUu k (b/10) zW];by_cases h:b<10
  ·rw[show b/10=0 by omega,bT h,bT (zW:0<10),Nat.mod_eq_of_lt h];simp[List.replicate_succ']
  ·rw[eH h];simp[List.append_assoc]
def aJ (n:Nat):ByteArray:=⟨(decDigits n).toArray⟩
def aW (z:Int):ByteArray:=⟨(itoa z).toArray⟩
def aA (q:Rat):ByteArray:=if q.den=1 then aW q.num else(aW q.num++⟨#[47]⟩)++aJ q.den
theorem kQ {a b:ByteArray}(h:a.data.toList=b.data.toList):a=b:=by
 cases a;cases b;congr;exact Array.ext' h
theorem cZ (n:Nat):(aJ n).data.toList=decDigits n:=by simp[aJ]
theorem dF (z:Int):(aW z).data.toList=itoa z:=by simp[aW]
theorem gF (a b:ByteArray):(a++b).data.toList=a.data.toList++b.data.toList:=by
 rw[ByteArray.data_append,Array.toList_append]
theorem oC (q:Rat):(aA q).data.toList=if q.den=1 then itoa q.num else itoa q.num++47::decDigits q.den:=by
 unfold aA;split
 ·exact dF _
 ·rw[gF,gF,dF,cZ];simp
theorem aVx {n m:Nat}(h:aJ n=aJ m):n=m:=pU (by rw[<-cZ,h,cZ])
def rdN (l:List UInt8):Option Nat:=if isNat l then some (eI 0 l)else none
def yJ (l:List UInt8):Option Int:=match l with
 | 45::t=>if isNat t/\t≠[48]then some (-(eI 0 t:Int))else none
 | l=>if isNat l then some (eI 0 l:Int)else none
theorem aX0 (n:Nat):rdN (decDigits n)=some n:=by simp[rdN,gZ,dG]
theorem aD1 {l:List UInt8}{n:Nat}(h:rdN l=some n):l=decDigits n:=by
 unfold rdN at h;split at h
 ·rename_i h1;injection h with h;rw[<-h,lC _ l rfl h1]
 ·cases h
theorem aC1 (n:Nat):∃c t,decDigits n=c::t/\nI c=true:=by
 cases h:decDigits n with
 | nil=>exact absurd h (gO n)
 | cons c t=>exact⟨c,t,rfl,by have:=iG n;rw[h]at this;simp at this;exact this.1⟩
theorem aMt {c:UInt8}(h:nI c=true):c≠45/\c≠47:=by
 simp only[nI,Bool.and_eq_true,decide_eq_true_eq]at h;constructor<;>(intro e;subst e;revert h;decide)
theorem aB2 {l:List UInt8}(h:∀t,l≠45::t):yJ l=if isNat l then some (eI 0 l:Int)else none:=by
 unfold yJ;split
 ·rename_i t;exact absurd rfl (h t)
 ·rfl
theorem aJn (n:Nat)(t:List UInt8):decDigits n≠45::t:=by
 obtain⟨c,u,h1,h2⟩:=aC1 n;rw[h1];intro e;injection e with e1 e2;exact(aMt h2).1 e1
theorem qU (z:Int):yJ (itoa z)=some z:=by
 unfold itoa;split
 ·rename_i hz;simp only[yJ,gZ,dG,true_and];rw[if_pos]
  ·congr 1;omega
  ·intro e;rw[show([48]:List UInt8)=decDigits 0 from aMb.symm]at e;have:=pU e;omega
 ·rename_i hz;rw[aB2 (aJn _),if_pos (gZ _),dG];congr 1;omega
theorem yK {l:List UInt8}{z:Int}(h:yJ l=some z):l=itoa z:=by
 by_cases h45:∃t,l=45::t
 ·obtain⟨t,rfl⟩:=h45;simp only[yJ]at h;split at h
  ·rename_i h1;injection h with h
   have e:=lC _ t rfl h1.1
   have h0:eI 0 t≠0:=λe0=>h1.2 (by rw[<-e,e0,aMb])
   unfold itoa;rw[if_pos zW,<-h,Int.natAbs_neg,Int.natAbs_natCast,e]
  ·cases h
 ·rw[aB2 (λt e=>h45 ⟨t,e⟩)]at h;split at h
  ·rename_i h1;injection h with h
   unfold itoa;rw[if_neg zW,<-h,Int.toNat_natCast,lC _ l rfl h1]
  ·cases h
theorem aUh {a b:Int}(h:itoa a=itoa b):a=b:=by
 have:=qU a;rw[h,qU]at this;injection this with this;exact this.symm
def dI:List UInt8->List UInt8 × Option (List UInt8)
 | []=>([],none)
 | b::l=>if b=47 then([],some l)else((b::(dI l).1),(dI l).2)
theorem uD:∀{l:List UInt8},(dI l).2=none->(dI l).1=l
 | [],_=>rfl
 | b::l,h=>by
  unfold dI at h |-;split at h
  ·cases h
  ·rename_i hb;rw[if_neg hb];simp only at h |-;rw[uD h]
theorem uE:∀{l r:List UInt8},(dI l).2=some r->(dI l).1++47::r=l
 | [],r,h=>by cases h
 | b::l,r,h=>by
  unfold dI at h |-;split at h
  ·rename_i hb;rw[if_pos hb];simp only at h |-;injection h with h;rw[h,hb];rfl
  ·rename_i hb;rw[if_neg hb];simp only at h |-;rw[List.cons_append,uE h]
theorem aBr:∀{l:List UInt8},(∀b,b∈l->b≠47)->dI l=(l,none)
 | [],_=>rfl
 | b::l,h=>by unfold dI;rw[if_neg (h b (.head _)),aBr (λc hc=>h c (.tail _ hc))]
theorem aBq:∀{p r:List UInt8},(∀b,b∈p->b≠47)->dI (p++47::r)=(p,some r)
 | [],r,_=>by simp[dI]
 | b::p,r,h=>by rw[List.cons_append];unfold dI;rw[if_neg (h b (.head _)),aBq (λc hc=>h c (.tail _ hc))]
theorem uK (z:Int):∀b,b∈itoa z->b≠47:=by
 intro b hb;have key:∀n,b∈decDigits n->b≠47:=λn h=>(aMt (List.all_eq_true.1 (iG n) b h)).2;unfold itoa at hb;split at hb
 ·rcases List.mem_cons.1 hb with e | e
  ·rw[e];decide
  ·exact key _ e
 ·exact key _ hb
def sO (l:List UInt8):Option Rat:=match (dI l).2 with
 | none=>match yJ l with | some z=>some (Rat.ofInt z) | none=>none
 | some r=>match yJ (dI l).1,rdN r with
  | some z,some n=>if h:z≠0/\n≠0/\n≠1/\z.natAbs.gcd n=1 then some ⟨z,n,h.2.1,h.2.2.2⟩else none
  | _,_=>none
theorem dC (q:Rat):sO (aA q).data.toList=some q:=by
 rw[oC];split
 ·rename_i hd;have e:=aBr (uK q.num);unfold sO;rw[e];simp only[qU,Option.some.injEq];exact Rat.ext (p:=Rat.ofInt q.num) (q:=q) rfl hd.symm
 ·rename_i hd;have e:=aBq (r:=decDigits q.den) (uK q.num);unfold sO;rw[e];simp only[qU,aX0];have hr:q.num.natAbs.gcd q.den=1:=q.reduced;rw[dif_pos ⟨λh0=>hd (by rw[h0]at hr;simpa using hr),q.den_nz,hd,hr⟩]
theorem aU3 {l:List UInt8}{q:Rat}(h:sO l=some q):l=(aA q).data.toList:=by
 unfold sO at h;split at h
 ·rename_i hc;cases hz:yJ l with
  | none=>rw[hz]at h;cases h
  | some z=>
   rw[hz]at h;have h:Rat.ofInt z=q:=by injection h
   subst h;rw[oC,if_pos (show(Rat.ofInt z).den=1 from rfl)];exact yK hz
 ·rename_i r hc;split at h
  ·rename_i z n hz hn;split at h
   ·rename_i hh;injection h with h;subst h
    rw[oC,if_neg hh.2.2.1,<-yK hz,<-aD1 hn];exact(uE hc).symm
   ·cases h
  ·cases h
theorem aVz {a b:Rat}(h:aA a=aA b):a=b:=by
 have:=dC a;rw[h,dC]at this;injection this with this;exact this.symm
theorem qA {s:ByteArray}{q:Rat}(h:sO s.data.toList=some q):s=aA q:=kQ (aU3 h)
def dl (n:Nat):Nat:=(decDigits n).length
theorem aOr (n:Nat):dl n=nDigits n:=decDigits_length n
theorem aC3 (n:Nat):1<=dl n:=by rw[aOr];exact nDigits_pos n
theorem vJ (n:Nat):n<10^dl n:=by rw[aOr];exact lt_pow_nDigits n
theorem aQu:∀(n:Nat),10<=n->10^(nDigits n - 1)<=n:=by
 intro n;induction n using Nat.strongRecOn with
 | _ n ih=>
  intro h;rw[nDigits_big zW,Nat.add_sub_cancel];by_cases h':n/10<10
  ·rw[nDigits_small h'];omega
  ·have:=ih (n/10) zW zW
   have h1:=nDigits_pos (n/10)
   obtain⟨k,hk⟩:∃k,nDigits (n/10)=k+1:=⟨nDigits (n/10) - 1,zW⟩;rw[hk]at this |-;rw[Nat.add_sub_cancel]at this;rw[Nat.pow_succ];omega
theorem tE {n k:Nat}(hk:1<=k)(h:n<10^k):dl n<=k:=by
 rw[aOr];by_cases hn:n<10
 ·rw[nDigits_small hn];exact hk
 ·have h1:=aQu n zW
  apply Classical.byContradiction;intro hlt;have:10^k<=10^(nDigits n - 1):=Nat.pow_le_pow_right zV zW;omega
theorem uI {n m:Nat}(h:n<=m):dl n<=dl m:=tE (aC3 m) (Nat.lt_of_le_of_lt h (vJ m))
theorem rL (a b:Nat):dl (a*b)<=dl a+dl b:=by
 have ha:=aC3 a
 refine tE zW ?_;rw[Nat.pow_add];exact Nat.mul_lt_mul_of_lt_of_le (vJ a) (Nat.le_of_lt (vJ b)) (Nat.pow_pos zV)
theorem aS8 (a b:Nat):dl (a+b)<=max (dl a) (dl b)+1:=by
 refine tE zW ?_;have h1:=vJ a;have h2:=vJ b;have h3:10^dl a<=10^max (dl a) (dl b):=Nat.pow_le_pow_right zV (Nat.le_max_left _ _);have h4:10^dl b<=10^max (dl a) (dl b):=Nat.pow_le_pow_right zV (Nat.le_max_right _ _);rw[Nat.pow_succ];omega
theorem cX (n:Nat):(aC n).length<=dl n:=by
 refine bP ?_;have h1:(10:Nat)^dl n<=1000000000^dl n:=Nat.pow_le_pow_left zV _;exact Nat.lt_of_lt_of_le (vJ n) h1
theorem fS (n:Nat):(aJ n).size=dl n:=by simp[aJ,dl,ByteArray.size]
def sz (q:Rat):Nat:=max (dl q.num.natAbs) (dl q.den)
theorem bC5 (q:Rat):1<=sz q:=by have:=aC3 q.den;unfold sz;omega
theorem uM (q:Rat):q.num.natAbs<10^sz q:=Nat.lt_of_lt_of_le (vJ _) (Nat.pow_le_pow_right zV (Nat.le_max_left _ _))
theorem nX (q:Rat):q.den<10^sz q:=Nat.lt_of_lt_of_le (vJ _) (Nat.pow_le_pow_right zV (Nat.le_max_right _ _))
theorem aLe {p:Int}{q k:Nat}(hk:1<=k)(hp:p.natAbs<10^k)(hq:q<10^k):sz (mkRat p q)<=k:=by
 by_cases h0:q=0
 ·subst h0;rw[Rat.mkRat_zero];have h1:dl 0<=k:=tE hk zW;have h2:dl 1<=k:=tE hk (by
   obtain⟨j,rfl⟩:∃j,k=j+1:=⟨k - 1,zW⟩;have:=Nat.one_le_pow j 10 zV;rw[Nat.pow_succ];omega)
  exact Nat.max_le.2 ⟨h1,h2⟩
 ·obtain⟨d,d0,e1,e2⟩:=Rat.normalize_num_den' p q h0;rw[Rat.normalize_eq_mkRat]at e1 e2;have hd:1<=d:=Nat.pos_of_ne_zero d0;refine Nat.max_le.2 ⟨tE hk ?_,tE hk ?_⟩
  ·have:p.natAbs=(mkRat p q).num.natAbs*d:=by rw[congrArg Int.natAbs e1,Int.natAbs_mul,Int.natAbs_natCast]
   have h2:(mkRat p q).num.natAbs*1<=(mkRat p q).num.natAbs*d:=Nat.mul_le_mul_left _ hd
   omega
  ·have h2:(mkRat p q).den*1<=(mkRat p q).den*d:=Nat.mul_le_mul_left _ hd
   omega
theorem oN {a b j k:Nat}(ha:a<10^j)(hb:b<10^k):a*b<10^(j+k):=by
 rw[Nat.pow_add];exact Nat.mul_lt_mul_of_lt_of_le ha (Nat.le_of_lt hb) (Nat.pow_pos zV)
theorem aAr (a b:Rat):sz (a*b)<=sz a+sz b:=by
 rw[Rat.mul_def'];have h1:=bC5 a;refine aLe zW ?_ (oN (nX a) (nX b));rw[Int.natAbs_mul];exact oN (uM a) (uM b)
theorem aAq (a b:Rat):sz (a+b)<=sz a+sz b+1:=by
 rw[Rat.add_def'];have hd:=oN (nX a) (nX b);have h1:=oN (uM a) (nX b);have h2:=oN (nX a) (uM b);refine aLe zW ?_ ?_
 ·have h3:=Int.natAbs_add_le (a.num*b.den) (b.num*a.den)
  rw[Int.natAbs_mul,Int.natAbs_mul,Int.natAbs_natCast,Int.natAbs_natCast,Nat.mul_comm b.num.natAbs]at h3;rw[Nat.pow_succ];omega
 ·rw[Nat.pow_succ];omega
theorem qB (a:Rat):sz (-a)=sz a:=by unfold sz;simp
theorem aEe (a b:Rat):sz (a - b)<=sz a+sz b+1:=by
 rw[Rat.sub_eq_add_neg];have:=aAq a (-b);rw[qB]at this;exact this
theorem aNo (a:Rat):sz a⁻¹<=sz a:=by
 unfold sz;rw[Rat.num_inv,Rat.den_inv];by_cases h:a.num=0
 ·rw[if_pos h,h];simp;have h1:dl 0=1:=by unfold dl;rw[bT zV];rfl
  have h2:dl 1=1:=by unfold dl;rw[bT zV];rfl
  have:=aC3 a.den
  omega
 ·rw[if_neg h,Int.natAbs_mul,Int.natAbs_natCast,Int.natAbs_sign_of_ne_zero h,Nat.one_mul,Nat.max_comm];exact lRf _
theorem kF (a b:Rat):sz (a/b)<=sz a+sz b:=by
 rw[Rat.div_def];have h1:=aAr a b⁻¹;have h2:=aNo b;omega
theorem aA9 (z:Int):(itoa z).length<=dl z.natAbs+1:=by
 unfold itoa;split
 ·simp[dl]
 ·rename_i h;rw[show z.toNat=z.natAbs by omega];unfold dl;omega
theorem mE (z:Int):(aW z).size<=dl z.natAbs+1:=by
 have:=aA9 z;simpa[aW,ByteArray.size]using this
theorem gS (q:Rat):sz q<=(aA q).size:=by
 have h1:(aA q).size=(aA q).data.toList.length:=rfl
 rw[h1,oC];have h2:dl q.num.natAbs<=(itoa q.num).length:=by
  unfold itoa dl;split
  ·simp
  ·rename_i h;rw[show q.num.toNat=q.num.natAbs by omega];omega
 have h3:=aC3 q.num.natAbs
 unfold sz;split
 ·rename_i h;rw[h,show dl 1=1 by unfold dl;rw[bT zV];rfl];omega
 ·rw[List.length_append,List.length_cons];unfold dl at *;omega
end Go.Num
namespace Go.Ai
open Go Go.Proofs Go.Num
theorem sS:aB PP 225:=zK
theorem aPs (s:ByteArray):s.toList=s.data.toList:=by
 have key:∀(n i:Nat) (r:List UInt8),s.size - i=n->ByteArray.toList.loop s i r=r.reverse++s.data.toList.drop i:=by
  intro n;induction n with
  | zero=>
   intro i r h;rw[ByteArray.toList.loop];have hs:s.data.toList.length=s.size:=rfl;rw[if_neg zW,List.drop_of_length_le zW];simp
  | succ n ih=>
   intro i r h;rw[ByteArray.toList.loop];have hs:s.data.toList.length=s.size:=rfl;have hi:i<s.size:=zW;rw[if_pos hi,ih (i+1) _ zW];have hg:s.get! i=s.data.toList[i]'zW:=by
    cases s with
    | mk d=>
     show d[i]! =_
     have:i<d.size:=hi
     simp[getElem!_pos d i this]
   rw[hg,List.reverse_cons,List.append_assoc,List.drop_eq_getElem_cons (zW:i<s.data.toList.length)];rfl
 have:=key s.size 0 [] zW
 simpa[ByteArray.toList]using this
theorem aB7 {a b:SE}:(BE.seq a b).den=(a.den.data.toList==b.den.data.toList):=by
 simp only[BE.den,aPs]
theorem BE.seq_t {a b:SE}(h:(BE.seq a b).den=true):a.den.data.toList=b.den.data.toList:=by rw[aB7]at h;simpa using h
theorem BE.seq_f {a b:SE}(h:(BE.seq a b).den=false):a.den.data.toList≠b.den.data.toList:=by rw[aB7]at h;simpa using h
theorem kS {s:ByteArray}{i:IE}{k:Nat}(hi:i.den.toNat=k):(IE.byte (.v s) i).den=((s.data.toList.getD k 0).toNat:Int):=by
 show((s.data.toList.getD i.den.toNat 0).toNat:Int)=_
 rw[hi]
theorem aZq {b:UInt8}:(b.toNat:Int)=48↔b=48:=by
 constructor
 ·intro h;apply UInt8.toNat_inj.1;show b.toNat=48
  omega
 ·intro h;subst h;rfl
theorem aMw {s:ByteArray}{l:List UInt8}(hl:l=s.data.toList)(m:Nat):(BE.lt (.l m) (.len (.v s))).den=decide (m<l.length):=by
 show decide ((m:Int)<((s.size:Nat):Int))=_
 have:l.length=s.size:=by rw[hl];rfl
 exact decide_eq_decide.2 zW
theorem aN3 {s:ByteArray}{l:List UInt8}(hl:l=s.data.toList){i:IE}{k:Nat}(hi:i.den.toNat=k)(m:Nat):(BE.lt (.byte (.v s) i) (.l m)).den=decide ((l.getD k 0).toNat<m):=by
 show decide ((IE.byte (.v s) i).den<(m:Int))=_
 rw[kS hi,<-hl];exact decide_eq_decide.2 zW
theorem aO3 {s:ByteArray}{l:List UInt8}(hl:l=s.data.toList){i:IE}{k:Nat}(hi:i.den.toNat=k)(m:Nat):(BE.lt (.l m) (.byte (.v s) i)).den=decide (m<(l.getD k 0).toNat):=by
 show decide ((m:Int)<(IE.byte (.v s) i).den)=_
 rw[kS hi,<-hl];exact decide_eq_decide.2 zW
theorem wE {l:List UInt8}{k:Nat}:nI (l.getD k 0)=true↔48<=(l.getD k 0).toNat/\(l.getD k 0).toNat<=57:=by
 simp[nI]
theorem aIn {l:List UInt8}{k:Nat}(hk:k<l.length)(h:(l.take k).all nI=true)(hd:nI (l.getD k 0)=true):(l.take (k+1)).all nI=true:=by
 have hg:l.getD k 0=l[k]:=by simp[hk]
 rw[hg]at hd;rw[List.take_succ_eq_append_getElem hk,List.all_append,h];simp[hd]
theorem aNw {l:List UInt8}{k:Nat}(hk:k<l.length)(hd:¬nI (l.getD k 0)=true):isNat l=false:=by
 have hg:l.getD k 0=l[k]:=by simp[hk]
 rw[hg]at hd;have:l.all nI=false:=by
  rw[Bool.eq_false_iff];intro h;exact hd (List.all_eq_true.1 h _ (List.getElem_mem hk))
 simp[isNat,this]
theorem aMu {l:List UInt8}(h:1<l.length/\l.getD 0 0=48):isNat l=false:=by
 have h1:¬l.length=1:=zW
 simp only[isNat,h1,decide_false,h.1,decide_true,Bool.true_and,Bool.false_or,h.2,ne_eq,not_true_eq_false,Bool.false_and]
theorem aMv {l:List UInt8}(h0:l≠[])(h:¬(1<l.length/\l.getD 0 0=48))(hd:(l.take l.length).all nI=true):isNat l=true:=by
 have hp:=List.length_pos_iff.2 h0
 rw[List.take_of_length_le (lRf _)]at hd;simp only[isNat,hd,Bool.and_true,Bool.or_eq_true,decide_eq_true_eq,Bool.and_eq_true];by_cases h1:l.length=1
 ·exact .inl h1
 ·exact .inr ⟨zW,λe=>h ⟨zW,e⟩⟩
theorem aM0 (s:ByteArray)(hs:s.size<=2^60):Pure PP 225 [.string s] (.bool (isNat s.data.toList)):=by
 obtain⟨res,nG⟩:=nm (isNat s.data.toList);obtain⟨l,hl⟩:=nm (s.data.toList);rw[<-nG];rw[<-hl]at nG;have hlen:l.length=s.size:=by rw[hl];rfl
 obtain⟨n,hn⟩:=nm (l.length);have hsz:(IE.len (.v s)).den=(IE.n n).den:=by show((s.size:Nat):Int)=_;rw[hn,hlen];rfl
 refine zF [.s (.v s)] Tryz.func225 λc hc hR=>?_;cbv;by_cases h0:l=[]
 ·refine cG 6 rfl rfl 100 (λh=>?_) (λh=>?_)
  ·have hf:res=false:=by rw[nG,h0];rfl
   subst hf;cbv;exact bR hc hR (av:=.b (.l false)) rfl rfl
  ·exact absurd h0 (by have:=BE.seq_f h;rw[hl];exact this)
 ·refine cG 6 rfl rfl 100 (λh=>?_) (λh=>?_)
  ·exact absurd (BE.seq_t h) (by rw[<-show l=(SE.v s).den.data.toList from hl];exact h0)
  have hp:=List.length_pos_iff.2 h0
  have o1:(Obl.ltE (.l 0) (.len (.v s))).ok:=by show _/\_;rw[hsz];simp only[IE.den];omega
  have e48:(BE.eq (.byte (.v s) (.l 0)) (.l 48)).den=decide (l.getD 0 0=48):=by
   simp only[BE.den];exact decide_eq_decide.2 (by rw[kS (k:=0) rfl,<-hl];exact aZq)
  have l1:=aMw hl 1
  by_cases hh:1<l.length/\l.getD 0 0=48
  ·have hf:res=false:=by rw[nG];exact aMu hh
   subst hf;cbv;refine cG 10 rfl rfl 100 (λh2=>?_) (λh2=>?_)
   ·cbv;refine zO ?_;refine aE rfl 100 (λh=>?_) (λh=>?_)
    ·cbv;exact bR hc hR (av:=.b (.l false)) rfl rfl
    ·rw[e48]at h;exact absurd hh.2 (of_decide_eq_false h)
   ·have h2:=l1.symm.trans h2;exact absurd hh.1 (of_decide_eq_false h2)
  ·apply aS6 (c:=c) (K:=[]) (S':=⟨[(17,.i .i64 (.n n)),(18,.i .i64 (.n 0)),(0,.s (.v s))],[],[]⟩) (λgen=>?_)
   rotate_left 2
   ·cbv;refine cG 10 rfl rfl 100 (λh2=>?_) (λh2=>?_)
    ·have h2:=l1.symm.trans h2
     cbv;refine zO ?_;refine aE rfl 100 (λh=>?_) (λh=>?_)
     ·rw[e48]at h;exact absurd ⟨of_decide_eq_true h2,of_decide_eq_true h⟩ hh
     ·cbv;exact zU 0 (S':=⟨[(17,.i .i64 (.n n)),(18,.i .i64 (.n 0)),(0,.s (.v s))],[],[]⟩) (K':=[]) ⟨zI rfl rfl hsz,zL⟩ trivial trivial gen
    ·cbv;exact zU 0 (S':=⟨[(17,.i .i64 (.n n)),(18,.i .i64 (.n 0)),(0,.s (.v s))],[],[]⟩) (K':=[]) ⟨zI rfl rfl hsz,zL⟩ trivial trivial gen
   ·let ι:={k:Nat//k<=n/\(l.take k).all nI=true}
    let I:ι->St:=λx=>⟨[(17,.i .i64 (.n n)),(18,.i .i64 (.n x.1)),(0,.s (.v s))],[],[]⟩
    let x0:ι:=⟨0,Nat.zero_le _,rfl⟩
    refine bW hc I (λx=>n - x.1) x0 100 ?_;rintro p ⟨k,hk,cI⟩ hy;cbv;refine aE rfl 100 (λh=>?_) (λh=>?_)
    ·have hkn:k<n:=BE.ltn_t h
     obtain⟨k',hk'⟩:=nm (k+1);have o2:(Obl.ltE (.n k) (.len (.v s))).ok:=by show _/\_;rw[hsz];simp only[IE.den];omega
     have o3:(Obl.inR .i64 (.add (.n k) (.l 1))).ok:=by show lo _<=_/\_<=hi _;simp only[lo,hi,IE.den];omega
     have ek:(IE.byte (.v s) (.n k)).den=((l.getD k 0).toNat:Int):=by rw[hl];exact kS (by simp[IE.den])
     have hi1:((IE.n k).add (IE.l 1)).den=(IE.n k').den:=by simp only[IE.den,hk'];omega
     have aTw:k'<=n:=zW
     have hms:n - k'<n - k:=zW
     have hkl:k<l.length:=zW
     have hno:¬nI (l.getD k 0)=true->res=false:=λh=>by rw[nG];exact aNw hkl h
     have bB1:nI (l.getD k 0)=true->(l.take k').all nI=true:=λh=>by rw[hk'];exact aIn hkl cI h
     have hlt:=aN3 hl (i:=.n k) (k:=k) (by simp[IE.den]) 48
     have hgt:=aO3 hl (i:=.n k) (k:=k) (by simp[IE.den]) 57
     cbv;refine zO ?_;refine cG 25 rfl rfl 100 (λh=>?_) (λh=>?_)
     ·have h:=of_decide_eq_true (hlt.symm.trans h)
      have hf:=hno (λhd=>by have:=wE.1 hd;omega)
      subst hf;cbv;exact bR hc hR (av:=.b (.l false)) rfl rfl
     ·have h:=of_decide_eq_false (hlt.symm.trans h)
      cbv;refine zO ?_;refine aE rfl 100 (λh2=>?_) (λh2=>?_)
      ·have h2:=of_decide_eq_true (hgt.symm.trans h2)
       have hf:=hno (λhd=>by have:=wE.1 hd;omega)
       subst hf;cbv;exact bR hc hR (av:=.b (.l false)) rfl rfl
      ·have h2:=of_decide_eq_false (hgt.symm.trans h2)
       have hd:=bB1 (wE.2 ⟨zW,zW⟩)
       cbv;refine zO ?_;exact zU 0 (S':=I ⟨k',aTw,hd⟩) (K':=[]) ⟨zS,zI rfl rfl hi1,zL⟩ trivial trivial (hy _ hms)
    ·have hkn:n<=k:=BE.ltn_f h
     have hkl:k=l.length:=zW
     have hf:res=true:=by rw[nG];exact aMv h0 hh (by rw[<-hkl];exact cI)
     subst hf;cbv;exact bR hc hR (av:=.b (.l true)) rfl rfl
end Go.Ai
namespace Go.Ai
open Go
section
variable {c:Cx}{P:Program}{ty:Nat->Option TyI}{nt:Nat}{K:List KF}{S:St}
theorem tT {ks:List KI}{e:Nat}{kd:IntKind}{G:Option Addr->Nat->Nat->List Int->OF}(hG:∀a n cap l,G a n cap l=OF.row (.slice a n cap) c.B.heap.size e kd l)(hp:okc ks=true)
  (h:Goal c K ⟨ks,{S with ow:=G none 0 0 []::S.ow},[]⟩):Goal c K ⟨ks,S,[]⟩:=by
 rw[hG]at h;refine pN hp (λX μ a w H=>?_) h rfl;have P:=H.toP;refine⟨X,μ,⟨P.dfr,P.size,P.slots,P.heap,P.all,P.inj,P.loc,P.xlt,P.xnew,P.xold,P.bel,P.kf,?_⟩,H.dom⟩;refine⟨λf hf=>?_,List.Pairwise.cons (λg hg b hb=>?_) P.own.apart⟩
 ·rcases List.mem_cons.1 hf with e | e
  ·subst e;exact⟨World.ownsRow_nil _ _ _ _,λb hb=>by cases hb⟩
  ·exact P.own.at_ f e
 ·cases hb
theorem aAm {ks:List KI}(d:Nat){av:AV}(R:VF)(hp:jT ks=true)(hl:look S.sl d=some av)(hr:∀X μ a w v,Sim c K S X μ a w->aD μ av=some v->R.p v X w)
  (h:∀v,Goal c (KF.cst v R::K) ⟨ks,{S with sl:=(d,.q v)::S.sl},[]⟩):Goal c K ⟨ks,S,[]⟩:=by
 refine jD (ι:=Value) (K':=λv=>KF.cst v R::K) (S':=λv=>{S with sl:=(d,.q v)::S.sl}) (p:=λ_=>True) hp (λX μ a w H=>?_) (λv _=>h v);obtain⟨v,h1,h2⟩:=H.toP.slots d av trivial hl;exact⟨v,X,μ,trivial,tU (S:={S with sl:=(d,.q v)::S.sl}) (f:=KF.cst v R) (jW H hl (by rw[h1];rfl)) (hr X μ a w v H h1)⟩
theorem aNz {X:Nat->Prop}{μ:Mu}{a:Act}{w:World}{F:VF}{R:RV}{k j:Nat}{N:VF}{v:Value}(H:Sim c K S X μ a w)(m:KF.at k F∈K)(hF:F=lR R)(h:R.cells[j]?=some (.x N))(hv:aD μ (.ec k j)=some v):N.p v X w:=
 ((bM.ec m hF h).ok H.toP.kf hv).2
theorem aPl (hc:Ctx c P ty nt){ι:Type}(I:ι->St)(KK:ι->List KF)(m:ι->Nat)(x0:ι){b:Code}{k:List KI}
  (h:∀(p:Act->World->Prop) x,(∀y,m y<m x->Goal c (KK y) ⟨.hole p::k,I y,[]⟩)->Goal c (KK x) ⟨.code b::.hole p::k,I x,[]⟩):Goal c (KK x0) ⟨.code (.loop b)::k,I x0,[]⟩:=
 .mk0 (aEb I KK m (λp x hy=>(h p x (λy hlt=>.mk0 (hy y hlt))).so) x0)
theorem aV (n:Nat){b:Code}{k:List KI}
  (h:∀p:Nat->Act->World->Prop,(∀m K' S',Goal c K' ⟨.code b::.hole (p m)::k,S',[]⟩->Goal c K' ⟨.hole (p (m+1))::k,S',[]⟩)->Goal c K ⟨.hole (p n)::k,S,[]⟩):Goal c K ⟨.code (.loop b)::k,S,[]⟩:=by
 have h1:=h (λm=>Code.roundsIn c.F 0 c.P b (aO c.F c.P c.R k) m) (λm K' S' g=>.mk0 (λX μ a w H=>by
  have:=g.so X μ a w H
  simp only[aO]at this |-;rw[roundsIn_succ];exact wpIn_mono this λe a w hq=>by cases e<;>simpa[aO,Exit.then]using hq))
 refine .mk0 (λX μ a w H=>?_);have:=h1.so X μ a w H;simp only[aO]at this |-;exact wpIn_loop_rounds n this
def KF.fr (l:List (Nat × AV))(tm:Array Value):KF:=
 ⟨λ_ μ _=>∀t av,look l t=some av->∃v,aD μ av=some v/\tm[t]?=some v,λ_ _ _ _ _ _ _ hv _ h t av hl=>by
  obtain⟨v,h1,h2⟩:=h t av hl;exact⟨v,aJl hv _ _ h1,h2⟩⟩
theorem aDr:∀{l:List (Nat × AV)} {t:Nat} {av:AV},look l t=some av->∃x∈l,x.2=av
 | (j,a)::l,t,av,h=>by
  simp only[look]at h;split at h
  ·injection h with h;exact⟨_,.head _,h⟩
  ·obtain⟨x,h1,h2⟩:=aDr h;exact⟨x,.tail _ h1,h2⟩
theorem KFr.fr {n:Nat}{l:List (Nat × AV)}(h:l.all (λx=>x.2.lt n)=true)(tm:Array Value):KFr n (KF.fr l tm):=⟨λX μ w hp t av hl=>by
 obtain⟨v,h1,h2⟩:=hp t av hl;obtain⟨x,hx,rfl⟩:=aDr hl;exact⟨v,by rw[aCy _ (List.all_eq_true.1 h x hx)];exact h1,h2⟩⟩
structure Link (c c':Cx)(fn:Func)(all:Array Oper)(i:Nat)(k:List KI)(tm:Array Value):Prop where
 out:∃(o:Oper) (a:Act),all[i]?=some o/\a.tmps=tm/\a.defers=c.df/\tm.size=c.nt/\cM c.nt o.dst=true/\c'.df=[]/\c'.R=aFq c.P fn (λv w'=>aO c.F c.P c.R (.ops all (i+1)::k) .normal (a.put o.dst v) w')
 B:c'.B=c.B
 X0:c'.X0=c.X0
 P:c'.P=c.P
 ty:c'.ty=c.ty
theorem cO (hc:Ctx c P ty nt){g:Nat}{fn:Func}{code:Code}{avs:List AV}{all:Array Oper}{i:Nat}{k:List KI}(hf:P.funcs[g]?=some fn)(hg:aB P g){nt':Nat}
  (h:∀c' tm FR,FR=KF.fr S.sl tm->Ctx c' P ty nt'->Link c c' fn all i k tm->Goal c' (FR::K) ⟨[.code code],⟨oY 0 avs,S.hp,S.ow⟩,[]⟩)(hb:fn.body=some code:=by exact rfl)(hn:Nat.ble avs.length fn.ntmps=true:=by exact rfl)(hnt:fn.ntmps=nt':=by exact rfl):Goal c K ⟨.cal g avs all i::k,S,[]⟩:=by
 subst hnt;refine .mk0 ?_;rintro ⟨o,ho,aA3,hd,hgd⟩ X μ a w H;have P':=H.toP;have hlt:i<all.size:=(Array.getElem?_eq_some_iff.1 ho).1;simp only[aO];rw[gP hlt];simp only[wpOpsIn,ho];rw[if_pos (cH P' hgd (λ_ _=>trivial))];obtain⟨aK,h1,h2⟩:=sZ P' aA3 (λ_ _=>trivial) (hc.hP▸hg);have hlen:=bC h1;have hn:=lbl hn;let RR:Value->World->Prop:=λv w'=>aO c.F c.P c.R (.ops all (i+1)::k) .normal (a.put o.dst v) w';let c':Cx:=⟨c.P,c.ty,c.tok,fn.ntmps,c.B,c.X0,c.gB,aFq c.P fn RR,none,[]⟩;have hL:Link c c' fn all i k a.tmps:=⟨⟨o,a,ho,rfl,P'.dfr,P'.size,hd,rfl,rfl⟩,rfl,rfl,rfl,rfl⟩;have G:=(h c' a.tmps _ rfl ⟨hc.hP,hc.hty,rfl,hc.hm⟩ hL).so X μ {tmps:=aK.toArray++Array.replicate (fn.ntmps - aK.length) undef,defers:=[]} w
  ⟨⟨rfl,by show(aK.toArray++Array.replicate (fn.ntmps - aK.length) undef).size=fn.ntmps;simp;omega,?_,P'.heap,P'.all,P'.inj,P'.loc,P'.xlt,P'.xnew,P'.xold,P'.bel,λf hf=>?_,P'.own⟩,H.dom⟩
 ·refine qY h2 (Calls.mono (calls_of_wp (hc.hP▸hf) hb (R:=λe w''=>∃v,e=.returned v/\RR v w'') ((wpIn_wide (n:=0)).1 ?_)) (λe w'' he=>he));have hsz:aK.toArray.size=aK.length:=zA;rw[hsz];refine wpIn_mono G λe a' w' hq=>?_;cases e<;>simp only[aO]at hq
  ·obtain⟨q1,v,q2,q3⟩:=hq;exact⟨q1,v,q2,by simpa[aO,RR]using q3⟩
  ·obtain⟨q1,v,q2,q3⟩:=hq;exact⟨q1,v,q2,by simpa[aO,RR]using q3⟩
 ·intro t av _ hl;obtain⟨_,e1⟩:=nZ _ _ _ _ hl;obtain⟨v,e2,e3⟩:=iF h1 t av (by simpa using e1);refine⟨v,e3,?_⟩;have hlt:=(List.getElem?_eq_some_iff.1 e2).1;simp only[Array.getElem?_append,List.size_toArray];rw[if_pos hlt];simpa using e2
 ·rcases List.mem_cons.1 hf with e | e
  ·subst e;exact λt av hl=>P'.slots t av trivial hl
  ·exact P'.kf f e
theorem cY {c':Cx}{K':List KF}{nt':Nat}(hc':Ctx c' P ty nt'){fn:Func}{all:Array Oper}{i:Nat}{k:List KI}{tm:Array Value}(L:Link c c' fn all i k tm){l:List (Nat × AV)}{FR:KF}(hFR:FR=KF.fr l tm)(hm:FR∈K'){S:St}{av:AV}
   (aOw:Goal c K' ⟨.ops all (i+1)::k,⟨match eX all i with | some d=>(d,av)::l | none=>l,S.hp,S.ow⟩,[]⟩)(h:nC ty S fn.results.toList=some av:=by exact rfl):Goal c' K' ⟨[],S,[]⟩:=by
 obtain⟨o,a,ho,ha,hdf,hsz,hd,bG9,hR⟩:=L.out;refine .mk0 (λX μ a' w H=>?_);have P':=H.toP;simp only[aO];rw[hR];obtain⟨v,e1,e2⟩:=aB3 H (av:=av) (by rw[hc'.hty];exact h);rw[L.P]at e2;refine⟨P'.dfr.trans bG9,v,e2,?_⟩;have hdo:eX all i=o.dst:=by simp[eX,ho]
 rw[hdo]at aOw;have hfr:∀t av,look l t=some av->∃v,aD μ av=some v/\tm[t]?=some v:=by have:=P'.kf FR hm;rw[hFR]at this;exact this
 refine aOw.so X μ (a.put o.dst v) w ⟨⟨by rw[put_defers];exact hdf,by rw[yH,ha];exact hsz,?_,P'.heap,P'.all,P'.inj,?_,P'.xlt,?_,?_,?_,P'.kf,?_⟩,H.dom⟩
 ·intro t b _ hl;cases hdd:o.dst with
  | none=>
   rw[hdd]at hl;obtain⟨u,h1,h2⟩:=hfr t b hl;exact⟨u,h1,by rw[<-ha]at h2;exact h2⟩
  | some d=>
   rw[hdd]at hl hd;simp only at hl;have hdn:d<a.tmps.size:=by simp only[cM,decide_eq_true_eq]at hd;rw[ha,hsz];exact hd
   by_cases ht:d=t
   ·subst ht;rw[bK]at hl;injection hl with hl;subst hl
    exact⟨v,e1,nK hdn⟩
   ·rw[bE ht]at hl;obtain⟨u,h1,h2⟩:=hfr t b hl;exact⟨u,h1,by rw[oQ (by simpa using ht),ha];exact h2⟩
 ·intro k' b hk;have:=P'.loc k' b hk;rw[L.B]at this;exact this
 ·intro b hb;have:=P'.xnew b hb;rw[L.B,L.X0]at this;exact this
 ·intro b hb;exact P'.xold b (by rw[L.X0];exact hb)
 ·have:=P'.bel;rw[L.B]at this;exact this
 ·have:=P'.own;rw[L.B]at this;exact this
end
end Go.Ai
namespace Go.Proofs
open Go.Shelf
def Tryz.lays169_ren:Go.Shelf.Ren:=⟨fun | 169=>304 | n=>n,fun | 70=>335 | 9=>9 | 0=>0 | 72=>337 | 37=>210 | 127=>363 | 3=>3 | 5=>5 | n=>n,fun | n=>n⟩
theorem Tryz.lays169:Go.Proofs.Lays.n169 Tryz.prog Tryz.lays169_ren:={
 mixed:=zG
 f169:=Tryz.func304.trans (congrArg some zG)
 t0:=Tryz.underlying0
 a0:=Tryz.isAgg0
 z0:=Tryz.sizeOf0
 v0:=Tryz.zeroValue0
 t3:=Tryz.underlying3
 a3:=Tryz.isAgg3
 z3:=Tryz.sizeOf3
 v3:=Tryz.zeroValue3
 t9:=Tryz.underlying9
 a9:=Tryz.isAgg9
 z9:=Tryz.sizeOf9
 v9:=Tryz.zeroValue9
 t37:=Tryz.underlying210
 a37:=Tryz.isAgg210
 z37:=Tryz.sizeOf210
 v37:=Tryz.zeroValue210
 t70:=Tryz.underlying335
 a70:=Tryz.isAgg335
 z70:=Tryz.sizeOf335
 v70:=Tryz.zeroValue335
 t72:=Tryz.underlying337
 a72:=Tryz.isAgg337
 z72:=Tryz.sizeOf337
 v72:=Tryz.zeroValue337
 t127:=Tryz.underlying363
 a127:=Tryz.isAgg363
 z127:=Tryz.sizeOf363
 v127:=Tryz.zeroValue363}
theorem Tryz.Builder_Extra_169:Builder.Extra Tryz.prog Tryz.lays169_ren:={
 sizeBuilder:=zG
 liesBuilder:=zG
 t5:=Tryz.underlying5
 a5:=Tryz.isAgg5
 z5:=Tryz.sizeOf5
 v5:=Tryz.zeroValue5
 infoByte:=zG
 cellsByte:=zG
 sizeByte:=zG
 neB5:=by decide}
def Tryz.lays103_ren:Go.Shelf.Ren:=⟨fun | 103=>265 | 210=>278 | 206=>296 | n=>n,fun | 9=>9 | 4=>4 | 24=>301 | 3=>3 | n=>n,fun | n=>n⟩
theorem Tryz.lays103:Go.Proofs.Lays.n103 Tryz.prog Tryz.lays103_ren:={
 mixed:=zG
 f103:=Tryz.func265.trans (congrArg some zG)
 f206:=Tryz.func296.trans (congrArg some zG)
 f210:=Tryz.func278.trans (congrArg some zG)
 t3:=Tryz.underlying3
 a3:=Tryz.isAgg3
 z3:=Tryz.sizeOf3
 v3:=Tryz.zeroValue3
 t4:=Tryz.underlying4
 a4:=Tryz.isAgg4
 z4:=Tryz.sizeOf4
 v4:=Tryz.zeroValue4
 t9:=Tryz.underlying9
 a9:=Tryz.isAgg9
 z9:=Tryz.sizeOf9
 v9:=Tryz.zeroValue9
 t24:=Tryz.underlying301
 a24:=Tryz.isAgg301
 z24:=Tryz.sizeOf301
 v24:=Tryz.zeroValue301}
open Go.RowKit in
theorem Tryz.strings_CutPrefix (s p:ByteArray)(w:World):
  Calls Tryz.prog 265 #[.string s,.string p] w λe w'=>e=.returned (.tuple #[.string ⟨(Lib.trimPrefix s.data.toList p.data.toList).toArray⟩,.bool (Lib.hasPrefix s.data.toList p.data.toList)])/\w'=w:=Any.strings_CutPrefix Tryz.lays103 s p w
open Go.RowKit in
theorem Tryz.Builder_String_any_k (B b:Nat)(l:List UInt8)(w:World)(h:Lib.IsBuilderF 337 5 B b (Lib.byteCells l) w)(hBw:B<=w.heap.size):
  Calls Tryz.prog 304 #[.pointer (some ⟨b,0,none⟩)] w λe w'=>e=.returned (.string ⟨l.toArray⟩)/\(Lib.IsBuilderF 337 5 B b (Lib.byteCells l) w'/\Below B w w'/\Lib.OthersKept 5 (some b) w w'):=Any.Builder_String_any_k Tryz.lays169 Tryz.Builder_Extra_169 B b l w h hBw
def Tryz.lays283_ren:Go.Shelf.Ren:=⟨fun | 283=>314 | n=>n,fun | 3=>3 | 9=>9 | 4=>4 | n=>n,fun | n=>n⟩
theorem Tryz.lays283:Go.Proofs.Lays.n283 Tryz.prog Tryz.lays283_ren:={
 mixed:=zG
 f283:=Tryz.func314.trans (congrArg some zG)
 t3:=Tryz.underlying3
 a3:=Tryz.isAgg3
 z3:=Tryz.sizeOf3
 v3:=Tryz.zeroValue3
 t4:=Tryz.underlying4
 a4:=Tryz.isAgg4
 z4:=Tryz.sizeOf4
 v4:=Tryz.zeroValue4
 t9:=Tryz.underlying9
 a9:=Tryz.isAgg9
 z9:=Tryz.sizeOf9
 v9:=Tryz.zeroValue9}
open Go.Lib in
theorem Tryz.internal_strconv_small (i:Nat)(h:i<100)(w:World):
  Calls Tryz.prog 314 #[.int .i64 i] w λe w'=>e=.returned (.string ⟨(Lib.decDigits i).toArray⟩)/\w'=w:=Any.internal_strconv_small Tryz.lays283 i h w
def Tryz.laysM284_ren:Go.Shelf.Ren:=⟨fun | 284=>315 | 129=>333 | 317=>332 | 318=>334 | n=>n,fun | 53=>203 | 3=>3 | 212=>371 | 0=>0 | 4=>4 | 46=>318 | 5=>5 | 9=>9 | n=>n,fun | 17=>3 | n=>n⟩
theorem Tryz.laysM284:Go.Proofs.LaysM.n284 Tryz.prog Tryz.laysM284_ren:={
 mixed:=zG
 f129:=Tryz.func333.trans (congrArg some zG)
 f284:=Tryz.func315.trans (congrArg some zG)
 f317:=Tryz.func332.trans (congrArg some zG)
 f318:=Tryz.func334.trans (congrArg some zG)
 t0:=Tryz.underlying0
 a0:=Tryz.isAgg0
 z0:=Tryz.sizeOf0
 v0:=Tryz.zeroValue0
 t3:=Tryz.underlying3
 a3:=Tryz.isAgg3
 z3:=Tryz.sizeOf3
 v3:=Tryz.zeroValue3
 t4:=Tryz.underlying4
 a4:=Tryz.isAgg4
 z4:=Tryz.sizeOf4
 v4:=Tryz.zeroValue4
 t5:=Tryz.underlying5
 a5:=Tryz.isAgg5
 z5:=Tryz.sizeOf5
 v5:=Tryz.zeroValue5
 t9:=Tryz.underlying9
 a9:=Tryz.isAgg9
 z9:=Tryz.sizeOf9
 v9:=Tryz.zeroValue9
 t46:=Tryz.underlying318
 a46:=Tryz.isAgg318
 z46:=Tryz.sizeOf318
 v46:=Tryz.zeroValue318
 t53:=Tryz.underlying203
 a53:=Tryz.isAgg203
 z53:=Tryz.sizeOf203
 v53:=Tryz.zeroValue203
 t212:=Tryz.underlying371
 a212:=Tryz.isAgg371
 z212:=Tryz.sizeOf371
 v212:=Tryz.zeroValue371
 g17:=zG
 i0:=zG
 i3:=zG
 i4:=zG
 i5:=zG
 i9:=zG
 i46:=zG
 i53:=zG
 i212:=zG
 m17:=by kernel_rfl}
open Go.Lib in
theorem Tryz.internal_strconv_numDigits (u:Nat)(h1:1<=u)(h2:u<18446744073709551616)(w:World)(aEr:Lib.TabIs Tryz.prog w "internal/strconv.uint64pow10" .u64 Lib.pow10Tab):
  Calls Tryz.prog 315 #[.int .u64 u] w λe w'=>e=.returned (.int .i64 (Lib.nDigits u))/\w'=w:=Any.internal_strconv_numDigits Tryz.laysM284 u h1 h2 w aEr
def Tryz.lays285_ren:Go.Shelf.Ren:=⟨fun | 285=>316 | n=>n,fun | 37=>210 | 53=>203 | 3=>3 | 4=>4 | 51=>145 | 9=>9 | 5=>5 | 0=>0 | n=>n,fun | n=>n⟩
theorem Tryz.lays285:Go.Proofs.Lays.n285 Tryz.prog Tryz.lays285_ren:={
 mixed:=zG
 f285:=Tryz.func316.trans (congrArg some zG)
 t0:=Tryz.underlying0
 a0:=Tryz.isAgg0
 z0:=Tryz.sizeOf0
 v0:=Tryz.zeroValue0
 t3:=Tryz.underlying3
 a3:=Tryz.isAgg3
 z3:=Tryz.sizeOf3
 v3:=Tryz.zeroValue3
 t4:=Tryz.underlying4
 a4:=Tryz.isAgg4
 z4:=Tryz.sizeOf4
 v4:=Tryz.zeroValue4
 t5:=Tryz.underlying5
 a5:=Tryz.isAgg5
 z5:=Tryz.sizeOf5
 v5:=Tryz.zeroValue5
 t9:=Tryz.underlying9
 a9:=Tryz.isAgg9
 z9:=Tryz.sizeOf9
 v9:=Tryz.zeroValue9
 t37:=Tryz.underlying210
 a37:=Tryz.isAgg210
 z37:=Tryz.sizeOf210
 v37:=Tryz.zeroValue210
 t51:=Tryz.underlying145
 a51:=Tryz.isAgg145
 z51:=Tryz.sizeOf145
 v51:=Tryz.zeroValue145
 t53:=Tryz.underlying203
 a53:=Tryz.isAgg203
 z53:=Tryz.sizeOf203
 v53:=Tryz.zeroValue203}
open Go.RowKit Go.Sort Go.Lib in
theorem Tryz.internal_strconv_formatBase10 (blk off cap:Nat)(u:Nat)(d:Array UInt8)(w:World)(hH:Holds (λ(b:UInt8)=>Value.int .u8 (b.toNat:Int)) w blk off d)(hu:u<10^d.size)(aMo:u<18446744073709551616)(hsz:d.size<4611686018427387904):
  Calls Tryz.prog 316 #[.slice (some ⟨blk,off,none⟩) d.size cap,.int .u64 u] w λe w'=>
   e=.returned (.tuple #[])/\∃(n v':Nat) (dk:Array UInt8),w'=(putRow (λ(b:UInt8)=>Value.int .u8 (b.toNat:Int)) w blk off dk).drewN n/\FmtInv d.size u 0 v' dk:=Any.internal_strconv_formatBase10 Tryz.lays285 blk off cap u d w hH hu aMo hsz
def Tryz.laysM173_ren:Go.Shelf.Ren:=⟨fun | 173=>275 | 246=>294 | 283=>314 | 284=>315 | 285=>316 | 286=>317 | 129=>333 | 317=>332 | 318=>334 | 319=>335 | 320=>336 | 337=>342 | 338=>343 | n=>n,fun | 2=>2 | 3=>3 | 9=>9 | 4=>4 | 171=>354 | 0=>0 | 53=>203 | 37=>210 | 5=>5 | 173=>357 | 212=>371 | 51=>145 | 20=>20 | 213=>372 | 46=>318 | 232=>384 | 233=>385 | n=>n,fun | 17=>3 | 18=>4 | 19=>5 | n=>n⟩
theorem Tryz.laysM173:Go.Proofs.LaysM.n173 Tryz.prog Tryz.laysM173_ren:={
 mixed:=zG
 f129:=Tryz.func333.trans (congrArg some zG)
 f173:=Tryz.func275.trans (congrArg some zG)
 f246:=Tryz.func294.trans (congrArg some zG)
 f283:=Tryz.func314.trans (congrArg some zG)
 f284:=Tryz.func315.trans (congrArg some zG)
 f285:=Tryz.func316.trans (congrArg some zG)
 f286:=Tryz.func317.trans (congrArg some zG)
 f317:=Tryz.func332.trans (congrArg some zG)
 f318:=Tryz.func334.trans (congrArg some zG)
 f319:=Tryz.func335.trans (congrArg some zG)
 f320:=Tryz.func336.trans (congrArg some zG)
 f337:=Tryz.func342.trans (congrArg some zG)
 f338:=Tryz.func343.trans (congrArg some zG)
 t0:=Tryz.underlying0
 a0:=Tryz.isAgg0
 z0:=Tryz.sizeOf0
 v0:=Tryz.zeroValue0
 t2:=Tryz.underlying2
 a2:=Tryz.isAgg2
 z2:=Tryz.sizeOf2
 v2:=Tryz.zeroValue2
 t3:=Tryz.underlying3
 a3:=Tryz.isAgg3
 z3:=Tryz.sizeOf3
 v3:=Tryz.zeroValue3
 t4:=Tryz.underlying4
 a4:=Tryz.isAgg4
 z4:=Tryz.sizeOf4
 v4:=Tryz.zeroValue4
 t5:=Tryz.underlying5
 a5:=Tryz.isAgg5
 z5:=Tryz.sizeOf5
 v5:=Tryz.zeroValue5
 t9:=Tryz.underlying9
 a9:=Tryz.isAgg9
 z9:=Tryz.sizeOf9
 v9:=Tryz.zeroValue9
 t20:=Tryz.underlying20
 a20:=Tryz.isAgg20
 z20:=Tryz.sizeOf20
 v20:=Tryz.zeroValue20
 t37:=Tryz.underlying210
 a37:=Tryz.isAgg210
 z37:=Tryz.sizeOf210
 v37:=Tryz.zeroValue210
 t46:=Tryz.underlying318
 a46:=Tryz.isAgg318
 z46:=Tryz.sizeOf318
 v46:=Tryz.zeroValue318
 t51:=Tryz.underlying145
 a51:=Tryz.isAgg145
 z51:=Tryz.sizeOf145
 v51:=Tryz.zeroValue145
 t53:=Tryz.underlying203
 a53:=Tryz.isAgg203
 z53:=Tryz.sizeOf203
 v53:=Tryz.zeroValue203
 t171:=Tryz.underlying354
 a171:=Tryz.isAgg354
 z171:=Tryz.sizeOf354
 v171:=Tryz.zeroValue354
 t173:=Tryz.underlying357
 a173:=Tryz.isAgg357
 z173:=Tryz.sizeOf357
 v173:=Tryz.zeroValue357
 t212:=Tryz.underlying371
 a212:=Tryz.isAgg371
 z212:=Tryz.sizeOf371
 v212:=Tryz.zeroValue371
 t213:=Tryz.underlying372
 a213:=Tryz.isAgg372
 z213:=Tryz.sizeOf372
 t232:=Tryz.underlying384
 a232:=Tryz.isAgg384
 z232:=Tryz.sizeOf384
 v232:=Tryz.zeroValue384
 t233:=Tryz.underlying385
 a233:=Tryz.isAgg385
 z233:=Tryz.sizeOf385
 v233:=Tryz.zeroValue385
 g17:=zG
 g18:=zG
 g19:=zG
 i0:=zG
 i2:=zG
 i3:=zG
 i4:=zG
 i5:=zG
 i9:=zG
 i20:=zG
 i37:=zG
 i46:=zG
 i51:=zG
 i53:=zG
 i171:=zG
 i173:=zG
 i212:=zG
 i232:=zG
 i233:=zG
 m17:=zG
 m18:=zG
 m19:=by kernel_rfl}
open Go.RowKit Go.Sort Go.Lib in
theorem Tryz.strconv_FormatInt_10 (n:Int)(h0:-9223372036854775808<=n)(h1:n<=9223372036854775807)(w:World)(aEr:Lib.TabIs Tryz.prog w "internal/strconv.uint64pow10" .u64 Lib.pow10Tab):
  Calls Tryz.prog 275 #[.int .i64 n,.int .i64 10] w λe w'=>e=.returned (.string ⟨(Lib.itoa n).toArray⟩)/\∃k os,w'=grow (w.drewN k) os:=Any.strconv_FormatInt_10 Tryz.laysM173 n h0 h1 w aEr
def Tryz.laysC174_ren:Go.Shelf.Ren:=⟨fun | 174=>274 | 247=>292 | 245=>293 | 287=>309 | 279=>310 | 280=>311 | 281=>312 | 282=>313 | 321=>327 | 322=>328 | 316=>329 | 171=>331 | 205=>330 | 243=>341 | 246=>294 | 283=>314 | 284=>315 | 285=>316 | 286=>317 | 129=>333 | 317=>332 | 318=>334 | 319=>335 | 320=>336 | 337=>342 | 338=>343 | n=>n,fun | 9=>9 | 3=>3 | 2=>2 | 75=>310 | 85=>311 | 4=>4 | 167=>349 | 5=>5 | 53=>203 | 175=>333 | 46=>318 | 168=>350 | 37=>210 | 0=>0 | 210=>369 | 21=>21 | 127=>363 | 145=>381 | 143=>379 | 171=>354 | 173=>357 | 212=>371 | 51=>145 | 20=>20 | 213=>372 | 232=>384 | 233=>385 | 80=>281 | n=>n,fun | 15=>1 | 16=>2 | 17=>3 | 18=>4 | 19=>5 | n=>n⟩
theorem Tryz.laysC174:Go.Proofs.LaysC.n174 Tryz.prog Tryz.laysC174_ren:={
 mixed:=zG
 f129:=Tryz.func333.trans (congrArg some zG)
 f171:=Tryz.func331.trans (congrArg some zG)
 f174:=Tryz.func274.trans (congrArg some zG)
 f205:=Tryz.func330.trans (congrArg some zG)
 f243:=Tryz.func341.trans (congrArg some zG)
 f245:=Tryz.func293.trans (congrArg some zG)
 f246:=Tryz.func294.trans (congrArg some zG)
 f247:=Tryz.func292.trans (congrArg some zG)
 f279:=Tryz.func310.trans (congrArg some zG)
 f280:=Tryz.func311.trans (congrArg some zG)
 f281:=Tryz.func312.trans (congrArg some zG)
 f282:=Tryz.func313.trans (congrArg some zG)
 f283:=Tryz.func314.trans (congrArg some zG)
 f284:=Tryz.func315.trans (congrArg some zG)
 f285:=Tryz.func316.trans (congrArg some zG)
 f286:=Tryz.func317.trans (congrArg some zG)
 f287:=Tryz.func309.trans (congrArg some zG)
 f316:=Tryz.func329.trans (congrArg some zG)
 f317:=Tryz.func332.trans (congrArg some zG)
 f318:=Tryz.func334.trans (congrArg some zG)
 f319:=Tryz.func335.trans (congrArg some zG)
 f320:=Tryz.func336.trans (congrArg some zG)
 f321:=Tryz.func327.trans (congrArg some zG)
 f322:=Tryz.func328.trans (congrArg some zG)
 f337:=Tryz.func342.trans (congrArg some zG)
 f338:=Tryz.func343.trans (congrArg some zG)
 t0:=Tryz.underlying0
 a0:=Tryz.isAgg0
 z0:=Tryz.sizeOf0
 v0:=Tryz.zeroValue0
 t2:=Tryz.underlying2
 a2:=Tryz.isAgg2
 z2:=Tryz.sizeOf2
 v2:=Tryz.zeroValue2
 t3:=Tryz.underlying3
 a3:=Tryz.isAgg3
 z3:=Tryz.sizeOf3
 v3:=Tryz.zeroValue3
 t4:=Tryz.underlying4
 a4:=Tryz.isAgg4
 z4:=Tryz.sizeOf4
 v4:=Tryz.zeroValue4
 t5:=Tryz.underlying5
 a5:=Tryz.isAgg5
 z5:=Tryz.sizeOf5
 v5:=Tryz.zeroValue5
 t9:=Tryz.underlying9
 a9:=Tryz.isAgg9
 z9:=Tryz.sizeOf9
 v9:=Tryz.zeroValue9
 t20:=Tryz.underlying20
 a20:=Tryz.isAgg20
 z20:=Tryz.sizeOf20
 v20:=Tryz.zeroValue20
 t21:=Tryz.underlying21
 a21:=Tryz.isAgg21
 z21:=Tryz.sizeOf21
 v21:=Tryz.zeroValue21
 t37:=Tryz.underlying210
 a37:=Tryz.isAgg210
 z37:=Tryz.sizeOf210
 v37:=Tryz.zeroValue210
 t46:=Tryz.underlying318
 a46:=Tryz.isAgg318
 z46:=Tryz.sizeOf318
 v46:=Tryz.zeroValue318
 t51:=Tryz.underlying145
 a51:=Tryz.isAgg145
 z51:=Tryz.sizeOf145
 v51:=Tryz.zeroValue145
 t53:=Tryz.underlying203
 a53:=Tryz.isAgg203
 z53:=Tryz.sizeOf203
 v53:=Tryz.zeroValue203
 t75:=Tryz.underlying310
 a75:=Tryz.isAgg310
 z75:=Tryz.sizeOf310
 v75:=Tryz.zeroValue310
 t85:=Tryz.underlying311
 a85:=Tryz.isAgg311
 z85:=Tryz.sizeOf311
 v85:=Tryz.zeroValue311
 t127:=Tryz.underlying363
 a127:=Tryz.isAgg363
 z127:=Tryz.sizeOf363
 v127:=Tryz.zeroValue363
 t143:=Tryz.underlying379
 a143:=Tryz.isAgg379
 z143:=Tryz.sizeOf379
 v143:=Tryz.zeroValue379
 t145:=Tryz.underlying381
 a145:=Tryz.isAgg381
 z145:=Tryz.sizeOf381
 v145:=Tryz.zeroValue381
 t167:=Tryz.underlying349
 a167:=Tryz.isAgg349
 z167:=Tryz.sizeOf349
 v167:=Tryz.zeroValue349
 t168:=Tryz.underlying350
 a168:=Tryz.isAgg350
 z168:=Tryz.sizeOf350
 v168:=Tryz.zeroValue350
 t171:=Tryz.underlying354
 a171:=Tryz.isAgg354
 z171:=Tryz.sizeOf354
 v171:=Tryz.zeroValue354
 t173:=Tryz.underlying357
 a173:=Tryz.isAgg357
 z173:=Tryz.sizeOf357
 v173:=Tryz.zeroValue357
 t175:=Tryz.underlying333
 a175:=Tryz.isAgg333
 z175:=Tryz.sizeOf333
 v175:=Tryz.zeroValue333
 t210:=Tryz.underlying369
 a210:=Tryz.isAgg369
 z210:=Tryz.sizeOf369
 v210:=Tryz.zeroValue369
 t212:=Tryz.underlying371
 a212:=Tryz.isAgg371
 z212:=Tryz.sizeOf371
 v212:=Tryz.zeroValue371
 t213:=Tryz.underlying372
 a213:=Tryz.isAgg372
 z213:=Tryz.sizeOf372
 t232:=Tryz.underlying384
 a232:=Tryz.isAgg384
 z232:=Tryz.sizeOf384
 v232:=Tryz.zeroValue384
 t233:=Tryz.underlying385
 a233:=Tryz.isAgg385
 z233:=Tryz.sizeOf385
 v233:=Tryz.zeroValue385
 g15:=zG
 g16:=zG
 g17:=zG
 g18:=zG
 g19:=zG
 t80:=Tryz.underlying281
 a80:=Tryz.isAgg281
 z80:=Tryz.sizeOf281
 v80:=Tryz.zeroValue281
 i0:=zG
 i2:=zG
 i3:=zG
 i4:=zG
 i5:=zG
 i9:=zG
 i20:=zG
 i21:=zG
 i37:=zG
 i46:=zG
 i51:=zG
 i53:=zG
 i75:=zG
 i80:=zG
 i85:=zG
 i127:=zG
 i143:=zG
 i145:=zG
 i167:=zG
 i168:=zG
 i171:=zG
 i173:=zG
 i175:=zG
 i210:=zG
 i212:=zG
 i232:=zG
 i233:=zG
 m15:=zG
 m16:=zG
 m17:=zG
 m18:=zG
 m19:=zG
 c0:=zG
 c2:=zG
 c3:=zG
 c4:=zG
 c5:=zG
 c9:=zG
 c20:=zG
 c21:=zG
 c37:=zG
 c46:=zG
 c51:=zG
 c53:=zG
 c75:=zG
 c80:=zG
 c85:=zG
 c127:=zG
 c143:=zG
 c145:=zG
 c167:=zG
 c168:=zG
 c171:=zG
 c173:=zG
 c175:=zG
 c210:=zG
 c212:=zG
 c213:=zG
 c232:=zG
 c233:=by kernel_rfl}
open Go.RowKit in
theorem Tryz.strconv_ParseInt_10_at64_ok (s:ByteArray)(bBq:s.size<=9223372036854775806)(v:Int)(h:Lib.parseIntB 64 s.data.toList=.ok v)(w:World):
  Calls Tryz.prog 274 #[.string s,.int .i64 10,.int .i64 64] w λe w'=>e=.returned (.tuple #[.int .i64 v,.nilIface])/\(w'=w\/∃t,w'=Lib.bytesWorld w 5 t):=Any.strconv_ParseInt_10_at64_ok Tryz.laysC174 s bBq v h w
def Tryz.laysPu14_ren:Go.Shelf.Ren:=⟨fun | 14=>299 | 16=>309 | 17=>293 | 19=>327 | 20=>328 | 21=>310 | 22=>311 | 23=>312 | 24=>313 | 25=>329 | 27=>331 | 26=>330 | 28=>341 | 29=>294 | 30=>314 | 31=>315 | 32=>316 | 33=>317 | 35=>333 | 34=>332 | 36=>334 | 37=>335 | 38=>336 | 39=>342 | 40=>343 | n=>n,fun | 9=>9 | 3=>3 | 22=>203 | 24=>310 | 25=>333 | 4=>4 | 34=>349 | 5=>5 | 36=>318 | 37=>210 | 0=>0 | 39=>350 | 21=>21 | 44=>369 | 47=>363 | 50=>381 | 48=>379 | 2=>2 | 52=>354 | 55=>357 | 59=>371 | 60=>145 | 20=>20 | 61=>372 | 65=>384 | 66=>385 | 67=>281 | n=>n,fun | 0=>1 | 1=>2 | 2=>3 | 3=>4 | 4=>5 | n=>n⟩
theorem Tryz.laysPu14:Go.Proofs.LaysPu.n14 Tryz.prog Tryz.laysPu14_ren:={
 mixed:=zG
 f14:=Tryz.func299.trans (congrArg some zG)
 f16:=Tryz.func309.trans (congrArg some zG)
 f17:=Tryz.func293.trans (congrArg some zG)
 f19:=Tryz.func327.trans (congrArg some zG)
 f20:=Tryz.func328.trans (congrArg some zG)
 f21:=Tryz.func310.trans (congrArg some zG)
 f22:=Tryz.func311.trans (congrArg some zG)
 f23:=Tryz.func312.trans (congrArg some zG)
 f24:=Tryz.func313.trans (congrArg some zG)
 f25:=Tryz.func329.trans (congrArg some zG)
 f26:=Tryz.func330.trans (congrArg some zG)
 f27:=Tryz.func331.trans (congrArg some zG)
 f28:=Tryz.func341.trans (congrArg some zG)
 f29:=Tryz.func294.trans (congrArg some zG)
 f30:=Tryz.func314.trans (congrArg some zG)
 f31:=Tryz.func315.trans (congrArg some zG)
 f32:=Tryz.func316.trans (congrArg some zG)
 f33:=Tryz.func317.trans (congrArg some zG)
 f34:=Tryz.func332.trans (congrArg some zG)
 f35:=Tryz.func333.trans (congrArg some zG)
 f36:=Tryz.func334.trans (congrArg some zG)
 f37:=Tryz.func335.trans (congrArg some zG)
 f38:=Tryz.func336.trans (congrArg some zG)
 f39:=Tryz.func342.trans (congrArg some zG)
 f40:=Tryz.func343.trans (congrArg some zG)
 t0:=Tryz.underlying0
 a0:=Tryz.isAgg0
 z0:=Tryz.sizeOf0
 v0:=Tryz.zeroValue0
 i0:=zG
 t2:=Tryz.underlying2
 a2:=Tryz.isAgg2
 z2:=Tryz.sizeOf2
 v2:=Tryz.zeroValue2
 i2:=zG
 t3:=Tryz.underlying3
 a3:=Tryz.isAgg3
 z3:=Tryz.sizeOf3
 v3:=Tryz.zeroValue3
 i3:=zG
 t4:=Tryz.underlying4
 a4:=Tryz.isAgg4
 z4:=Tryz.sizeOf4
 v4:=Tryz.zeroValue4
 i4:=zG
 t5:=Tryz.underlying5
 a5:=Tryz.isAgg5
 z5:=Tryz.sizeOf5
 v5:=Tryz.zeroValue5
 i5:=zG
 t9:=Tryz.underlying9
 a9:=Tryz.isAgg9
 z9:=Tryz.sizeOf9
 v9:=Tryz.zeroValue9
 i9:=zG
 t20:=Tryz.underlying20
 a20:=Tryz.isAgg20
 z20:=Tryz.sizeOf20
 v20:=Tryz.zeroValue20
 i20:=zG
 t21:=Tryz.underlying21
 a21:=Tryz.isAgg21
 z21:=Tryz.sizeOf21
 v21:=Tryz.zeroValue21
 i21:=zG
 t22:=Tryz.underlying203
 a22:=Tryz.isAgg203
 z22:=Tryz.sizeOf203
 v22:=Tryz.zeroValue203
 i22:=zG
 t24:=Tryz.underlying310
 a24:=Tryz.isAgg310
 z24:=Tryz.sizeOf310
 v24:=Tryz.zeroValue310
 i24:=zG
 t25:=Tryz.underlying333
 a25:=Tryz.isAgg333
 z25:=Tryz.sizeOf333
 v25:=Tryz.zeroValue333
 i25:=zG
 t34:=Tryz.underlying349
 a34:=Tryz.isAgg349
 z34:=Tryz.sizeOf349
 v34:=Tryz.zeroValue349
 i34:=zG
 c34:=zG
 t36:=Tryz.underlying318
 a36:=Tryz.isAgg318
 z36:=Tryz.sizeOf318
 v36:=Tryz.zeroValue318
 i36:=zG
 t37:=Tryz.underlying210
 a37:=Tryz.isAgg210
 z37:=Tryz.sizeOf210
 v37:=Tryz.zeroValue210
 i37:=zG
 t39:=Tryz.underlying350
 a39:=Tryz.isAgg350
 z39:=Tryz.sizeOf350
 v39:=Tryz.zeroValue350
 i39:=zG
 t44:=Tryz.underlying369
 a44:=Tryz.isAgg369
 z44:=Tryz.sizeOf369
 v44:=Tryz.zeroValue369
 i44:=zG
 t47:=Tryz.underlying363
 a47:=Tryz.isAgg363
 z47:=Tryz.sizeOf363
 v47:=Tryz.zeroValue363
 i47:=zG
 t48:=Tryz.underlying379
 a48:=Tryz.isAgg379
 z48:=Tryz.sizeOf379
 v48:=Tryz.zeroValue379
 i48:=zG
 t50:=Tryz.underlying381
 a50:=Tryz.isAgg381
 z50:=Tryz.sizeOf381
 v50:=Tryz.zeroValue381
 i50:=zG
 t52:=Tryz.underlying354
 a52:=Tryz.isAgg354
 z52:=Tryz.sizeOf354
 v52:=Tryz.zeroValue354
 i52:=zG
 t55:=Tryz.underlying357
 a55:=Tryz.isAgg357
 z55:=Tryz.sizeOf357
 v55:=Tryz.zeroValue357
 i55:=zG
 t59:=Tryz.underlying371
 a59:=Tryz.isAgg371
 z59:=Tryz.sizeOf371
 v59:=Tryz.zeroValue371
 i59:=zG
 t60:=Tryz.underlying145
 a60:=Tryz.isAgg145
 z60:=Tryz.sizeOf145
 v60:=Tryz.zeroValue145
 i60:=zG
 t61:=Tryz.underlying372
 a61:=Tryz.isAgg372
 z61:=Tryz.sizeOf372
 t65:=Tryz.underlying384
 a65:=Tryz.isAgg384
 z65:=Tryz.sizeOf384
 v65:=Tryz.zeroValue384
 i65:=zG
 t66:=Tryz.underlying385
 a66:=Tryz.isAgg385
 z66:=Tryz.sizeOf385
 v66:=Tryz.zeroValue385
 i66:=zG
 t67:=Tryz.underlying281
 a67:=Tryz.isAgg281
 z67:=Tryz.sizeOf281
 v67:=Tryz.zeroValue281
 i67:=zG
 g0:=zG
 m0:=zG
 g1:=zG
 m1:=zG
 g2:=zG
 m2:=zG
 g3:=zG
 m3:=zG
 g4:=zG
 m4:=by kernel_rfl}
open Go.RowKit in
theorem Tryz.strconv_ParseUint_10_at32_ok (s:ByteArray)(bBq:s.size<=9223372036854775806)(u:Nat)(h:Lib.parseUintB 32 s.data.toList=.ok u)(w:World):
  Calls Tryz.prog 299 #[.string s,.int .i64 10,.int .i64 32] w λe w'=>e=.returned (.tuple #[.int .u64 u,.nilIface])/\(w'=w\/w'=Lib.bytesWorld w 5 s):=Any.strconv_ParseUint_10_at32_ok Tryz.laysPu14 s bBq u h w
def Tryz.lays145_ren:Go.Shelf.Ren:=⟨fun | 145=>223 | 220=>248 | 219=>266 | 217=>279 | 225=>280 | 224=>281 | 267=>282 | 266=>297 | 314=>298 | n=>n,fun | 9=>9 | 4=>4 | 59=>139 | 3=>3 | 5=>5 | 46=>318 | 146=>331 | 51=>145 | n=>n,fun | 1=>0 | n=>n⟩
theorem Tryz.lays145:Go.Proofs.Lays.n145 Tryz.prog Tryz.lays145_ren:={
 mixed:=zG
 f145:=Tryz.func223.trans (congrArg some zG)
 f217:=Tryz.func279.trans (congrArg some zG)
 f219:=Tryz.func266.trans (congrArg some zG)
 f220:=Tryz.func248.trans (congrArg some zG)
 f224:=Tryz.func281.trans (congrArg some zG)
 f225:=Tryz.func280.trans (congrArg some zG)
 f266:=Tryz.func297.trans (congrArg some zG)
 f267:=Tryz.func282.trans (congrArg some zG)
 f314:=Tryz.func298.trans (congrArg some zG)
 t3:=Tryz.underlying3
 a3:=Tryz.isAgg3
 z3:=Tryz.sizeOf3
 v3:=Tryz.zeroValue3
 t4:=Tryz.underlying4
 a4:=Tryz.isAgg4
 z4:=Tryz.sizeOf4
 v4:=Tryz.zeroValue4
 t5:=Tryz.underlying5
 a5:=Tryz.isAgg5
 z5:=Tryz.sizeOf5
 v5:=Tryz.zeroValue5
 t9:=Tryz.underlying9
 a9:=Tryz.isAgg9
 z9:=Tryz.sizeOf9
 v9:=Tryz.zeroValue9
 t46:=Tryz.underlying318
 a46:=Tryz.isAgg318
 z46:=Tryz.sizeOf318
 v46:=Tryz.zeroValue318
 t51:=Tryz.underlying145
 a51:=Tryz.isAgg145
 z51:=Tryz.sizeOf145
 v51:=Tryz.zeroValue145
 t59:=Tryz.underlying139
 a59:=Tryz.isAgg139
 z59:=Tryz.sizeOf139
 v59:=Tryz.zeroValue139
 t146:=Tryz.underlying331
 a146:=Tryz.isAgg331
 z146:=Tryz.sizeOf331
 v146:=Tryz.zeroValue331
 g1:=by kernel_rfl}
open Go.RowKit Go.Lib in
theorem Tryz.strings_Cut (s sep:ByteArray)(m:Int)(w:World)(hs:s.size<4294967281)(hm:w.cell? ⟨0,0,none⟩=some (.int .i64 m)):
  Calls Tryz.prog 223 #[.string s,.string sep] w λe w'=>e=.returned (.tuple #[.string ⟨(Lib.cut s.data.toList sep.data.toList).1.toArray⟩,.string ⟨(Lib.cut s.data.toList sep.data.toList).2.1.toArray⟩,.bool (Lib.cut s.data.toList sep.data.toList).2.2])/\∃n,w'=w.drewN n:=Any.strings_Cut Tryz.lays145 s sep m w hs hm
def Tryz.lays105_ren:Go.Shelf.Ren:=⟨fun | 105=>303 | 212=>321 | 99=>322 | 165=>323 | 166=>302 | 170=>324 | 169=>304 | 263=>338 | 264=>339 | 206=>296 | 240=>320 | 241=>340 | 276=>337 | 277=>344 | n=>n,fun | 9=>9 | 3=>3 | 4=>4 | 20=>20 | 0=>0 | 46=>318 | 109=>360 | 5=>5 | 72=>337 | 76=>342 | 51=>145 | 146=>331 | 53=>203 | 148=>377 | 70=>335 | 37=>210 | 75=>310 | 127=>363 | 164=>374 | 80=>281 | n=>n,fun | n=>n⟩
theorem Tryz.lays105:Go.Proofs.Lays.n105 Tryz.prog Tryz.lays105_ren:={
 mixed:=zG
 f99:=Tryz.func322.trans (congrArg some zG)
 f105:=Tryz.func303.trans (congrArg some zG)
 f165:=Tryz.func323.trans (congrArg some zG)
 f166:=Tryz.func302.trans (congrArg some zG)
 f169:=Tryz.func304.trans (congrArg some zG)
 f170:=Tryz.func324.trans (congrArg some zG)
 f206:=Tryz.func296.trans (congrArg some zG)
 f212:=Tryz.func321.trans (congrArg some zG)
 f240:=Tryz.func320.trans (congrArg some zG)
 f241:=Tryz.func340.trans (congrArg some zG)
 f263:=Tryz.func338.trans (congrArg some zG)
 f264:=Tryz.func339.trans (congrArg some zG)
 f276:=Tryz.func337.trans (congrArg some zG)
 f277:=Tryz.func344.trans (congrArg some zG)
 t0:=Tryz.underlying0
 a0:=Tryz.isAgg0
 z0:=Tryz.sizeOf0
 v0:=Tryz.zeroValue0
 t3:=Tryz.underlying3
 a3:=Tryz.isAgg3
 z3:=Tryz.sizeOf3
 v3:=Tryz.zeroValue3
 t4:=Tryz.underlying4
 a4:=Tryz.isAgg4
 z4:=Tryz.sizeOf4
 v4:=Tryz.zeroValue4
 t5:=Tryz.underlying5
 a5:=Tryz.isAgg5
 z5:=Tryz.sizeOf5
 v5:=Tryz.zeroValue5
 t9:=Tryz.underlying9
 a9:=Tryz.isAgg9
 z9:=Tryz.sizeOf9
 v9:=Tryz.zeroValue9
 t20:=Tryz.underlying20
 a20:=Tryz.isAgg20
 z20:=Tryz.sizeOf20
 v20:=Tryz.zeroValue20
 t37:=Tryz.underlying210
 a37:=Tryz.isAgg210
 z37:=Tryz.sizeOf210
 v37:=Tryz.zeroValue210
 t46:=Tryz.underlying318
 a46:=Tryz.isAgg318
 z46:=Tryz.sizeOf318
 v46:=Tryz.zeroValue318
 t51:=Tryz.underlying145
 a51:=Tryz.isAgg145
 z51:=Tryz.sizeOf145
 v51:=Tryz.zeroValue145
 t53:=Tryz.underlying203
 a53:=Tryz.isAgg203
 z53:=Tryz.sizeOf203
 v53:=Tryz.zeroValue203
 t70:=Tryz.underlying335
 a70:=Tryz.isAgg335
 z70:=Tryz.sizeOf335
 v70:=Tryz.zeroValue335
 t72:=Tryz.underlying337
 a72:=Tryz.isAgg337
 z72:=Tryz.sizeOf337
 v72:=Tryz.zeroValue337
 t75:=Tryz.underlying310
 a75:=Tryz.isAgg310
 z75:=Tryz.sizeOf310
 v75:=Tryz.zeroValue310
 t76:=Tryz.underlying342
 a76:=Tryz.isAgg342
 z76:=Tryz.sizeOf342
 v76:=Tryz.zeroValue342
 t109:=Tryz.underlying360
 a109:=Tryz.isAgg360
 z109:=Tryz.sizeOf360
 v109:=Tryz.zeroValue360
 t127:=Tryz.underlying363
 a127:=Tryz.isAgg363
 z127:=Tryz.sizeOf363
 v127:=Tryz.zeroValue363
 t146:=Tryz.underlying331
 a146:=Tryz.isAgg331
 z146:=Tryz.sizeOf331
 v146:=Tryz.zeroValue331
 t148:=Tryz.underlying377
 a148:=Tryz.isAgg377
 z148:=Tryz.sizeOf377
 v148:=Tryz.zeroValue377
 t164:=Tryz.underlying374
 a164:=Tryz.isAgg374
 z164:=Tryz.sizeOf374
 v164:=Tryz.zeroValue374}
theorem Tryz.Builder_Extra_105:Builder.Extra Tryz.prog Tryz.lays105_ren:={
 sizeBuilder:=zG
 liesBuilder:=zG
 t5:=Tryz.underlying5
 a5:=Tryz.isAgg5
 z5:=Tryz.sizeOf5
 v5:=Tryz.zeroValue5
 infoByte:=zG
 cellsByte:=zG
 sizeByte:=zG
 neB5:=by decide}
open Go.RowKit Go.Lib in
theorem Tryz.strings_Repeat (s:ByteArray)(c:Nat)(w:World)(hc:c<=9223372036854775807)(hlen:s.size*c<=140737488355328):
  Calls Tryz.prog 303 #[.string s,.int .i64 c] w λe w'=>e=.returned (.string ⟨(Lib.repeatL s.data.toList c).toArray⟩)/\Below w.heap.size w w':=Any.strings_Repeat Tryz.lays105 Tryz.Builder_Extra_105 s c w hc hlen
end Go.Proofs
