/- Part 13: lemmas for garboardlaw17.FloatDivides -/
import Derived.Lib.ItoaNum
import Derived.Shelf.Strings.Builder1
import Derived.Shelf.Strings.Builder2
import Derived.Shelf.Small.Wraps
import Derived.Shelf.Strings.BuilderF
import Derived.Shelf.Strings.BuilderK
import Derived.Shelf.Strconv.Itoa0
import Derived.Shelf.Strconv.Itoa1
import Derived.Shelf.LaysM
import Derived.Shelf.Strconv.Itoa2
import Derived.Shelf.Strconv.Itoa3
import Derived.Shelf.Strconv.Itoa4
import Derived.Shelf.Strconv.ParseIntEmpty
import Derived.Shelf.Strconv.Clone
import Derived.Shelf.Strconv.SyntaxError
import Derived.Shelf.LaysC
import Derived.Shelf.Strconv.ToError
import Derived.Shelf.Strconv.Lower
import Derived.Shelf.Strconv.ParseUint10
import Derived.Shelf.Strconv.ParseUint10Empty
import Derived.Shelf.Strconv.ParseUint10Any
import Derived.Shelf.Strconv.ParseInt10
import Derived.Shelf.Strconv.RangeError
import Derived.Shelf.Strconv.ToErrorRange
import Derived.Shelf.Strconv.ParseUintEmpty
import Derived.Shelf.Strconv.ParseUint10b64
import Derived.Shelf.Strconv.ParseUint10b32
import Derived.Shelf.Strconv.ParseUint10b16
import Derived.Shelf.Strconv.ParseUint10b8
import Derived.Shelf.Strconv.ParseUint10At
import Derived.Shelf.Strconv.ParseInt10At64
import Derived.Shelf.Strconv.ParseInt10At32
import Derived.Shelf.Strconv.ParseInt10At16
import Derived.Shelf.Strconv.ParseInt10At8
import Derived.Shelf.Strconv.ParseInt10All
import Derived.Shelf.Strconv.ParseIntPublic10
import Derived.Ground.MpProg
import Derived.Shelf.Pu.ParseUintPublic10
import Derived.Shelf.Strings.Search1
import Derived.Shelf.Strings.Search2
import Derived.Shelf.Strings.Cut
import Derived.Shelf.Strings.Shaped
import Derived.Shelf.Strings.Prefix
import Derived.Shelf.Bits.Mul64
import Derived.Shelf.Strings.Repeat
import Derived.Test.YtmnancfboococaaGreatDoorProg
import Derived.Lib.Walk
import Derived.Lib.ItoaMem
import Derived.Lib.AppendIntMem
import Derived.Lib.OthersKept
import Derived.WalkKit
import Derived.BigCall
import Derived.BigGuard
import Derived.Test.YtmnancfboococaaGreatDoorPd11
set_option linter.all false
namespace Go.Num
open Go.Lib
def mI (b:UInt8):Bool:=decide (48<=b.toNat)&&decide (b.toNat<=57)
def isNat (l:List UInt8):Bool:=(decide (l.length=1)||(decide (1<l.length)&&decide (l.getD 0 0≠48)))&&l.all mI
def bCg (a:Nat)(b:UInt8):Nat:=10*a+(b.toNat - 48)
def dZ (a:Nat)(l:List UInt8):Nat:=l.foldl bCg a
theorem jB (a:Nat):dZ a []=a:=rfl
theorem fX (a:Nat)(b:UInt8)(l:List UInt8):dZ a (b::l)=dZ (10*a+(b.toNat - 48)) l:=by unfold dZ;rw[List.foldl_cons,bCg]
theorem oH (a:Nat)(l m:List UInt8):dZ a (l++m)=dZ (dZ a l) m:=by unfold dZ;rw[List.foldl_append]
theorem aF2 (l:List UInt8):∀(a:Nat),a<=dZ a l:=by
 induction l with
 | nil=>intro a;rw[jB];exact lRf _
 | cons b l ih=>intro a;rw[fX];have:=ih (10*a+(b.toNat - 48));omega
theorem aHx (l:List UInt8):∀(a:Nat),dZ a l=a*10^l.length+dZ 0 l:=by
 induction l with
 | nil=>intro a;simp[jB]
 | cons b l ih=>
  intro a;rw[fX,fX,ih (10*a+(b.toNat - 48)),ih (10*0+(b.toNat - 48)),List.length_cons,Nat.pow_succ];generalize 10^l.length=p,dZ 0 l=q,b.toNat - 48=r;rw[Nat.add_mul,show 10*a*p=a*(p*10) by rw[Nat.mul_comm 10 a,Nat.mul_assoc,Nat.mul_comm 10],show 10*0+r=r by omega];omega
theorem aM0 (l:List UInt8):l.all mI=true->dZ 0 l<10^l.length:=by
 induction l with
 | nil=>intro _;simp[jB]
 | cons b l ih=>
  intro h;simp only[List.all_cons,Bool.and_eq_true]at h;have ih:=ih h.2;have hb:=h.1;simp only[mI,Bool.and_eq_true,decide_eq_true_eq]at hb;rw[fX,aHx,List.length_cons,Nat.pow_succ];obtain⟨r,hr⟩:∃r,b.toNat - 48=r:=⟨_,rfl⟩;rw[hr];have:(10*0+r)*10^l.length<=9*10^l.length:=Nat.mul_le_mul_right _ zW;omega
theorem tG {d:Nat}(h:d<10):(UInt8.ofNat (48+d)).toNat=48+d:=by
 rw[UInt8.toNat_ofNat'];omega
theorem aM1 {d:Nat}(h:d<10):mI (UInt8.ofNat (48+d))=true:=by
 simp only[mI,tG h,Bool.and_eq_true,decide_eq_true_eq];omega
theorem bO {n:Nat}(h:n<10):decDigits n=[UInt8.ofNat (48+n)]:=by rw[decDigits,dif_pos h]
theorem dY {n:Nat}(h:¬n<10):decDigits n=decDigits (n/10)++[UInt8.ofNat (48+n%10)]:=by rw[decDigits,dif_neg h]
theorem aKn:decDigits 0=[48]:=by rw[bO zV];rfl
theorem aVr:decDigits 1=[49]:=by rw[bO zV];rfl
theorem cX (n:Nat):dZ 0 (decDigits n)=n:=by
 induction n using Nat.strongRecOn with
 | _ n ih=>
  by_cases h:n<10
  ·rw[bO h,fX,jB,tG h];omega
  ·rw[dY h,oH,ih (n/10) zW,fX,jB,tG (show n%10<10 by omega)];omega
theorem oU {n m:Nat}(h:decDigits n=decDigits m):n=m:=by
 rw[<-cX n,h,cX]
theorem gT (n:Nat):(decDigits n).all mI=true:=by
 induction n using Nat.strongRecOn with
 | _ n ih=>
  by_cases h:n<10
  ·rw[bO h,List.all_cons,aM1 h];rfl
  ·rw[dY h,List.all_append,ih (n/10) zW,List.all_cons,aM1 (show n%10<10 by omega)];rfl
theorem gG (n:Nat):decDigits n≠[]:=by
 by_cases h:n<10
 ·rw[bO h];simp
 ·rw[dY h];simp
theorem aBs {n:Nat}(h:n≠0):(decDigits n).getD 0 0≠48:=by
 induction n using Nat.strongRecOn with
 | _ n ih=>
  by_cases hn:n<10
  ·rw[bO hn];intro e;have:=congrArg UInt8.toNat e;simp only[List.getD_cons_zero,tG hn]at this;have h48:(48:UInt8).toNat=48:=rfl;omega
  ·rw[dY hn];have:=ih (n/10) zW zW;have hne:=gG (n/10);cases hl:decDigits (n/10)with
   | nil=>exact absurd hl hne
   | cons c t=>rw[hl]at this;simpa using this
theorem gP (n:Nat):isNat (decDigits n)=true:=by
 simp only[isNat,gT,Bool.and_true,Bool.or_eq_true,decide_eq_true_eq,Bool.and_eq_true];have h:=gG n;have hp:0<(decDigits n).length:=List.length_pos_iff.2 h;by_cases h1:n<10
 ·left;rw[bO h1];rfl
 ·right
  refine⟨?_,aBs zW⟩;rw[dY h1];have:=List.length_pos_iff.2 (gG (n/10));simp;omega
theorem aUn {b:UInt8}(h:mI b=true):UInt8.ofNat (48+(b.toNat - 48))=b:=by
 simp only[mI,Bool.and_eq_true,decide_eq_true_eq]at h;apply UInt8.toNat_inj.1;rw[UInt8.toNat_ofNat'];omega
theorem jY:∀(n:Nat) (l:List UInt8),l.length=n->isNat l=true->decDigits (dZ 0 l)=l
 | 0,l,hn,h=>by
  simp only[isNat,Bool.and_eq_true,Bool.or_eq_true,decide_eq_true_eq]at h;omega
 | n+1,l,hn,h=>by
  rcases List.eq_nil_or_concat l with e | ⟨t,b,e⟩
  ·subst e;simp at hn
  ·rw[List.concat_eq_append]at e;subst e;simp only[isNat,Bool.and_eq_true,Bool.or_eq_true,decide_eq_true_eq,List.all_append,List.all_cons,List.all_nil,Bool.and_true,List.length_append,List.length_singleton]at h;obtain⟨h1,h2,h3⟩:=h;have hb:=h3;simp only[mI,Bool.and_eq_true,decide_eq_true_eq]at hb;rw[oH,fX,jB];cases ht:t with
   | nil=>rw[jB,bO zW,Nat.mul_zero,Nat.zero_add,aUn h3];rfl
   | cons c t'=>
    rw[<-ht];have hc:c≠48:=by
     rcases h1 with h1 | ⟨_,h1⟩
     ·rw[ht]at h1;simp at h1
     ·rw[ht]at h1;simpa using h1
    have hcd:mI c=true:=by rw[ht]at h2;simp only[List.all_cons,Bool.and_eq_true]at h2;exact h2.1
    have hc':=hcd
    simp only[mI,Bool.and_eq_true,decide_eq_true_eq]at hc';have bHg:c.toNat≠48:=λe=>hc (UInt8.toNat_inj.1 e);have ih:=jY n t (by simp at hn;omega) (by
     simp only[isNat,Bool.and_eq_true,Bool.or_eq_true,decide_eq_true_eq];refine⟨?_,h2⟩;rw[ht];by_cases hl:t'.length=0
     ·left;simp[hl]
     ·right;exact⟨by simp;omega,by simpa using hc⟩)
    have yD:1<=dZ 0 t:=by
     rw[ht,fX];have:=aF2 t' (10*0+(c.toNat - 48));omega
    rw[dY zW];rw[show(10*dZ 0 t+(b.toNat - 48))/10=dZ 0 t by omega,show(10*dZ 0 t+(b.toNat - 48))%10=b.toNat - 48 by omega,ih,aUn h3]
def pad:Nat->Nat->List UInt8
 | 0,_=>[]
 | k+1,n=>pad k (n/10)++[UInt8.ofNat (48+n%10)]
theorem tY {a:Nat}(ha:0<a):∀(k b:Nat),b<10^k->decDigits (a*10^k+b)=decDigits a++pad k b
 | 0,b,hb=>by simp at hb;subst hb;simp[pad]
 | k+1,b,hb=>by
  rw[Nat.pow_succ]at hb |-;have hp:1<=10^k:=Nat.one_le_pow _ _ zV;have h1:1*10^k<=a*10^k:=Nat.mul_le_mul_right _ ha;rw[<-Nat.mul_assoc];rw[dY zW,show(a*10^k*10+b)/10=a*10^k+b/10 by omega,show(a*10^k*10+b)%10=b%10 by omega,tY ha k (b/10) zW,pad,List.append_assoc]
theorem aS7:∀(k b:Nat),b<10^(k+1)->pad (k+1) b=List.replicate (k+1 - (decDigits b).length) 48++decDigits b
 | 0,b,hb=>by
  have:b<10:=by simpa using hb
  rw[bO this];simp[pad,Nat.mod_eq_of_lt this]
 | k+1,b,hb=>by
  rw[Nat.pow_succ]at hb;rw[pad,aS7 k (b/10) zW];by_cases h:b<10
  ·rw[show b/10=0 by omega,bO h,bO (zW:0<10),Nat.mod_eq_of_lt h];simp[List.replicate_succ']
  ·rw[dY h];simp[List.append_assoc]
def aL (n:Nat):ByteArray:=⟨(decDigits n).toArray⟩
def aY (z:Int):ByteArray:=⟨(itoa z).toArray⟩
def aA (q:Rat):ByteArray:=if q.den=1 then aY q.num else(aY q.num++⟨#[47]⟩)++aL q.den
theorem jQ {a b:ByteArray}(h:a.data.toList=b.data.toList):a=b:=by
 cases a;cases b;congr;exact Array.ext' h
theorem cT (n:Nat):(aL n).data.toList=decDigits n:=by simp[aL]
theorem cW (z:Int):(aY z).data.toList=itoa z:=by simp[aY]
theorem fU (a b:ByteArray):(a++b).data.toList=a.data.toList++b.data.toList:=by
 rw[ByteArray.data_append,Array.toList_append]
theorem nB (q:Rat):(aA q).data.toList=if q.den=1 then itoa q.num else itoa q.num++47::decDigits q.den:=by
 unfold aA;split
 ·exact cW _
 ·rw[fU,fU,cW,cT];simp
theorem aUj {n m:Nat}(h:aL n=aL m):n=m:=oU (by rw[<-cT,h,cT])
def rdN (l:List UInt8):Option Nat:=if isNat l then some (dZ 0 l)else none
def wT (l:List UInt8):Option Int:=match l with
 | 45::t=>if isNat t/\t≠[48]then some (-(dZ 0 t:Int))else none
 | l=>if isNat l then some (dZ 0 l:Int)else none
theorem aWq (n:Nat):rdN (decDigits n)=some n:=by simp[rdN,gP,cX]
theorem aCo {l:List UInt8}{n:Nat}(h:rdN l=some n):l=decDigits n:=by
 unfold rdN at h;split at h
 ·rename_i h1;injection h with h;rw[<-h,jY _ l rfl h1]
 ·cases h
theorem aBt (n:Nat):∃c t,decDigits n=c::t/\mI c=true:=by
 cases h:decDigits n with
 | nil=>exact absurd h (gG n)
 | cons c t=>exact⟨c,t,rfl,by have:=gT n;rw[h]at this;simp at this;exact this.1⟩
theorem aK2 {c:UInt8}(h:mI c=true):c≠45/\c≠47:=by
 simp only[mI,Bool.and_eq_true,decide_eq_true_eq]at h;constructor<;>(intro e;subst e;revert h;decide)
theorem aA2 {l:List UInt8}(h:∀t,l≠45::t):wT l=if isNat l then some (dZ 0 l:Int)else none:=by
 unfold wT;split
 ·rename_i t;exact absurd rfl (h t)
 ·rfl
theorem aHy (n:Nat)(t:List UInt8):decDigits n≠45::t:=by
 obtain⟨c,u,h1,h2⟩:=aBt n;rw[h1];intro e;injection e with e1 e2;exact(aK2 h2).1 e1
theorem pN (z:Int):wT (itoa z)=some z:=by
 unfold itoa;split
 ·rename_i hz;simp only[wT,gP,cX,true_and];rw[if_pos]
  ·congr 1;omega
  ·intro e;rw[show([48]:List UInt8)=decDigits 0 from aKn.symm]at e;have:=oU e;omega
 ·rename_i hz;rw[aA2 (aHy _),if_pos (gP _),cX];congr 1;omega
theorem wW {l:List UInt8}{z:Int}(h:wT l=some z):l=itoa z:=by
 by_cases h45:∃t,l=45::t
 ·obtain⟨t,rfl⟩:=h45;simp only[wT]at h;split at h
  ·rename_i h1;injection h with h
   have e:=jY _ t rfl h1.1
   have h0:dZ 0 t≠0:=λe0=>h1.2 (by rw[<-e,e0,aKn])
   unfold itoa;rw[if_pos zW,<-h,Int.natAbs_neg,Int.natAbs_natCast,e]
  ·cases h
 ·rw[aA2 (λt e=>h45 ⟨t,e⟩)]at h;split at h
  ·rename_i h1;injection h with h
   unfold itoa;rw[if_neg zW,<-h,Int.toNat_natCast,jY _ l rfl h1]
  ·cases h
theorem aSz {a b:Int}(h:itoa a=itoa b):a=b:=by
 have:=pN a;rw[h,pN]at this;injection this with this;exact this.symm
def dB:List UInt8->List UInt8 × Option (List UInt8)
 | []=>([],none)
 | b::l=>if b=47 then([],some l)else((b::(dB l).1),(dB l).2)
theorem tE:∀{l:List UInt8},(dB l).2=none->(dB l).1=l
 | [],_=>rfl
 | b::l,h=>by
  unfold dB at h |-;split at h
  ·cases h
  ·rename_i hb;rw[if_neg hb];simp only at h |-;rw[tE h]
theorem tF:∀{l r:List UInt8},(dB l).2=some r->(dB l).1++47::r=l
 | [],r,h=>by cases h
 | b::l,r,h=>by
  unfold dB at h |-;split at h
  ·rename_i hb;rw[if_pos hb];simp only at h |-;injection h with h;rw[h,hb];rfl
  ·rename_i hb;rw[if_neg hb];simp only at h |-;rw[List.cons_append,tF h]
theorem aAs:∀{l:List UInt8},(∀b,b∈l->b≠47)->dB l=(l,none)
 | [],_=>rfl
 | b::l,h=>by unfold dB;rw[if_neg (h b (.head _)),aAs (λc hc=>h c (.tail _ hc))]
theorem aAr:∀{p r:List UInt8},(∀b,b∈p->b≠47)->dB (p++47::r)=(p,some r)
 | [],r,_=>by simp[dB]
 | b::p,r,h=>by rw[List.cons_append];unfold dB;rw[if_neg (h b (.head _)),aAr (λc hc=>h c (.tail _ hc))]
theorem tM (z:Int):∀b,b∈itoa z->b≠47:=by
 intro b hb;have key:∀n,b∈decDigits n->b≠47:=λn h=>(aK2 (List.all_eq_true.1 (gT n) b h)).2;unfold itoa at hb;split at hb
 ·rcases List.mem_cons.1 hb with e | e
  ·rw[e];decide
  ·exact key _ e
 ·exact key _ hb
def pM (l:List UInt8):Option Rat:=match (dB l).2 with
 | none=>match wT l with | some z=>some (Rat.ofInt z) | none=>none
 | some r=>match wT (dB l).1,rdN r with
  | some z,some n=>if h:z≠0/\n≠0/\n≠1/\z.natAbs.gcd n=1 then some ⟨z,n,h.2.1,h.2.2.2⟩else none
  | _,_=>none
theorem dA (q:Rat):pM (aA q).data.toList=some q:=by
 rw[nB];split
 ·rename_i hd;have e:=aAs (tM q.num);unfold pM;rw[e];simp only[pN,Option.some.injEq];exact Rat.ext (p:=Rat.ofInt q.num) (q:=q) rfl hd.symm
 ·rename_i hd;have e:=aAr (r:=decDigits q.den) (tM q.num);unfold pM;rw[e];simp only[pN,aWq];have hr:q.num.natAbs.gcd q.den=1:=q.reduced;rw[dif_pos ⟨λh0=>hd (by rw[h0]at hr;simpa using hr),q.den_nz,hd,hr⟩]
theorem aTf {l:List UInt8}{q:Rat}(h:pM l=some q):l=(aA q).data.toList:=by
 unfold pM at h;split at h
 ·rename_i hc;cases hz:wT l with
  | none=>rw[hz]at h;cases h
  | some z=>
   rw[hz]at h;have h:Rat.ofInt z=q:=by injection h
   subst h;rw[nB,if_pos (show(Rat.ofInt z).den=1 from rfl)];exact wW hz
 ·rename_i r hc;split at h
  ·rename_i z n hz hn;split at h
   ·rename_i hh;injection h with h;subst h
    rw[nB,if_neg hh.2.2.1,<-wW hz,<-aCo hn];exact(tF hc).symm
   ·cases h
  ·cases h
theorem aUl {a b:Rat}(h:aA a=aA b):a=b:=by
 have:=dA a;rw[h,dA]at this;injection this with this;exact this.symm
theorem sR {s:ByteArray}{q:Rat}(h:pM s.data.toList=some q):s=aA q:=jQ (aTf h)
def dl (n:Nat):Nat:=(decDigits n).length
theorem aM2 (n:Nat):dl n=nDigits n:=decDigits_length n
theorem aBv (n:Nat):1<=dl n:=by rw[aM2];exact nDigits_pos n
theorem uE (n:Nat):n<10^dl n:=by rw[aM2];exact lt_pow_nDigits n
theorem aPe:∀(n:Nat),10<=n->10^(nDigits n - 1)<=n:=by
 intro n;induction n using Nat.strongRecOn with
 | _ n ih=>
  intro h;rw[nDigits_big zW,Nat.add_sub_cancel];by_cases h':n/10<10
  ·rw[nDigits_small h'];omega
  ·have:=ih (n/10) zW zW
   have h1:=nDigits_pos (n/10)
   obtain⟨k,hk⟩:∃k,nDigits (n/10)=k+1:=⟨nDigits (n/10) - 1,zW⟩;rw[hk]at this |-;rw[Nat.add_sub_cancel]at this;rw[Nat.pow_succ];omega
theorem sE {n k:Nat}(hk:1<=k)(h:n<10^k):dl n<=k:=by
 rw[aM2];by_cases hn:n<10
 ·rw[nDigits_small hn];exact hk
 ·have h1:=aPe n zW
  apply Classical.byContradiction;intro hlt;have:10^k<=10^(nDigits n - 1):=Nat.pow_le_pow_right zV zW;omega
theorem tJ {n m:Nat}(h:n<=m):dl n<=dl m:=sE (aBv m) (Nat.lt_of_le_of_lt h (uE m))
theorem qE (a b:Nat):dl (a*b)<=dl a+dl b:=by
 have ha:=aBv a
 refine sE zW ?_;rw[Nat.pow_add];exact Nat.mul_lt_mul_of_lt_of_le (uE a) (Nat.le_of_lt (uE b)) (Nat.pow_pos zV)
theorem aRm (a b:Nat):dl (a+b)<=max (dl a) (dl b)+1:=by
 refine sE zW ?_;have h1:=uE a;have h2:=uE b;have h3:10^dl a<=10^max (dl a) (dl b):=Nat.pow_le_pow_right zV (Nat.le_max_left _ _);have h4:10^dl b<=10^max (dl a) (dl b):=Nat.pow_le_pow_right zV (Nat.le_max_right _ _);rw[Nat.pow_succ];omega
theorem dJ (n:Nat):(aC n).length<=dl n:=by
 refine bM ?_;have h1:(10:Nat)^dl n<=1000000000^dl n:=Nat.pow_le_pow_left zV _;exact Nat.lt_of_lt_of_le (uE n) h1
theorem fK (n:Nat):(aL n).size=dl n:=by simp[aL,dl,ByteArray.size]
def sz (q:Rat):Nat:=max (dl q.num.natAbs) (dl q.den)
theorem bBp (q:Rat):1<=sz q:=by have:=aBv q.den;unfold sz;omega
theorem tO (q:Rat):q.num.natAbs<10^sz q:=Nat.lt_of_lt_of_le (uE _) (Nat.pow_le_pow_right zV (Nat.le_max_left _ _))
theorem mT (q:Rat):q.den<10^sz q:=Nat.lt_of_lt_of_le (uE _) (Nat.pow_le_pow_right zV (Nat.le_max_right _ _))
theorem aJo {p:Int}{q k:Nat}(hk:1<=k)(hp:p.natAbs<10^k)(hq:q<10^k):sz (mkRat p q)<=k:=by
 by_cases h0:q=0
 ·subst h0;rw[Rat.mkRat_zero];have h1:dl 0<=k:=sE hk zW;have h2:dl 1<=k:=sE hk (by
   obtain⟨j,rfl⟩:∃j,k=j+1:=⟨k - 1,zW⟩;have:=Nat.one_le_pow j 10 zV;rw[Nat.pow_succ];omega)
  exact Nat.max_le.2 ⟨h1,h2⟩
 ·obtain⟨d,d0,e1,e2⟩:=Rat.normalize_num_den' p q h0;rw[Rat.normalize_eq_mkRat]at e1 e2;have hd:1<=d:=Nat.pos_of_ne_zero d0;refine Nat.max_le.2 ⟨sE hk ?_,sE hk ?_⟩
  ·have:p.natAbs=(mkRat p q).num.natAbs*d:=by rw[congrArg Int.natAbs e1,Int.natAbs_mul,Int.natAbs_natCast]
   have h2:(mkRat p q).num.natAbs*1<=(mkRat p q).num.natAbs*d:=Nat.mul_le_mul_left _ hd
   omega
  ·have h2:(mkRat p q).den*1<=(mkRat p q).den*d:=Nat.mul_le_mul_left _ hd
   omega
theorem nO {a b j k:Nat}(ha:a<10^j)(hb:b<10^k):a*b<10^(j+k):=by
 rw[Nat.pow_add];exact Nat.mul_lt_mul_of_lt_of_le ha (Nat.le_of_lt hb) (Nat.pow_pos zV)
theorem yR (a b:Rat):sz (a*b)<=sz a+sz b:=by
 rw[Rat.mul_def'];have h1:=bBp a;refine aJo zW ?_ (nO (mT a) (mT b));rw[Int.natAbs_mul];exact nO (tO a) (tO b)
theorem yP (a b:Rat):sz (a+b)<=sz a+sz b+1:=by
 rw[Rat.add_def'];have hd:=nO (mT a) (mT b);have h1:=nO (tO a) (mT b);have h2:=nO (mT a) (tO b);refine aJo zW ?_ ?_
 ·have h3:=Int.natAbs_add_le (a.num*b.den) (b.num*a.den)
  rw[Int.natAbs_mul,Int.natAbs_mul,Int.natAbs_natCast,Int.natAbs_natCast,Nat.mul_comm b.num.natAbs]at h3;rw[Nat.pow_succ];omega
 ·rw[Nat.pow_succ];omega
theorem qX (a:Rat):sz (-a)=sz a:=by unfold sz;simp
theorem aC2 (a b:Rat):sz (a - b)<=sz a+sz b+1:=by
 rw[Rat.sub_eq_add_neg];have:=yP a (-b);rw[qX]at this;exact this
theorem aT8 (a:Rat):sz a⁻¹<=sz a:=by
 unfold sz;rw[Rat.num_inv,Rat.den_inv];by_cases h:a.num=0
 ·rw[if_pos h,h];simp;have h1:dl 0=1:=by unfold dl;rw[bO zV];rfl
  have h2:dl 1=1:=by unfold dl;rw[bO zV];rfl
  have:=aBv a.den
  omega
 ·rw[if_neg h,Int.natAbs_mul,Int.natAbs_natCast,Int.natAbs_sign_of_ne_zero h,Nat.one_mul,Nat.max_comm];exact lRf _
theorem yQ (a b:Rat):sz (a/b)<=sz a+sz b:=by
 rw[Rat.div_def];have h1:=yR a b⁻¹;have h2:=aT8 b;omega
theorem zZ (z:Int):(itoa z).length<=dl z.natAbs+1:=by
 unfold itoa;split
 ·simp[dl]
 ·rename_i h;rw[show z.toNat=z.natAbs by omega];unfold dl;omega
theorem lG (z:Int):(aY z).size<=dl z.natAbs+1:=by
 have:=zZ z;simpa[aY,ByteArray.size]using this
theorem iY (q:Rat):sz q<=(aA q).size:=by
 have h1:(aA q).size=(aA q).data.toList.length:=rfl
 rw[h1,nB];have h2:dl q.num.natAbs<=(itoa q.num).length:=by
  unfold itoa dl;split
  ·simp
  ·rename_i h;rw[show q.num.toNat=q.num.natAbs by omega];omega
 have h3:=aBv q.num.natAbs
 unfold sz;split
 ·rename_i h;rw[h,show dl 1=1 by unfold dl;rw[bO zV];rfl];omega
 ·rw[List.length_append,List.length_cons];unfold dl at *;omega
end Go.Num
namespace Go.Ai
open Go Go.Proofs Go.Num
theorem rR:aB PP 205:=zK
theorem aN6 (s:ByteArray):s.toList=s.data.toList:=by
 have key:∀(n i:Nat) (r:List UInt8),s.size - i=n->ByteArray.toList.loop s i r=r.reverse++s.data.toList.drop i:=by
  intro n;induction n with
  | zero=>
   intro i r h;rw[ByteArray.toList.loop];have hs:s.data.toList.length=s.size:=rfl;rw[if_neg zW,List.drop_of_length_le zW];simp
  | succ n ih=>
   intro i r h;rw[ByteArray.toList.loop];have hs:s.data.toList.length=s.size:=rfl;have hi:i<s.size:=zW;rw[if_pos hi,ih (i+1) _ zW];have hg:s.get! i=s.data.toList[i]'zW:=by
    cases s with
    | mk d=>
     show d[i]! =_
     have:i<d.size:=hi
     simp[getElem!_pos d i this]
   rw[hg,List.reverse_cons,List.append_assoc,List.drop_eq_getElem_cons (zW:i<s.data.toList.length)];rfl
 have:=key s.size 0 [] zW
 simpa[ByteArray.toList]using this
theorem xC {a b:SE}:(BE.seq a b).den=(a.den.data.toList==b.den.data.toList):=by
 simp only[BE.den,aN6]
theorem BE.seq_t {a b:SE}(h:(BE.seq a b).den=true):a.den.data.toList=b.den.data.toList:=by rw[xC]at h;simpa using h
theorem BE.seq_f {a b:SE}(h:(BE.seq a b).den=false):a.den.data.toList≠b.den.data.toList:=by rw[xC]at h;simpa using h
theorem jS {s:ByteArray}{i:IE}{k:Nat}(hi:i.den.toNat=k):(IE.byte (.v s) i).den=((s.data.toList.getD k 0).toNat:Int):=by
 show((s.data.toList.getD i.den.toNat 0).toNat:Int)=_
 rw[hi]
theorem aYe {b:UInt8}:(b.toNat:Int)=48↔b=48:=by
 constructor
 ·intro h;apply UInt8.toNat_inj.1;show b.toNat=48
  omega
 ·intro h;subst h;rfl
theorem aK5 {s:ByteArray}{l:List UInt8}(hl:l=s.data.toList)(m:Nat):(BE.lt (.l m) (.len (.v s))).den=decide (m<l.length):=by
 show decide ((m:Int)<((s.size:Nat):Int))=_
 have:l.length=s.size:=by rw[hl];rfl
 exact decide_eq_decide.2 zW
theorem aMd {s:ByteArray}{l:List UInt8}(hl:l=s.data.toList){i:IE}{k:Nat}(hi:i.den.toNat=k)(m:Nat):(BE.lt (.byte (.v s) i) (.l m)).den=decide ((l.getD k 0).toNat<m):=by
 show decide ((IE.byte (.v s) i).den<(m:Int))=_
 rw[jS hi,<-hl];exact decide_eq_decide.2 zW
theorem aNd {s:ByteArray}{l:List UInt8}(hl:l=s.data.toList){i:IE}{k:Nat}(hi:i.den.toNat=k)(m:Nat):(BE.lt (.l m) (.byte (.v s) i)).den=decide (m<(l.getD k 0).toNat):=by
 show decide ((m:Int)<(IE.byte (.v s) i).den)=_
 rw[jS hi,<-hl];exact decide_eq_decide.2 zW
theorem uY {l:List UInt8}{k:Nat}:mI (l.getD k 0)=true↔48<=(l.getD k 0).toNat/\(l.getD k 0).toNat<=57:=by
 simp[mI]
theorem aG2 {l:List UInt8}{k:Nat}(hk:k<l.length)(h:(l.take k).all mI=true)(hd:mI (l.getD k 0)=true):(l.take (k+1)).all mI=true:=by
 have hg:l.getD k 0=l[k]:=by simp[hk]
 rw[hg]at hd;rw[List.take_succ_eq_append_getElem hk,List.all_append,h];simp[hd]
theorem aL6 {l:List UInt8}{k:Nat}(hk:k<l.length)(hd:¬mI (l.getD k 0)=true):isNat l=false:=by
 have hg:l.getD k 0=l[k]:=by simp[hk]
 rw[hg]at hd;have:l.all mI=false:=by
  rw[Bool.eq_false_iff];intro h;exact hd (List.all_eq_true.1 h _ (List.getElem_mem hk))
 simp[isNat,this]
theorem aK3 {l:List UInt8}(h:1<l.length/\l.getD 0 0=48):isNat l=false:=by
 have h1:¬l.length=1:=zW
 simp only[isNat,h1,decide_false,h.1,decide_true,Bool.true_and,Bool.false_or,h.2,ne_eq,not_true_eq_false,Bool.false_and]
theorem aK4 {l:List UInt8}(h0:l≠[])(h:¬(1<l.length/\l.getD 0 0=48))(hd:(l.take l.length).all mI=true):isNat l=true:=by
 have hp:=List.length_pos_iff.2 h0
 rw[List.take_of_length_le (lRf _)]at hd;simp only[isNat,hd,Bool.and_true,Bool.or_eq_true,decide_eq_true_eq,Bool.and_eq_true];by_cases h1:l.length=1
 ·exact .inl h1
 ·exact .inr ⟨zW,λe=>h ⟨zW,e⟩⟩
theorem aLa (s:ByteArray)(hs:s.size<=2^60):Pure PP 205 [.string s] (.bool (isNat s.data.toList)):=by
 obtain⟨res,lS⟩:=nm (isNat s.data.toList);obtain⟨l,hl⟩:=nm (s.data.toList);rw[<-lS];rw[<-hl]at lS;have hlen:l.length=s.size:=by rw[hl];rfl
 obtain⟨n,hn⟩:=nm (l.length);have hsz:(IE.len (.v s)).den=(IE.n n).den:=by show((s.size:Nat):Int)=_;rw[hn,hlen];rfl
 refine aH mixed tok [.s (.v s)] Tryz.func205 rfl rfl rfl λc hc hR=>?_;apply zN hc;cbv;by_cases h0:l=[]
 ·refine bV 6 rfl rfl 100 (λh=>?_) (λh=>?_)
  ·have hf:res=false:=by rw[lS,h0];rfl
   subst hf;cbv;exact bR hc hR (av:=.b (.l false)) rfl rfl
  ·exact absurd h0 (by have:=BE.seq_f h;rw[hl];exact this)
 ·refine bV 6 rfl rfl 100 (λh=>?_) (λh=>?_)
  ·exact absurd (BE.seq_t h) (by rw[<-show l=(SE.v s).den.data.toList from hl];exact h0)
  have hp:=List.length_pos_iff.2 h0
  have o1:(Obl.ltE (.l 0) (.len (.v s))).ok:=by show _/\_;rw[hsz];simp only[IE.den];omega
  have e48:(BE.eq (.byte (.v s) (.l 0)) (.l 48)).den=decide (l.getD 0 0=48):=by
   simp only[BE.den];exact decide_eq_decide.2 (by rw[jS (k:=0) rfl,<-hl];exact aYe)
  have l1:=aK5 hl 1
  by_cases hh:1<l.length/\l.getD 0 0=48
  ·have hf:res=false:=by rw[lS];exact aK3 hh
   subst hf;cbv;refine bV 10 rfl rfl 100 (λh2=>?_) (λh2=>?_)
   ·cbv;refine zO ?_;refine aE rfl 100 (λh=>?_) (λh=>?_)
    ·cbv;exact bR hc hR (av:=.b (.l false)) rfl rfl
    ·rw[e48]at h;exact absurd hh.2 (of_decide_eq_false h)
   ·have h2:=l1.symm.trans h2;exact absurd hh.1 (of_decide_eq_false h2)
  ·apply aRj (c:=c) (K:=[]) (S':=⟨[(17,.i .i64 (.n n)),(18,.i .i64 (.n 0)),(0,.s (.v s))],[],[]⟩) (λgen=>?_)
   rotate_left 2
   ·cbv;refine bV 10 rfl rfl 100 (λh2=>?_) (λh2=>?_)
    ·have h2:=l1.symm.trans h2
     cbv;refine zO ?_;refine aE rfl 100 (λh=>?_) (λh=>?_)
     ·rw[e48]at h;exact absurd ⟨of_decide_eq_true h2,of_decide_eq_true h⟩ hh
     ·cbv;exact zU 0 (S':=⟨[(17,.i .i64 (.n n)),(18,.i .i64 (.n 0)),(0,.s (.v s))],[],[]⟩) (K':=[]) ⟨zI rfl rfl hsz,zL⟩ trivial trivial gen
    ·cbv;exact zU 0 (S':=⟨[(17,.i .i64 (.n n)),(18,.i .i64 (.n 0)),(0,.s (.v s))],[],[]⟩) (K':=[]) ⟨zI rfl rfl hsz,zL⟩ trivial trivial gen
   ·let ι:={k:Nat//k<=n/\(l.take k).all mI=true}
    let I:ι->St:=λx=>⟨[(17,.i .i64 (.n n)),(18,.i .i64 (.n x.1)),(0,.s (.v s))],[],[]⟩
    let x0:ι:=⟨0,Nat.zero_le _,rfl⟩
    refine bQ hc I (λx=>n - x.1) x0 100 ?_;rintro p ⟨k,hk,cI⟩ hy;cbv;refine aE rfl 100 (λh=>?_) (λh=>?_)
    ·have hkn:k<n:=BE.ltn_t h
     obtain⟨k',hk'⟩:=nm (k+1);have o2:(Obl.ltE (.n k) (.len (.v s))).ok:=by show _/\_;rw[hsz];simp only[IE.den];omega
     have o3:(Obl.inR .i64 (.add (.n k) (.l 1))).ok:=by show lo _<=_/\_<=hi _;simp only[lo,hi,IE.den];omega
     have ek:(IE.byte (.v s) (.n k)).den=((l.getD k 0).toNat:Int):=by rw[hl];exact jS (by simp[IE.den])
     have hi1:((IE.n k).add (IE.l 1)).den=(IE.n k').den:=by simp only[IE.den,hk'];omega
     have aSf:k'<=n:=zW
     have hms:n - k'<n - k:=zW
     have hkl:k<l.length:=zW
     have hno:¬mI (l.getD k 0)=true->res=false:=λh=>by rw[lS];exact aL6 hkl h
     have bAn:mI (l.getD k 0)=true->(l.take k').all mI=true:=λh=>by rw[hk'];exact aG2 hkl cI h
     have hlt:=aMd hl (i:=.n k) (k:=k) (by simp[IE.den]) 48
     have hgt:=aNd hl (i:=.n k) (k:=k) (by simp[IE.den]) 57
     cbv;refine zO ?_;refine bV 25 rfl rfl 100 (λh=>?_) (λh=>?_)
     ·have h:=of_decide_eq_true (hlt.symm.trans h)
      have hf:=hno (λhd=>by have:=uY.1 hd;omega)
      subst hf;cbv;exact bR hc hR (av:=.b (.l false)) rfl rfl
     ·have h:=of_decide_eq_false (hlt.symm.trans h)
      cbv;refine zO ?_;refine aE rfl 100 (λh2=>?_) (λh2=>?_)
      ·have h2:=of_decide_eq_true (hgt.symm.trans h2)
       have hf:=hno (λhd=>by have:=uY.1 hd;omega)
       subst hf;cbv;exact bR hc hR (av:=.b (.l false)) rfl rfl
      ·have h2:=of_decide_eq_false (hgt.symm.trans h2)
       have hd:=bAn (uY.2 ⟨zW,zW⟩)
       cbv;refine zO ?_;exact zU 0 (S':=I ⟨k',aSf,hd⟩) (K':=[]) ⟨zS,zI rfl rfl hi1,zL⟩ trivial trivial (hy _ hms)
    ·have hkn:n<=k:=BE.ltn_f h
     have hkl:k=l.length:=zW
     have hf:res=true:=by rw[lS];exact aK4 h0 hh (by rw[<-hkl];exact cI)
     subst hf;cbv;exact bR hc hR (av:=.b (.l true)) rfl rfl
end Go.Ai
namespace Go.Proofs
open Go.Shelf
def Tryz.lays169_ren:Go.Shelf.Ren:=⟨fun | 169=>280 | n=>n,fun | 70=>328 | 9=>9 | 0=>0 | 72=>330 | 37=>189 | 127=>356 | 3=>3 | 5=>5 | n=>n,fun | n=>n⟩
theorem Tryz.lays169:Go.Proofs.Lays.n169 Tryz.prog Tryz.lays169_ren:={
 mixed:=zG
 f169:=Tryz.func280.trans (congrArg some zG)
 t0:=Tryz.underlying0
 a0:=Tryz.isAgg0
 z0:=Tryz.sizeOf0
 v0:=Tryz.zeroValue0
 t3:=Tryz.underlying3
 a3:=Tryz.isAgg3
 z3:=Tryz.sizeOf3
 v3:=Tryz.zeroValue3
 t9:=Tryz.underlying9
 a9:=Tryz.isAgg9
 z9:=Tryz.sizeOf9
 v9:=Tryz.zeroValue9
 t37:=Tryz.underlying189
 a37:=Tryz.isAgg189
 z37:=Tryz.sizeOf189
 v37:=Tryz.zeroValue189
 t70:=Tryz.underlying328
 a70:=Tryz.isAgg328
 z70:=Tryz.sizeOf328
 v70:=Tryz.zeroValue328
 t72:=Tryz.underlying330
 a72:=Tryz.isAgg330
 z72:=Tryz.sizeOf330
 v72:=Tryz.zeroValue330
 t127:=Tryz.underlying356
 a127:=Tryz.isAgg356
 z127:=Tryz.sizeOf356
 v127:=Tryz.zeroValue356}
theorem Tryz.Builder_Extra_169:Builder.Extra Tryz.prog Tryz.lays169_ren:={
 sizeBuilder:=zG
 liesBuilder:=zG
 t5:=Tryz.underlying5
 a5:=Tryz.isAgg5
 z5:=Tryz.sizeOf5
 v5:=Tryz.zeroValue5
 infoByte:=zG
 cellsByte:=zG
 sizeByte:=zG
 neB5:=by decide}
def Tryz.lays103_ren:Go.Shelf.Ren:=⟨fun | 103=>241 | 210=>254 | 206=>272 | n=>n,fun | 9=>9 | 4=>4 | 24=>294 | 3=>3 | n=>n,fun | n=>n⟩
theorem Tryz.lays103:Go.Proofs.Lays.n103 Tryz.prog Tryz.lays103_ren:={
 mixed:=zG
 f103:=Tryz.func241.trans (congrArg some zG)
 f206:=Tryz.func272.trans (congrArg some zG)
 f210:=Tryz.func254.trans (congrArg some zG)
 t3:=Tryz.underlying3
 a3:=Tryz.isAgg3
 z3:=Tryz.sizeOf3
 v3:=Tryz.zeroValue3
 t4:=Tryz.underlying4
 a4:=Tryz.isAgg4
 z4:=Tryz.sizeOf4
 v4:=Tryz.zeroValue4
 t9:=Tryz.underlying9
 a9:=Tryz.isAgg9
 z9:=Tryz.sizeOf9
 v9:=Tryz.zeroValue9
 t24:=Tryz.underlying294
 a24:=Tryz.isAgg294
 z24:=Tryz.sizeOf294
 v24:=Tryz.zeroValue294}
open Go.RowKit in
theorem Tryz.strings_CutPrefix (s p:ByteArray)(w:World):
  Calls Tryz.prog 241 #[.string s,.string p] w λe w'=>e=.returned (.tuple #[.string ⟨(Lib.trimPrefix s.data.toList p.data.toList).toArray⟩,.bool (Lib.hasPrefix s.data.toList p.data.toList)])/\w'=w:=Any.strings_CutPrefix Tryz.lays103 s p w
open Go.RowKit in
theorem Tryz.Builder_String_any_k (B b:Nat)(l:List UInt8)(w:World)(h:Lib.IsBuilderF 330 5 B b (Lib.byteCells l) w)(hBw:B<=w.heap.size):
  Calls Tryz.prog 280 #[.pointer (some ⟨b,0,none⟩)] w λe w'=>e=.returned (.string ⟨l.toArray⟩)/\(Lib.IsBuilderF 330 5 B b (Lib.byteCells l) w'/\Below B w w'/\Lib.OthersKept 5 (some b) w w'):=Any.Builder_String_any_k Tryz.lays169 Tryz.Builder_Extra_169 B b l w h hBw
def Tryz.lays283_ren:Go.Shelf.Ren:=⟨fun | 283=>290 | n=>n,fun | 3=>3 | 9=>9 | 4=>4 | n=>n,fun | n=>n⟩
theorem Tryz.lays283:Go.Proofs.Lays.n283 Tryz.prog Tryz.lays283_ren:={
 mixed:=zG
 f283:=Tryz.func290.trans (congrArg some zG)
 t3:=Tryz.underlying3
 a3:=Tryz.isAgg3
 z3:=Tryz.sizeOf3
 v3:=Tryz.zeroValue3
 t4:=Tryz.underlying4
 a4:=Tryz.isAgg4
 z4:=Tryz.sizeOf4
 v4:=Tryz.zeroValue4
 t9:=Tryz.underlying9
 a9:=Tryz.isAgg9
 z9:=Tryz.sizeOf9
 v9:=Tryz.zeroValue9}
open Go.Lib in
theorem Tryz.internal_strconv_small (i:Nat)(h:i<100)(w:World):
  Calls Tryz.prog 290 #[.int .i64 i] w λe w'=>e=.returned (.string ⟨(Lib.decDigits i).toArray⟩)/\w'=w:=Any.internal_strconv_small Tryz.lays283 i h w
def Tryz.laysM284_ren:Go.Shelf.Ren:=⟨fun | 284=>291 | 129=>309 | 317=>308 | 318=>310 | n=>n,fun | 53=>181 | 3=>3 | 212=>364 | 0=>0 | 4=>4 | 46=>311 | 5=>5 | 9=>9 | n=>n,fun | 17=>3 | n=>n⟩
theorem Tryz.laysM284:Go.Proofs.LaysM.n284 Tryz.prog Tryz.laysM284_ren:={
 mixed:=zG
 f129:=Tryz.func309.trans (congrArg some zG)
 f284:=Tryz.func291.trans (congrArg some zG)
 f317:=Tryz.func308.trans (congrArg some zG)
 f318:=Tryz.func310.trans (congrArg some zG)
 t0:=Tryz.underlying0
 a0:=Tryz.isAgg0
 z0:=Tryz.sizeOf0
 v0:=Tryz.zeroValue0
 t3:=Tryz.underlying3
 a3:=Tryz.isAgg3
 z3:=Tryz.sizeOf3
 v3:=Tryz.zeroValue3
 t4:=Tryz.underlying4
 a4:=Tryz.isAgg4
 z4:=Tryz.sizeOf4
 v4:=Tryz.zeroValue4
 t5:=Tryz.underlying5
 a5:=Tryz.isAgg5
 z5:=Tryz.sizeOf5
 v5:=Tryz.zeroValue5
 t9:=Tryz.underlying9
 a9:=Tryz.isAgg9
 z9:=Tryz.sizeOf9
 v9:=Tryz.zeroValue9
 t46:=Tryz.underlying311
 a46:=Tryz.isAgg311
 z46:=Tryz.sizeOf311
 v46:=Tryz.zeroValue311
 t53:=Tryz.underlying181
 a53:=Tryz.isAgg181
 z53:=Tryz.sizeOf181
 v53:=Tryz.zeroValue181
 t212:=Tryz.underlying364
 a212:=Tryz.isAgg364
 z212:=Tryz.sizeOf364
 v212:=Tryz.zeroValue364
 g17:=zG
 i0:=zG
 i3:=zG
 i4:=zG
 i5:=zG
 i9:=zG
 i46:=zG
 i53:=zG
 i212:=zG
 m17:=by kernel_rfl}
open Go.Lib in
theorem Tryz.internal_strconv_numDigits (u:Nat)(h1:1<=u)(h2:u<18446744073709551616)(w:World)(aDi:Lib.TabIs Tryz.prog w "internal/strconv.uint64pow10" .u64 Lib.pow10Tab):
  Calls Tryz.prog 291 #[.int .u64 u] w λe w'=>e=.returned (.int .i64 (Lib.nDigits u))/\w'=w:=Any.internal_strconv_numDigits Tryz.laysM284 u h1 h2 w aDi
def Tryz.lays285_ren:Go.Shelf.Ren:=⟨fun | 285=>292 | n=>n,fun | 37=>189 | 53=>181 | 3=>3 | 4=>4 | 51=>138 | 9=>9 | 5=>5 | 0=>0 | n=>n,fun | n=>n⟩
theorem Tryz.lays285:Go.Proofs.Lays.n285 Tryz.prog Tryz.lays285_ren:={
 mixed:=zG
 f285:=Tryz.func292.trans (congrArg some zG)
 t0:=Tryz.underlying0
 a0:=Tryz.isAgg0
 z0:=Tryz.sizeOf0
 v0:=Tryz.zeroValue0
 t3:=Tryz.underlying3
 a3:=Tryz.isAgg3
 z3:=Tryz.sizeOf3
 v3:=Tryz.zeroValue3
 t4:=Tryz.underlying4
 a4:=Tryz.isAgg4
 z4:=Tryz.sizeOf4
 v4:=Tryz.zeroValue4
 t5:=Tryz.underlying5
 a5:=Tryz.isAgg5
 z5:=Tryz.sizeOf5
 v5:=Tryz.zeroValue5
 t9:=Tryz.underlying9
 a9:=Tryz.isAgg9
 z9:=Tryz.sizeOf9
 v9:=Tryz.zeroValue9
 t37:=Tryz.underlying189
 a37:=Tryz.isAgg189
 z37:=Tryz.sizeOf189
 v37:=Tryz.zeroValue189
 t51:=Tryz.underlying138
 a51:=Tryz.isAgg138
 z51:=Tryz.sizeOf138
 v51:=Tryz.zeroValue138
 t53:=Tryz.underlying181
 a53:=Tryz.isAgg181
 z53:=Tryz.sizeOf181
 v53:=Tryz.zeroValue181}
open Go.RowKit Go.Sort Go.Lib in
theorem Tryz.internal_strconv_formatBase10 (blk off cap:Nat)(u:Nat)(d:Array UInt8)(w:World)(hH:Holds (λ(b:UInt8)=>Value.int .u8 (b.toNat:Int)) w blk off d)(hu:u<10^d.size)(aKx:u<18446744073709551616)(hsz:d.size<4611686018427387904):
  Calls Tryz.prog 292 #[.slice (some ⟨blk,off,none⟩) d.size cap,.int .u64 u] w λe w'=>
   e=.returned (.tuple #[])/\∃(n v':Nat) (dk:Array UInt8),w'=(putRow (λ(b:UInt8)=>Value.int .u8 (b.toNat:Int)) w blk off dk).drewN n/\FmtInv d.size u 0 v' dk:=Any.internal_strconv_formatBase10 Tryz.lays285 blk off cap u d w hH hu aKx hsz
def Tryz.laysM173_ren:Go.Shelf.Ren:=⟨fun | 173=>251 | 246=>270 | 283=>290 | 284=>291 | 285=>292 | 286=>293 | 129=>309 | 317=>308 | 318=>310 | 319=>311 | 320=>312 | 337=>318 | 338=>319 | n=>n,fun | 2=>2 | 3=>3 | 9=>9 | 4=>4 | 171=>347 | 0=>0 | 53=>181 | 37=>189 | 5=>5 | 173=>350 | 212=>364 | 51=>138 | 20=>20 | 213=>365 | 46=>311 | 232=>377 | 233=>378 | n=>n,fun | 17=>3 | 18=>4 | 19=>5 | n=>n⟩
theorem Tryz.laysM173:Go.Proofs.LaysM.n173 Tryz.prog Tryz.laysM173_ren:={
 mixed:=zG
 f129:=Tryz.func309.trans (congrArg some zG)
 f173:=Tryz.func251.trans (congrArg some zG)
 f246:=Tryz.func270.trans (congrArg some zG)
 f283:=Tryz.func290.trans (congrArg some zG)
 f284:=Tryz.func291.trans (congrArg some zG)
 f285:=Tryz.func292.trans (congrArg some zG)
 f286:=Tryz.func293.trans (congrArg some zG)
 f317:=Tryz.func308.trans (congrArg some zG)
 f318:=Tryz.func310.trans (congrArg some zG)
 f319:=Tryz.func311.trans (congrArg some zG)
 f320:=Tryz.func312.trans (congrArg some zG)
 f337:=Tryz.func318.trans (congrArg some zG)
 f338:=Tryz.func319.trans (congrArg some zG)
 t0:=Tryz.underlying0
 a0:=Tryz.isAgg0
 z0:=Tryz.sizeOf0
 v0:=Tryz.zeroValue0
 t2:=Tryz.underlying2
 a2:=Tryz.isAgg2
 z2:=Tryz.sizeOf2
 v2:=Tryz.zeroValue2
 t3:=Tryz.underlying3
 a3:=Tryz.isAgg3
 z3:=Tryz.sizeOf3
 v3:=Tryz.zeroValue3
 t4:=Tryz.underlying4
 a4:=Tryz.isAgg4
 z4:=Tryz.sizeOf4
 v4:=Tryz.zeroValue4
 t5:=Tryz.underlying5
 a5:=Tryz.isAgg5
 z5:=Tryz.sizeOf5
 v5:=Tryz.zeroValue5
 t9:=Tryz.underlying9
 a9:=Tryz.isAgg9
 z9:=Tryz.sizeOf9
 v9:=Tryz.zeroValue9
 t20:=Tryz.underlying20
 a20:=Tryz.isAgg20
 z20:=Tryz.sizeOf20
 v20:=Tryz.zeroValue20
 t37:=Tryz.underlying189
 a37:=Tryz.isAgg189
 z37:=Tryz.sizeOf189
 v37:=Tryz.zeroValue189
 t46:=Tryz.underlying311
 a46:=Tryz.isAgg311
 z46:=Tryz.sizeOf311
 v46:=Tryz.zeroValue311
 t51:=Tryz.underlying138
 a51:=Tryz.isAgg138
 z51:=Tryz.sizeOf138
 v51:=Tryz.zeroValue138
 t53:=Tryz.underlying181
 a53:=Tryz.isAgg181
 z53:=Tryz.sizeOf181
 v53:=Tryz.zeroValue181
 t171:=Tryz.underlying347
 a171:=Tryz.isAgg347
 z171:=Tryz.sizeOf347
 v171:=Tryz.zeroValue347
 t173:=Tryz.underlying350
 a173:=Tryz.isAgg350
 z173:=Tryz.sizeOf350
 v173:=Tryz.zeroValue350
 t212:=Tryz.underlying364
 a212:=Tryz.isAgg364
 z212:=Tryz.sizeOf364
 v212:=Tryz.zeroValue364
 t213:=Tryz.underlying365
 a213:=Tryz.isAgg365
 z213:=Tryz.sizeOf365
 t232:=Tryz.underlying377
 a232:=Tryz.isAgg377
 z232:=Tryz.sizeOf377
 v232:=Tryz.zeroValue377
 t233:=Tryz.underlying378
 a233:=Tryz.isAgg378
 z233:=Tryz.sizeOf378
 v233:=Tryz.zeroValue378
 g17:=zG
 g18:=zG
 g19:=zG
 i0:=zG
 i2:=zG
 i3:=zG
 i4:=zG
 i5:=zG
 i9:=zG
 i20:=zG
 i37:=zG
 i46:=zG
 i51:=zG
 i53:=zG
 i171:=zG
 i173:=zG
 i212:=zG
 i232:=zG
 i233:=zG
 m17:=zG
 m18:=zG
 m19:=by kernel_rfl}
open Go.RowKit Go.Sort Go.Lib in
theorem Tryz.strconv_FormatInt_10 (n:Int)(h0:-9223372036854775808<=n)(h1:n<=9223372036854775807)(w:World)(aDi:Lib.TabIs Tryz.prog w "internal/strconv.uint64pow10" .u64 Lib.pow10Tab):
  Calls Tryz.prog 251 #[.int .i64 n,.int .i64 10] w λe w'=>e=.returned (.string ⟨(Lib.itoa n).toArray⟩)/\∃k os,w'=grow (w.drewN k) os:=Any.strconv_FormatInt_10 Tryz.laysM173 n h0 h1 w aDi
def Tryz.laysC174_ren:Go.Shelf.Ren:=⟨fun | 174=>250 | 247=>268 | 245=>269 | 287=>285 | 279=>286 | 280=>287 | 281=>288 | 282=>289 | 321=>303 | 322=>304 | 316=>305 | 171=>307 | 205=>306 | 243=>317 | 246=>270 | 283=>290 | 284=>291 | 285=>292 | 286=>293 | 129=>309 | 317=>308 | 318=>310 | 319=>311 | 320=>312 | 337=>318 | 338=>319 | n=>n,fun | 9=>9 | 3=>3 | 2=>2 | 75=>303 | 85=>304 | 4=>4 | 167=>342 | 5=>5 | 53=>181 | 175=>326 | 46=>311 | 168=>343 | 37=>189 | 0=>0 | 210=>362 | 21=>21 | 127=>356 | 145=>374 | 143=>372 | 171=>347 | 173=>350 | 212=>364 | 51=>138 | 20=>20 | 213=>365 | 232=>377 | 233=>378 | 80=>277 | n=>n,fun | 15=>1 | 16=>2 | 17=>3 | 18=>4 | 19=>5 | n=>n⟩
theorem Tryz.laysC174:Go.Proofs.LaysC.n174 Tryz.prog Tryz.laysC174_ren:={
 mixed:=zG
 f129:=Tryz.func309.trans (congrArg some zG)
 f171:=Tryz.func307.trans (congrArg some zG)
 f174:=Tryz.func250.trans (congrArg some zG)
 f205:=Tryz.func306.trans (congrArg some zG)
 f243:=Tryz.func317.trans (congrArg some zG)
 f245:=Tryz.func269.trans (congrArg some zG)
 f246:=Tryz.func270.trans (congrArg some zG)
 f247:=Tryz.func268.trans (congrArg some zG)
 f279:=Tryz.func286.trans (congrArg some zG)
 f280:=Tryz.func287.trans (congrArg some zG)
 f281:=Tryz.func288.trans (congrArg some zG)
 f282:=Tryz.func289.trans (congrArg some zG)
 f283:=Tryz.func290.trans (congrArg some zG)
 f284:=Tryz.func291.trans (congrArg some zG)
 f285:=Tryz.func292.trans (congrArg some zG)
 f286:=Tryz.func293.trans (congrArg some zG)
 f287:=Tryz.func285.trans (congrArg some zG)
 f316:=Tryz.func305.trans (congrArg some zG)
 f317:=Tryz.func308.trans (congrArg some zG)
 f318:=Tryz.func310.trans (congrArg some zG)
 f319:=Tryz.func311.trans (congrArg some zG)
 f320:=Tryz.func312.trans (congrArg some zG)
 f321:=Tryz.func303.trans (congrArg some zG)
 f322:=Tryz.func304.trans (congrArg some zG)
 f337:=Tryz.func318.trans (congrArg some zG)
 f338:=Tryz.func319.trans (congrArg some zG)
 t0:=Tryz.underlying0
 a0:=Tryz.isAgg0
 z0:=Tryz.sizeOf0
 v0:=Tryz.zeroValue0
 t2:=Tryz.underlying2
 a2:=Tryz.isAgg2
 z2:=Tryz.sizeOf2
 v2:=Tryz.zeroValue2
 t3:=Tryz.underlying3
 a3:=Tryz.isAgg3
 z3:=Tryz.sizeOf3
 v3:=Tryz.zeroValue3
 t4:=Tryz.underlying4
 a4:=Tryz.isAgg4
 z4:=Tryz.sizeOf4
 v4:=Tryz.zeroValue4
 t5:=Tryz.underlying5
 a5:=Tryz.isAgg5
 z5:=Tryz.sizeOf5
 v5:=Tryz.zeroValue5
 t9:=Tryz.underlying9
 a9:=Tryz.isAgg9
 z9:=Tryz.sizeOf9
 v9:=Tryz.zeroValue9
 t20:=Tryz.underlying20
 a20:=Tryz.isAgg20
 z20:=Tryz.sizeOf20
 v20:=Tryz.zeroValue20
 t21:=Tryz.underlying21
 a21:=Tryz.isAgg21
 z21:=Tryz.sizeOf21
 v21:=Tryz.zeroValue21
 t37:=Tryz.underlying189
 a37:=Tryz.isAgg189
 z37:=Tryz.sizeOf189
 v37:=Tryz.zeroValue189
 t46:=Tryz.underlying311
 a46:=Tryz.isAgg311
 z46:=Tryz.sizeOf311
 v46:=Tryz.zeroValue311
 t51:=Tryz.underlying138
 a51:=Tryz.isAgg138
 z51:=Tryz.sizeOf138
 v51:=Tryz.zeroValue138
 t53:=Tryz.underlying181
 a53:=Tryz.isAgg181
 z53:=Tryz.sizeOf181
 v53:=Tryz.zeroValue181
 t75:=Tryz.underlying303
 a75:=Tryz.isAgg303
 z75:=Tryz.sizeOf303
 v75:=Tryz.zeroValue303
 t85:=Tryz.underlying304
 a85:=Tryz.isAgg304
 z85:=Tryz.sizeOf304
 v85:=Tryz.zeroValue304
 t127:=Tryz.underlying356
 a127:=Tryz.isAgg356
 z127:=Tryz.sizeOf356
 v127:=Tryz.zeroValue356
 t143:=Tryz.underlying372
 a143:=Tryz.isAgg372
 z143:=Tryz.sizeOf372
 v143:=Tryz.zeroValue372
 t145:=Tryz.underlying374
 a145:=Tryz.isAgg374
 z145:=Tryz.sizeOf374
 v145:=Tryz.zeroValue374
 t167:=Tryz.underlying342
 a167:=Tryz.isAgg342
 z167:=Tryz.sizeOf342
 v167:=Tryz.zeroValue342
 t168:=Tryz.underlying343
 a168:=Tryz.isAgg343
 z168:=Tryz.sizeOf343
 v168:=Tryz.zeroValue343
 t171:=Tryz.underlying347
 a171:=Tryz.isAgg347
 z171:=Tryz.sizeOf347
 v171:=Tryz.zeroValue347
 t173:=Tryz.underlying350
 a173:=Tryz.isAgg350
 z173:=Tryz.sizeOf350
 v173:=Tryz.zeroValue350
 t175:=Tryz.underlying326
 a175:=Tryz.isAgg326
 z175:=Tryz.sizeOf326
 v175:=Tryz.zeroValue326
 t210:=Tryz.underlying362
 a210:=Tryz.isAgg362
 z210:=Tryz.sizeOf362
 v210:=Tryz.zeroValue362
 t212:=Tryz.underlying364
 a212:=Tryz.isAgg364
 z212:=Tryz.sizeOf364
 v212:=Tryz.zeroValue364
 t213:=Tryz.underlying365
 a213:=Tryz.isAgg365
 z213:=Tryz.sizeOf365
 t232:=Tryz.underlying377
 a232:=Tryz.isAgg377
 z232:=Tryz.sizeOf377
 v232:=Tryz.zeroValue377
 t233:=Tryz.underlying378
 a233:=Tryz.isAgg378
 z233:=Tryz.sizeOf378
 v233:=Tryz.zeroValue378
 g15:=zG
 g16:=zG
 g17:=zG
 g18:=zG
 g19:=zG
 t80:=Tryz.underlying277
 a80:=Tryz.isAgg277
 z80:=Tryz.sizeOf277
 v80:=Tryz.zeroValue277
 i0:=zG
 i2:=zG
 i3:=zG
 i4:=zG
 i5:=zG
 i9:=zG
 i20:=zG
 i21:=zG
 i37:=zG
 i46:=zG
 i51:=zG
 i53:=zG
 i75:=zG
 i80:=zG
 i85:=zG
 i127:=zG
 i143:=zG
 i145:=zG
 i167:=zG
 i168:=zG
 i171:=zG
 i173:=zG
 i175:=zG
 i210:=zG
 i212:=zG
 i232:=zG
 i233:=zG
 m15:=zG
 m16:=zG
 m17:=zG
 m18:=zG
 m19:=zG
 c0:=zG
 c2:=zG
 c3:=zG
 c4:=zG
 c5:=zG
 c9:=zG
 c20:=zG
 c21:=zG
 c37:=zG
 c46:=zG
 c51:=zG
 c53:=zG
 c75:=zG
 c80:=zG
 c85:=zG
 c127:=zG
 c143:=zG
 c145:=zG
 c167:=zG
 c168:=zG
 c171:=zG
 c173:=zG
 c175:=zG
 c210:=zG
 c212:=zG
 c213:=zG
 c232:=zG
 c233:=by kernel_rfl}
open Go.RowKit in
theorem Tryz.strconv_ParseInt_10_at64_ok (s:ByteArray)(bAa:s.size<=9223372036854775806)(v:Int)(h:Lib.parseIntB 64 s.data.toList=.ok v)(w:World):
  Calls Tryz.prog 250 #[.string s,.int .i64 10,.int .i64 64] w λe w'=>e=.returned (.tuple #[.int .i64 v,.nilIface])/\(w'=w\/∃t,w'=Lib.bytesWorld w 5 t):=Any.strconv_ParseInt_10_at64_ok Tryz.laysC174 s bAa v h w
def Tryz.laysPu14_ren:Go.Shelf.Ren:=⟨fun | 14=>275 | 16=>285 | 17=>269 | 19=>303 | 20=>304 | 21=>286 | 22=>287 | 23=>288 | 24=>289 | 25=>305 | 27=>307 | 26=>306 | 28=>317 | 29=>270 | 30=>290 | 31=>291 | 32=>292 | 33=>293 | 35=>309 | 34=>308 | 36=>310 | 37=>311 | 38=>312 | 39=>318 | 40=>319 | n=>n,fun | 9=>9 | 3=>3 | 22=>181 | 24=>303 | 25=>326 | 4=>4 | 34=>342 | 5=>5 | 36=>311 | 37=>189 | 0=>0 | 39=>343 | 21=>21 | 44=>362 | 47=>356 | 50=>374 | 48=>372 | 2=>2 | 52=>347 | 55=>350 | 59=>364 | 60=>138 | 20=>20 | 61=>365 | 65=>377 | 66=>378 | 67=>277 | n=>n,fun | 0=>1 | 1=>2 | 2=>3 | 3=>4 | 4=>5 | n=>n⟩
theorem Tryz.laysPu14:Go.Proofs.LaysPu.n14 Tryz.prog Tryz.laysPu14_ren:={
 mixed:=zG
 f14:=Tryz.func275.trans (congrArg some zG)
 f16:=Tryz.func285.trans (congrArg some zG)
 f17:=Tryz.func269.trans (congrArg some zG)
 f19:=Tryz.func303.trans (congrArg some zG)
 f20:=Tryz.func304.trans (congrArg some zG)
 f21:=Tryz.func286.trans (congrArg some zG)
 f22:=Tryz.func287.trans (congrArg some zG)
 f23:=Tryz.func288.trans (congrArg some zG)
 f24:=Tryz.func289.trans (congrArg some zG)
 f25:=Tryz.func305.trans (congrArg some zG)
 f26:=Tryz.func306.trans (congrArg some zG)
 f27:=Tryz.func307.trans (congrArg some zG)
 f28:=Tryz.func317.trans (congrArg some zG)
 f29:=Tryz.func270.trans (congrArg some zG)
 f30:=Tryz.func290.trans (congrArg some zG)
 f31:=Tryz.func291.trans (congrArg some zG)
 f32:=Tryz.func292.trans (congrArg some zG)
 f33:=Tryz.func293.trans (congrArg some zG)
 f34:=Tryz.func308.trans (congrArg some zG)
 f35:=Tryz.func309.trans (congrArg some zG)
 f36:=Tryz.func310.trans (congrArg some zG)
 f37:=Tryz.func311.trans (congrArg some zG)
 f38:=Tryz.func312.trans (congrArg some zG)
 f39:=Tryz.func318.trans (congrArg some zG)
 f40:=Tryz.func319.trans (congrArg some zG)
 t0:=Tryz.underlying0
 a0:=Tryz.isAgg0
 z0:=Tryz.sizeOf0
 v0:=Tryz.zeroValue0
 i0:=zG
 t2:=Tryz.underlying2
 a2:=Tryz.isAgg2
 z2:=Tryz.sizeOf2
 v2:=Tryz.zeroValue2
 i2:=zG
 t3:=Tryz.underlying3
 a3:=Tryz.isAgg3
 z3:=Tryz.sizeOf3
 v3:=Tryz.zeroValue3
 i3:=zG
 t4:=Tryz.underlying4
 a4:=Tryz.isAgg4
 z4:=Tryz.sizeOf4
 v4:=Tryz.zeroValue4
 i4:=zG
 t5:=Tryz.underlying5
 a5:=Tryz.isAgg5
 z5:=Tryz.sizeOf5
 v5:=Tryz.zeroValue5
 i5:=zG
 t9:=Tryz.underlying9
 a9:=Tryz.isAgg9
 z9:=Tryz.sizeOf9
 v9:=Tryz.zeroValue9
 i9:=zG
 t20:=Tryz.underlying20
 a20:=Tryz.isAgg20
 z20:=Tryz.sizeOf20
 v20:=Tryz.zeroValue20
 i20:=zG
 t21:=Tryz.underlying21
 a21:=Tryz.isAgg21
 z21:=Tryz.sizeOf21
 v21:=Tryz.zeroValue21
 i21:=zG
 t22:=Tryz.underlying181
 a22:=Tryz.isAgg181
 z22:=Tryz.sizeOf181
 v22:=Tryz.zeroValue181
 i22:=zG
 t24:=Tryz.underlying303
 a24:=Tryz.isAgg303
 z24:=Tryz.sizeOf303
 v24:=Tryz.zeroValue303
 i24:=zG
 t25:=Tryz.underlying326
 a25:=Tryz.isAgg326
 z25:=Tryz.sizeOf326
 v25:=Tryz.zeroValue326
 i25:=zG
 t34:=Tryz.underlying342
 a34:=Tryz.isAgg342
 z34:=Tryz.sizeOf342
 v34:=Tryz.zeroValue342
 i34:=zG
 c34:=zG
 t36:=Tryz.underlying311
 a36:=Tryz.isAgg311
 z36:=Tryz.sizeOf311
 v36:=Tryz.zeroValue311
 i36:=zG
 t37:=Tryz.underlying189
 a37:=Tryz.isAgg189
 z37:=Tryz.sizeOf189
 v37:=Tryz.zeroValue189
 i37:=zG
 t39:=Tryz.underlying343
 a39:=Tryz.isAgg343
 z39:=Tryz.sizeOf343
 v39:=Tryz.zeroValue343
 i39:=zG
 t44:=Tryz.underlying362
 a44:=Tryz.isAgg362
 z44:=Tryz.sizeOf362
 v44:=Tryz.zeroValue362
 i44:=zG
 t47:=Tryz.underlying356
 a47:=Tryz.isAgg356
 z47:=Tryz.sizeOf356
 v47:=Tryz.zeroValue356
 i47:=zG
 t48:=Tryz.underlying372
 a48:=Tryz.isAgg372
 z48:=Tryz.sizeOf372
 v48:=Tryz.zeroValue372
 i48:=zG
 t50:=Tryz.underlying374
 a50:=Tryz.isAgg374
 z50:=Tryz.sizeOf374
 v50:=Tryz.zeroValue374
 i50:=zG
 t52:=Tryz.underlying347
 a52:=Tryz.isAgg347
 z52:=Tryz.sizeOf347
 v52:=Tryz.zeroValue347
 i52:=zG
 t55:=Tryz.underlying350
 a55:=Tryz.isAgg350
 z55:=Tryz.sizeOf350
 v55:=Tryz.zeroValue350
 i55:=zG
 t59:=Tryz.underlying364
 a59:=Tryz.isAgg364
 z59:=Tryz.sizeOf364
 v59:=Tryz.zeroValue364
 i59:=zG
 t60:=Tryz.underlying138
 a60:=Tryz.isAgg138
 z60:=Tryz.sizeOf138
 v60:=Tryz.zeroValue138
 i60:=zG
 t61:=Tryz.underlying365
 a61:=Tryz.isAgg365
 z61:=Tryz.sizeOf365
 t65:=Tryz.underlying377
 a65:=Tryz.isAgg377
 z65:=Tryz.sizeOf377
 v65:=Tryz.zeroValue377
 i65:=zG
 t66:=Tryz.underlying378
 a66:=Tryz.isAgg378
 z66:=Tryz.sizeOf378
 v66:=Tryz.zeroValue378
 i66:=zG
 t67:=Tryz.underlying277
 a67:=Tryz.isAgg277
 z67:=Tryz.sizeOf277
 v67:=Tryz.zeroValue277
 i67:=zG
 g0:=zG
 m0:=zG
 g1:=zG
 m1:=zG
 g2:=zG
 m2:=zG
 g3:=zG
 m3:=zG
 g4:=zG
 m4:=by kernel_rfl}
open Go.RowKit in
theorem Tryz.strconv_ParseUint_10_at32_ok (s:ByteArray)(bAa:s.size<=9223372036854775806)(u:Nat)(h:Lib.parseUintB 32 s.data.toList=.ok u)(w:World):
  Calls Tryz.prog 275 #[.string s,.int .i64 10,.int .i64 32] w λe w'=>e=.returned (.tuple #[.int .u64 u,.nilIface])/\(w'=w\/w'=Lib.bytesWorld w 5 s):=Any.strconv_ParseUint_10_at32_ok Tryz.laysPu14 s bAa u h w
def Tryz.lays145_ren:Go.Shelf.Ren:=⟨fun | 145=>203 | 220=>225 | 219=>242 | 217=>255 | 225=>256 | 224=>257 | 267=>258 | 266=>273 | 314=>274 | n=>n,fun | 9=>9 | 4=>4 | 59=>132 | 3=>3 | 5=>5 | 46=>311 | 146=>324 | 51=>138 | n=>n,fun | 1=>0 | n=>n⟩
theorem Tryz.lays145:Go.Proofs.Lays.n145 Tryz.prog Tryz.lays145_ren:={
 mixed:=zG
 f145:=Tryz.func203.trans (congrArg some zG)
 f217:=Tryz.func255.trans (congrArg some zG)
 f219:=Tryz.func242.trans (congrArg some zG)
 f220:=Tryz.func225.trans (congrArg some zG)
 f224:=Tryz.func257.trans (congrArg some zG)
 f225:=Tryz.func256.trans (congrArg some zG)
 f266:=Tryz.func273.trans (congrArg some zG)
 f267:=Tryz.func258.trans (congrArg some zG)
 f314:=Tryz.func274.trans (congrArg some zG)
 t3:=Tryz.underlying3
 a3:=Tryz.isAgg3
 z3:=Tryz.sizeOf3
 v3:=Tryz.zeroValue3
 t4:=Tryz.underlying4
 a4:=Tryz.isAgg4
 z4:=Tryz.sizeOf4
 v4:=Tryz.zeroValue4
 t5:=Tryz.underlying5
 a5:=Tryz.isAgg5
 z5:=Tryz.sizeOf5
 v5:=Tryz.zeroValue5
 t9:=Tryz.underlying9
 a9:=Tryz.isAgg9
 z9:=Tryz.sizeOf9
 v9:=Tryz.zeroValue9
 t46:=Tryz.underlying311
 a46:=Tryz.isAgg311
 z46:=Tryz.sizeOf311
 v46:=Tryz.zeroValue311
 t51:=Tryz.underlying138
 a51:=Tryz.isAgg138
 z51:=Tryz.sizeOf138
 v51:=Tryz.zeroValue138
 t59:=Tryz.underlying132
 a59:=Tryz.isAgg132
 z59:=Tryz.sizeOf132
 v59:=Tryz.zeroValue132
 t146:=Tryz.underlying324
 a146:=Tryz.isAgg324
 z146:=Tryz.sizeOf324
 v146:=Tryz.zeroValue324
 g1:=by kernel_rfl}
open Go.RowKit Go.Lib in
theorem Tryz.strings_Cut (s sep:ByteArray)(m:Int)(w:World)(hs:s.size<4294967281)(hm:w.cell? ⟨0,0,none⟩=some (.int .i64 m)):
  Calls Tryz.prog 203 #[.string s,.string sep] w λe w'=>e=.returned (.tuple #[.string ⟨(Lib.cut s.data.toList sep.data.toList).1.toArray⟩,.string ⟨(Lib.cut s.data.toList sep.data.toList).2.1.toArray⟩,.bool (Lib.cut s.data.toList sep.data.toList).2.2])/\∃n,w'=w.drewN n:=Any.strings_Cut Tryz.lays145 s sep m w hs hm
def Tryz.lays105_ren:Go.Shelf.Ren:=⟨fun | 105=>279 | 212=>297 | 99=>298 | 165=>299 | 166=>278 | 170=>300 | 169=>280 | 263=>314 | 264=>315 | 206=>272 | 240=>296 | 241=>316 | 276=>313 | 277=>320 | n=>n,fun | 9=>9 | 3=>3 | 4=>4 | 20=>20 | 0=>0 | 46=>311 | 109=>353 | 5=>5 | 72=>330 | 76=>335 | 51=>138 | 146=>324 | 53=>181 | 148=>370 | 70=>328 | 37=>189 | 75=>303 | 127=>356 | 164=>367 | 80=>277 | n=>n,fun | n=>n⟩
theorem Tryz.lays105:Go.Proofs.Lays.n105 Tryz.prog Tryz.lays105_ren:={
 mixed:=zG
 f99:=Tryz.func298.trans (congrArg some zG)
 f105:=Tryz.func279.trans (congrArg some zG)
 f165:=Tryz.func299.trans (congrArg some zG)
 f166:=Tryz.func278.trans (congrArg some zG)
 f169:=Tryz.func280.trans (congrArg some zG)
 f170:=Tryz.func300.trans (congrArg some zG)
 f206:=Tryz.func272.trans (congrArg some zG)
 f212:=Tryz.func297.trans (congrArg some zG)
 f240:=Tryz.func296.trans (congrArg some zG)
 f241:=Tryz.func316.trans (congrArg some zG)
 f263:=Tryz.func314.trans (congrArg some zG)
 f264:=Tryz.func315.trans (congrArg some zG)
 f276:=Tryz.func313.trans (congrArg some zG)
 f277:=Tryz.func320.trans (congrArg some zG)
 t0:=Tryz.underlying0
 a0:=Tryz.isAgg0
 z0:=Tryz.sizeOf0
 v0:=Tryz.zeroValue0
 t3:=Tryz.underlying3
 a3:=Tryz.isAgg3
 z3:=Tryz.sizeOf3
 v3:=Tryz.zeroValue3
 t4:=Tryz.underlying4
 a4:=Tryz.isAgg4
 z4:=Tryz.sizeOf4
 v4:=Tryz.zeroValue4
 t5:=Tryz.underlying5
 a5:=Tryz.isAgg5
 z5:=Tryz.sizeOf5
 v5:=Tryz.zeroValue5
 t9:=Tryz.underlying9
 a9:=Tryz.isAgg9
 z9:=Tryz.sizeOf9
 v9:=Tryz.zeroValue9
 t20:=Tryz.underlying20
 a20:=Tryz.isAgg20
 z20:=Tryz.sizeOf20
 v20:=Tryz.zeroValue20
 t37:=Tryz.underlying189
 a37:=Tryz.isAgg189
 z37:=Tryz.sizeOf189
 v37:=Tryz.zeroValue189
 t46:=Tryz.underlying311
 a46:=Tryz.isAgg311
 z46:=Tryz.sizeOf311
 v46:=Tryz.zeroValue311
 t51:=Tryz.underlying138
 a51:=Tryz.isAgg138
 z51:=Tryz.sizeOf138
 v51:=Tryz.zeroValue138
 t53:=Tryz.underlying181
 a53:=Tryz.isAgg181
 z53:=Tryz.sizeOf181
 v53:=Tryz.zeroValue181
 t70:=Tryz.underlying328
 a70:=Tryz.isAgg328
 z70:=Tryz.sizeOf328
 v70:=Tryz.zeroValue328
 t72:=Tryz.underlying330
 a72:=Tryz.isAgg330
 z72:=Tryz.sizeOf330
 v72:=Tryz.zeroValue330
 t75:=Tryz.underlying303
 a75:=Tryz.isAgg303
 z75:=Tryz.sizeOf303
 v75:=Tryz.zeroValue303
 t76:=Tryz.underlying335
 a76:=Tryz.isAgg335
 z76:=Tryz.sizeOf335
 v76:=Tryz.zeroValue335
 t109:=Tryz.underlying353
 a109:=Tryz.isAgg353
 z109:=Tryz.sizeOf353
 v109:=Tryz.zeroValue353
 t127:=Tryz.underlying356
 a127:=Tryz.isAgg356
 z127:=Tryz.sizeOf356
 v127:=Tryz.zeroValue356
 t146:=Tryz.underlying324
 a146:=Tryz.isAgg324
 z146:=Tryz.sizeOf324
 v146:=Tryz.zeroValue324
 t148:=Tryz.underlying370
 a148:=Tryz.isAgg370
 z148:=Tryz.sizeOf370
 v148:=Tryz.zeroValue370
 t164:=Tryz.underlying367
 a164:=Tryz.isAgg367
 z164:=Tryz.sizeOf367
 v164:=Tryz.zeroValue367}
theorem Tryz.Builder_Extra_105:Builder.Extra Tryz.prog Tryz.lays105_ren:={
 sizeBuilder:=zG
 liesBuilder:=zG
 t5:=Tryz.underlying5
 a5:=Tryz.isAgg5
 z5:=Tryz.sizeOf5
 v5:=Tryz.zeroValue5
 infoByte:=zG
 cellsByte:=zG
 sizeByte:=zG
 neB5:=by decide}
open Go.RowKit Go.Lib in
theorem Tryz.strings_Repeat (s:ByteArray)(c:Nat)(w:World)(hc:c<=9223372036854775807)(hlen:s.size*c<=140737488355328):
  Calls Tryz.prog 279 #[.string s,.int .i64 c] w λe w'=>e=.returned (.string ⟨(Lib.repeatL s.data.toList c).toArray⟩)/\Below w.heap.size w w':=Any.strings_Repeat Tryz.lays105 Tryz.Builder_Extra_105 s c w hc hlen
end Go.Proofs
namespace Go.Proofs
open Go.Shelf Go.RowKit Go.Sort Go.Lib
set_option maxHeartbeats 1000000 in
set_option maxRecDepth 100000 in
theorem Tryz.cc_used (b:Nat)(w:World)(h0:w.cell? ⟨b,0,none⟩=some (.pointer (some ⟨b,0,none⟩))):
  Calls Tryz.prog 296 #[.pointer (some ⟨b,0,none⟩)] w λe w'=>e=.returned (.tuple #[])/\w'=w:=by
 obtain⟨j,hj,_⟩:=Option.map_eq_some_iff.1 (Tryz.Builder_Extra_169.toX72.sizeBuilder);have u1:=run_underlying (P:=Tryz.prog) Tryz.underlying330;have u2:=run_underlying (P:=Tryz.prog) Tryz.underlying328;go_enter Tryz.func296,Tryz.ntmps296;go_wp2;rw[Lib.run_neq_ptr_same w _ Tryz.underlying328 hj];go_wp2;go_end0;exact⟨rfl,rfl⟩
set_option maxHeartbeats 1000000 in
set_option maxRecDepth 100000 in
theorem Tryz.cc_fresh (b:Nat)(w:World)(h0:w.cell? ⟨b,0,none⟩=some (.pointer none))(hsh:w.shape? b=some (330,2))(hfz:w.frozen? ⟨b,0,none⟩=false):
  Calls Tryz.prog 296 #[.pointer (some ⟨b,0,none⟩)] w λe w'=>e=.returned (.tuple #[])/\w'=w.setCell ⟨b,0,none⟩ (.pointer (some ⟨b,0,none⟩)):=by
 obtain⟨j,hj,hjs⟩:=Option.map_eq_some_iff.1 (Tryz.Builder_Extra_169.toX72.sizeBuilder);have u1:=run_underlying (P:=Tryz.prog) Tryz.underlying330;have u2:=run_underlying (P:=Tryz.prog) Tryz.underlying328;go_enter Tryz.func296,Tryz.ntmps296;go_wp2;rw[Lib.run_to_unsafe w ⟨b,0,none⟩ Tryz.underlying328 Tryz.underlying367 hj (by rw[hjs];decide) hsh (Nat.zero_lt_succ 1)];simp only[Result.andThen];rw[Oper.upon_value];go_wp2;rw[run_callFunc_extern Tryz.func313 zG zG zG (e:=Extern.AbiNoEscape.same) zG];rw[Lib.run_noEscape];simp only[Result.andThen];rw[Oper.upon_value];go_wp2;rw[Lib.run_from_unsafe w ⟨b,0,none⟩ Tryz.underlying367 Tryz.underlying328 hj hsh (Tryz.Builder_Extra_169.toX72.liesBuilder)];simp only[Result.andThen];rw[Oper.upon_value];go_wp2;go_end0;exact⟨rfl,rfl⟩
theorem Tryz.cc (B b:Nat)(bs:List Value)(w:World)(h:Lib.IsBuilder 330 5 B b bs w):
  Calls Tryz.prog 296 #[.pointer (some ⟨b,0,none⟩)] w λe w'=>e=.returned (.tuple #[])/\(Lib.BuilderAt 330 5 B b (.pointer (some ⟨b,0,none⟩)) bs w'/\Below B w w'/\Lib.OthersKept 5 (some b) w w'):=by
 rcases h with h | h
 ·refine(Tryz.cc_fresh b w h.cell0 h.shape h.frozen0).mono ?_;rintro e w' ⟨rfl,rfl⟩;exact⟨rfl,h.used _,(Below.refl B w).setCell (p:=⟨b,0,none⟩) h.1 _,(Lib.OthersKept.refl _ _ w).setCell ⟨b,0,none⟩ rfl _⟩
 ·refine(Tryz.cc_used b w h.cell0).mono ?_;rintro e w' ⟨rfl,rfl⟩;exact⟨rfl,h,Below.refl B _,Lib.OthersKept.refl _ _ _⟩
set_option maxHeartbeats 2000000 in
set_option maxRecDepth 100000 in
theorem Tryz.writeS (B b:Nat)(bs:List Value)(s:ByteArray)(w:World)(h:Lib.IsBuilder 330 5 B b bs w)(hlen:bs.length+s.size<=140737488355328)(hBw:B<=w.heap.size):
  Calls Tryz.prog 278 #[.pointer (some ⟨b,0,none⟩),.string s] w λe w'=>e=.returned (.tuple #[.int .i64 s.size,.nilIface])/\(Lib.BuilderAt 330 5 B b (.pointer (some ⟨b,0,none⟩)) (bs++Lib.strCells s) w'/\Below B w w'/\Lib.OthersKept 5 (some b) w w'):=by
 obtain⟨i0,hi,hz0,hz1,hz2⟩:=info_parts (Tryz.Builder_Extra_169.infoByte);have u1:=run_underlying (P:=Tryz.prog) Tryz.underlying330;have u2:=run_underlying (P:=Tryz.prog) Tryz.underlying328;have u5:=run_underlying (P:=Tryz.prog) Tryz.underlying5;go_enter Tryz.func278,Tryz.ntmps278;go_wp2_with (go_at_call 296;refine(Tryz.cc B b bs _ h).mono ?_);rintro e w1 ⟨rfl,h1,hb1,hk1⟩;obtain⟨hB,v,hbk,eE,hne⟩:=h1;have c0:w1.cell? ⟨b,0,none⟩=some (.pointer (some ⟨b,0,none⟩)):=by rw[Lib.cell_of_heap hbk];rfl
 have c1:w1.cell? ⟨b,1,none⟩=some v:=by rw[Lib.cell_of_heap hbk];rfl
 go_wp2_with (at_builtin;refine Lib.wpList_append_own_string _ rfl _ _ 189 9 rfl B 5 i0 Tryz.underlying189 Tryz.underlying9 hi hz0 hz1 hz2 _ _ _ rfl eE s rfl ?c3 ?c4 ?c5 ?_)
 case c3=>unfold maxLen;omega
 case c4=>omega
 case c5=>have:=hb1.size;omega
 intro v' w2 aM7 aIc _;have hlt:b<w1.heap.size:=by
  rcases Nat.lt_or_ge b w1.heap.size with h' | h'
  ·exact h'
  ·simp[Array.getElem?_eq_none h']at hbk
 have hb2:w2.heap[b]?=some (.cells #[.pointer (some ⟨b,0,none⟩),v] 330 (0,0)):=by
  rw[aIc.block b hlt (λe=>hne e.symm)];exact hbk
 have d0:w2.cell? ⟨b,0,none⟩=some (.pointer (some ⟨b,0,none⟩)):=by rw[Lib.cell_of_heap hb2];rfl
 have d1:w2.cell? ⟨b,1,none⟩=some v:=by rw[Lib.cell_of_heap hb2];rfl
 have f1:w2.frozen? ⟨b,1,none⟩=false:=Lib.frozen_of_heap hb2 1
 obtain⟨ao,n',cap,rfl⟩:∃ao n' cap,v'=.slice ao n' cap:=by
  rcases aM7.2 with⟨hv,_⟩ | ⟨g,cap,cur,hv,_⟩
  ·exact⟨_,_,_,hv⟩
  ·exact⟨_,_,_,hv⟩
 go_wp2
 go_ret2
 refine⟨rfl,?_,?_,(hk1.grown aIc ?_).setCell ⟨b,1,none⟩ rfl _⟩
 ·exact Lib.BuilderAt.put (T:=330) (e:=5) hB hb2 (bs':=bs++Lib.strCells s) (by simpa[Lib.strCells_length]using aM7) zV
 ·exact(hb1.grown aIc (by have:=hb1.size;omega) (λk hk=>(eE.lt k hk).1)).setCell (p:=⟨b,1,none⟩) hB _
 ·intro g hg;rcases eE.2 with⟨rfl,_⟩ | ⟨g',aS,cur,rfl,_,hgg,_⟩
  ·simp[Value.ownBlock]at hg
  ·simp[Value.ownBlock]at hg;subst hg;exact⟨cur,_,hgg⟩
theorem Tryz.fin0 (w:World)(o:Obj)(dk:Array UInt8)(k:Nat):∃os,(putRow (λ(b:UInt8)=>Value.int .u8 (b.toNat:Int)) (w.alloc o) w.heap.size 0 dk).drewN k=grow (w.drewN k) os:=by
 rw[alloc_eq_grow];obtain⟨os',_,e⟩:=putRow_grow_new (λ(b:UInt8)=>Value.int .u8 (b.toNat:Int)) w #[o] w.heap.size 0 dk (lRf _);exact⟨os',by rw[e];rfl⟩
set_option maxHeartbeats 6400000 in
set_option maxRecDepth 100000 in
theorem Tryz.ifmtU (u:Nat)(aKx:u<18446744073709551616)(w:World)(aDi:Lib.TabIs Tryz.prog w "internal/strconv.uint64pow10" .u64 Lib.pow10Tab):
  Calls Tryz.prog 295 #[.int .u64 u,.int .i64 10] w λe w'=>e=.returned (.string ⟨(Lib.decDigits u).toArray⟩)/\∃k os,w'=grow (w.drewN k) os:=by
 by_cases hs:u<100
 ·go_enter Tryz.func295,Tryz.ntmps295
  go_wp2_with (go_at_call 290;refine(Tryz.internal_strconv_small u hs _).mono ?_;rintro e w' ⟨rfl,rfl⟩)
  go_ret
  exact⟨rfl,0,#[],by simp[World.drewN_zero]⟩
 ·have hu1:1<=u:=zW
  have bG8:Lib.nDigits u<=20:=by have:=Lib.numDigits_eq u hu1 aKx;split at this<;>omega
  have hb3:Lib.nDigits u<=24:=zW
  have hal:Tryz.prog.arrayLen 347=24:=by simp[Program.arrayLen,Tryz.underlying347]
  have aV5:∀W,(Instr.sliceAt 347 (.pointer (some ⟨w.heap.size,0,none⟩)) none (some (.int .i64 (Lib.nDigits u:Int))) none).run Tryz.prog W=.ok (.slice (some ⟨w.heap.size,0,none⟩) (Lib.nDigits u) 24) W:=λW=>by
   rw[run_sliceAt_array_h W 347 ⟨w.heap.size,0,none⟩ (by simp[Program.arrayLen,Program.elem,Tryz.underlying347]) .i64 (Lib.nDigits u:Int) zW (by rw[hal];omega)];go_simp
  have hH0:Holds (λ(b:UInt8)=>Value.int .u8 (b.toNat:Int)) (w.alloc (.cells Lib.zeros24 347)) w.heap.size 0 (Array.replicate (Lib.nDigits u) (0:UInt8)):=λj hj=>by
   rw[Array.size_replicate]at hj;rw[World.cell?_alloc_new,Nat.zero_add,zeros24_at _ zW,getElem!_pos _ j (by rw[Array.size_replicate];exact hj)];simp
  have bC6:=Tryz.internal_strconv_formatBase10 w.heap.size 0 24 u (Array.replicate (Lib.nDigits u) 0) (w.alloc (.cells Lib.zeros24 347)) hH0 (by rw[Array.size_replicate];exact Lib.lt_pow_nDigits u) aKx (by rw[Array.size_replicate];omega)
  rw[Array.size_replicate]at bC6;have HH0:=Lib.hid hH0;clear hH0 hal;go_enter Tryz.func295,Tryz.ntmps295;go_wp2_with (first
   | (go_at_call 291;refine(Tryz.internal_strconv_numDigits u hu1 aKx _ (Lib.tabIs_alloc aDi _)).mono ?_;rintro e w' ⟨rfl,rfl⟩))
  go_at_call 292
  refine bC6.mono ?_;rintro e w' ⟨rfl,k,v',dk,rfl,hF⟩;have hcv:(convert 189 9 (.slice (some ⟨w.heap.size,0,none⟩) (Lib.nDigits u) 24)).run Tryz.prog ((putRow (λ(b:UInt8)=>Value.int .u8 (b.toNat:Int)) (w.alloc (.cells Lib.zeros24 347)) w.heap.size 0 dk).drewN k)=.ok (.string ⟨(Lib.decDigits u).toArray⟩) ((putRow (λ(b:UInt8)=>Value.int .u8 (b.toNat:Int)) (w.alloc (.cells Lib.zeros24 347)) w.heap.size 0 dk).drewN k):=by
   have h:=run_convert_bytes_back (P:=Tryz.prog) ((putRow (λ(b:UInt8)=>Value.int .u8 (b.toNat:Int)) (w.alloc (.cells Lib.zeros24 347)) w.heap.size 0 dk).drewN k) 189 9 5 ⟨w.heap.size,0,none⟩ 24 (Lib.decDigits u) Tryz.underlying189 Tryz.underlying5 Tryz.underlying9 (λj hj=>by
    rw[Lib.row_is_numeral hF j hj,Lib.add_plain,World.cell?_drewN];exact cell?_putRow (λ(b:UInt8)=>Value.int .u8 (b.toNat:Int)) _ w.heap.size 0 _ dk HH0.out (by rw[hF.size,Array.size_replicate]) j (by rw[hF.size];rw[Lib.decDigits_length]at hj;exact hj))
   rw[Lib.decDigits_length]at h;exact h
  go_wp2
  go_ret
  obtain⟨os,eo⟩:=Tryz.fin0 w (.cells Lib.zeros24 347) dk k;exact⟨rfl,k,os,eo⟩
theorem Tryz.fmtU (u:Nat)(aKx:u<18446744073709551616)(w:World)(aDi:Lib.TabIs Tryz.prog w "internal/strconv.uint64pow10" .u64 Lib.pow10Tab):
  Calls Tryz.prog 277 #[.int .u64 u,.int .i64 10] w λe w'=>e=.returned (.string ⟨(Lib.decDigits u).toArray⟩)/\Below w.heap.size w w':=by
 go_enter Tryz.func277,Tryz.ntmps277
 go_wp2_with (go_at_call 295;refine(Tryz.ifmtU u aKx _ aDi).mono ?_;rintro e w' ⟨rfl,k,os,rfl⟩)
 go_ret
 exact⟨rfl,Lib.below_grow _ _ (lRf _) _ _⟩
end Go.Proofs
