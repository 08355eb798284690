/- Part 13 of the proof: garboardlaw17.FloatMirrors returns true, where what it reads is of bulk at most 1048576. -/
import Derived.Lib.ItoaNum
import Derived.Shelf.Strings.Builder1
import Derived.Shelf.Strings.Builder2
import Derived.Shelf.Small.Wraps
import Derived.Shelf.Strings.BuilderF
import Derived.Shelf.Strings.BuilderK
import Derived.Shelf.Strconv.Itoa0
import Derived.Shelf.Strconv.Itoa1
import Derived.Shelf.LaysM
import Derived.Shelf.Strconv.Itoa2
import Derived.Shelf.Strconv.Itoa3
import Derived.Shelf.Strconv.Itoa4
import Derived.Shelf.Strconv.ParseIntEmpty
import Derived.Shelf.Strconv.Clone
import Derived.Shelf.Strconv.SyntaxError
import Derived.Shelf.LaysC
import Derived.Shelf.Strconv.ToError
import Derived.Shelf.Strconv.Lower
import Derived.Shelf.Strconv.ParseUint10
import Derived.Shelf.Strconv.ParseUint10Empty
import Derived.Shelf.Strconv.ParseUint10Any
import Derived.Shelf.Strconv.ParseInt10
import Derived.Shelf.Strconv.RangeError
import Derived.Shelf.Strconv.ToErrorRange
import Derived.Shelf.Strconv.ParseUintEmpty
import Derived.Shelf.Strconv.ParseUint10b64
import Derived.Shelf.Strconv.ParseUint10b32
import Derived.Shelf.Strconv.ParseUint10b16
import Derived.Shelf.Strconv.ParseUint10b8
import Derived.Shelf.Strconv.ParseUint10At
import Derived.Shelf.Strconv.ParseInt10At64
import Derived.Shelf.Strconv.ParseInt10At32
import Derived.Shelf.Strconv.ParseInt10At16
import Derived.Shelf.Strconv.ParseInt10At8
import Derived.Shelf.Strconv.ParseInt10All
import Derived.Shelf.Strconv.ParseIntPublic10
import Derived.Ground.MpProg
import Derived.Shelf.Pu.ParseUintPublic10
import Derived.Shelf.Strings.Search1
import Derived.Shelf.Strings.Search2
import Derived.Shelf.Strings.Cut
import Derived.Shelf.Strings.Shaped
import Derived.Shelf.Strings.Prefix
import Derived.Shelf.Bits.Mul64
import Derived.Shelf.Strings.Repeat
import Derived.Test.YtmnancfboococaaGreatDoorProg
import Derived.Test.YtmnancfboococaaGreatDoorPm9
import Derived.Test.YtmnancfboococaaGreatDoorPm11
set_option linter.all false
namespace Go.Num
open Go.Lib
def lK (b:UInt8):Bool:=decide (48≤b.toNat)&&decide (b.toNat≤57)
def isNat (l:List UInt8):Bool:=(decide (l.length=1)||(decide (1<l.length)&&decide (l.getD 0 0≠48)))&&l.all lK
def bA4 (a:Nat)(b:UInt8):Nat:=10*a+(b.toNat - 48)
def dS (a:Nat)(l:List UInt8):Nat:=l.foldl bA4 a
theorem iS (a:Nat):dS a []=a:=rfl
theorem fK (a:Nat)(b:UInt8)(l:List UInt8):dS a (b::l)=dS (10*a+(b.toNat - 48)) l:=by unfold dS;rw[List.foldl_cons,bA4]
theorem nP (a:Nat)(l m:List UInt8):dS a (l++m)=dS (dS a l) m:=by unfold dS;rw[List.foldl_append]
theorem aE5 (l:List UInt8):∀(a:Nat),a≤dS a l:=by
 induction l with
 | nil=>intro a;rw[iS];exact lRf _
 | cons b l ih=>intro a;rw[fK];have:=ih (10*a+(b.toNat - 48));omega
theorem aGx (l:List UInt8):∀(a:Nat),dS a l=a*10^l.length+dS 0 l:=by
 induction l with
 | nil=>intro a;simp[iS]
 | cons b l ih=>
  intro a;rw[fK,fK,ih (10*a+(b.toNat - 48)),ih (10*0+(b.toNat - 48)),List.length_cons,Nat.pow_succ];generalize 10^l.length=p;generalize dS 0 l=q;generalize b.toNat - 48=r;rw[Nat.add_mul,show 10*a*p=a*(p*10) by rw[Nat.mul_comm 10 a,Nat.mul_assoc,Nat.mul_comm 10],show 10*0+r=r by omega];omega
theorem aL6 (l:List UInt8):l.all lK=true→dS 0 l<10^l.length:=by
 induction l with
 | nil=>intro _;simp[iS]
 | cons b l ih=>
  intro h;simp only[List.all_cons,Bool.and_eq_true]at h;have ih:=ih h.2
  have hb:=h.1
  simp only[lK,Bool.and_eq_true,decide_eq_true_eq]at hb;rw[fK,aGx,List.length_cons,Nat.pow_succ];obtain⟨r,hr⟩:∃r,b.toNat - 48=r:=⟨_,rfl⟩;rw[hr];have:(10*0+r)*10^l.length≤9*10^l.length:=Nat.mul_le_mul_right _ (by omega)
  omega
theorem rZ {d:Nat}(h:d<10):(UInt8.ofNat (48+d)).toNat=48+d:=by
 rw[UInt8.toNat_ofNat'];omega
theorem aL7 {d:Nat}(h:d<10):lK (UInt8.ofNat (48+d))=true:=by
 simp only[lK,rZ h,Bool.and_eq_true,decide_eq_true_eq];omega
theorem bM {n:Nat}(h:n<10):decDigits n=[UInt8.ofNat (48+n)]:=by rw[decDigits,dif_pos h]
theorem dR {n:Nat}(h:¬n<10):decDigits n=decDigits (n/10)++[UInt8.ofNat (48+n%10)]:=by rw[decDigits,dif_neg h]
theorem aJp:decDigits 0=[48]:=by rw[bM (by decide)];rfl
theorem aUm:decDigits 1=[49]:=by rw[bM (by decide)];rfl
theorem cR (n:Nat):dS 0 (decDigits n)=n:=by
 induction n using Nat.strongRecOn with
 | _ n ih=>
  by_cases h:n<10
  ·rw[bM h,fK,iS,rZ h];omega
  ·rw[dR h,nP,ih (n/10) (by omega),fK,iS,rZ (show n%10<10 by omega)];omega
theorem nZ {n m:Nat}(h:decDigits n=decDigits m):n=m:=by
 rw[←cR n,h,cR]
theorem gG (n:Nat):(decDigits n).all lK=true:=by
 induction n using Nat.strongRecOn with
 | _ n ih=>
  by_cases h:n<10
  ·rw[bM h,List.all_cons,aL7 h];rfl
  ·rw[dR h,List.all_append,ih (n/10) (by omega),List.all_cons,aL7 (show n%10<10 by omega)];rfl
theorem fV (n:Nat):decDigits n≠[]:=by
 by_cases h:n<10
 ·rw[bM h];simp
 ·rw[dR h];simp
theorem aAw {n:Nat}(h:n≠0):(decDigits n).getD 0 0≠48:=by
 induction n using Nat.strongRecOn with
 | _ n ih=>
  by_cases hn:n<10
  ·rw[bM hn];intro e;have:=congrArg UInt8.toNat e
   simp only[List.getD_cons_zero,rZ hn]at this;have h48:(48:UInt8).toNat=48:=rfl
   omega
  ·rw[dR hn];have:=ih (n/10) (by omega) (by omega)
   have hne:=fV (n/10)
   cases hl:decDigits (n/10)with
   | nil=>exact absurd hl hne
   | cons c t=>rw[hl]at this;simpa using this
theorem gD (n:Nat):isNat (decDigits n)=true:=by
 simp only[isNat,gG,Bool.and_true,Bool.or_eq_true,decide_eq_true_eq,Bool.and_eq_true];have h:=fV n
 have hp:0<(decDigits n).length:=List.length_pos_iff.2 h
 by_cases h1:n<10
 ·left;rw[bM h1];rfl
 ·right
  refine⟨?_,aAw (by omega)⟩;rw[dR h1];have:=List.length_pos_iff.2 (fV (n/10))
  simp;omega
theorem aTm {b:UInt8}(h:lK b=true):UInt8.ofNat (48+(b.toNat - 48))=b:=by
 simp only[lK,Bool.and_eq_true,decide_eq_true_eq]at h;apply UInt8.toNat_inj.1;rw[UInt8.toNat_ofNat'];omega
theorem jP:∀(n:Nat) (l:List UInt8),l.length=n→isNat l=true→decDigits (dS 0 l)=l
 | 0,l,hn,h=>by
  simp only[isNat,Bool.and_eq_true,Bool.or_eq_true,decide_eq_true_eq]at h;omega
 | n+1,l,hn,h=>by
  rcases List.eq_nil_or_concat l with e | ⟨t,b,e⟩
  ·subst e;simp at hn
  ·rw[List.concat_eq_append]at e;subst e;simp only[isNat,Bool.and_eq_true,Bool.or_eq_true,decide_eq_true_eq,List.all_append,List.all_cons,List.all_nil,Bool.and_true,List.length_append,List.length_singleton]at h;obtain⟨h1,h2,h3⟩:=h;have hb:=h3
   simp only[lK,Bool.and_eq_true,decide_eq_true_eq]at hb;rw[nP,fK,iS];cases ht:t with
   | nil=>rw[iS,bM (by omega),Nat.mul_zero,Nat.zero_add,aTm h3];rfl
   | cons c t'=>
    rw[←ht];have hc:c≠48:=by
     rcases h1 with h1 | ⟨_,h1⟩
     ·rw[ht]at h1;simp at h1
     ·rw[ht]at h1;simpa using h1
    have hcd:lK c=true:=by rw[ht]at h2;simp only[List.all_cons,Bool.and_eq_true]at h2;exact h2.1
    have hc':=hcd
    simp only[lK,Bool.and_eq_true,decide_eq_true_eq]at hc';have bF3:c.toNat≠48:=fun e=>hc (UInt8.toNat_inj.1 e)
    have ih:=jP n t (by simp at hn;omega) (by
     simp only[isNat,Bool.and_eq_true,Bool.or_eq_true,decide_eq_true_eq];refine⟨?_,h2⟩;rw[ht]
     by_cases hl:t'.length=0
     ·left;simp[hl]
     ·right;exact⟨by simp;omega,by simpa using hc⟩)
    have aHh:1≤dS 0 t:=by
     rw[ht,fK];have:=aE5 t' (10*0+(c.toNat - 48))
     omega
    rw[dR (by omega)];rw[show(10*dS 0 t+(b.toNat - 48))/10=dS 0 t by omega,show(10*dS 0 t+(b.toNat - 48))%10=b.toNat - 48 by omega,ih,aTm h3]
def pad:Nat→Nat→List UInt8
 | 0,_=>[]
 | k+1,n=>pad k (n/10)++[UInt8.ofNat (48+n%10)]
theorem sY {a:Nat}(ha:0<a):∀(k b:Nat),b<10^k→decDigits (a*10^k+b)=decDigits a++pad k b
 | 0,b,hb=>by simp at hb;subst hb;simp[pad]
 | k+1,b,hb=>by
  rw[Nat.pow_succ]at hb ⊢;have hp:1≤10^k:=Nat.one_le_pow _ _ (by decide)
  have h1:1*10^k≤a*10^k:=Nat.mul_le_mul_right _ ha
  rw[←Nat.mul_assoc];rw[dR (by omega),show(a*10^k*10+b)/10=a*10^k+b/10 by omega,show(a*10^k*10+b)%10=b%10 by omega,sY ha k (b/10) (by omega),pad,List.append_assoc]
theorem aSa:∀(k b:Nat),b<10^(k+1)→pad (k+1) b=List.replicate (k+1 - (decDigits b).length) 48++decDigits b
 | 0,b,hb=>by
  have:b<10:=by simpa using hb
  rw[bM this];simp[pad,Nat.mod_eq_of_lt this]
 | k+1,b,hb=>by
  rw[Nat.pow_succ]at hb;rw[pad,aSa k (b/10) (by omega)]
  by_cases h:b<10
  ·rw[show b/10=0 by omega,bM h,bM (by omega:0<10),Nat.mod_eq_of_lt h];simp[List.replicate_succ']
  ·rw[dR h];simp[List.append_assoc]
def aK (n:Nat):ByteArray:=⟨(decDigits n).toArray⟩
def aU (z:Int):ByteArray:=⟨(itoa z).toArray⟩
def aA (q:Rat):ByteArray:=if q.den=1 then aU q.num else(aU q.num++⟨#[47]⟩)++aK q.den
theorem jH {a b:ByteArray}(h:a.data.toList=b.data.toList):a=b:=by
 cases a;cases b;congr;exact Array.ext' h
theorem cM (n:Nat):(aK n).data.toList=decDigits n:=by simp[aK]
theorem cQ (z:Int):(aU z).data.toList=itoa z:=by simp[aU]
theorem fJ (a b:ByteArray):(a++b).data.toList=a.data.toList++b.data.toList:=by
 rw[ByteArray.data_append,Array.toList_append]
theorem lZ (q:Rat):(aA q).data.toList=if q.den=1 then itoa q.num else itoa q.num++47::decDigits q.den:=by
 unfold aA;split
 ·exact cQ _
 ·rw[fJ,fJ,cQ,cM];simp
theorem aTi {n m:Nat}(h:aK n=aK m):n=m:=nZ (by rw[←cM,h,cM])
def rdN (l:List UInt8):Option Nat:=if isNat l then some (dS 0 l)else none
def vX (l:List UInt8):Option Int:=match l with
 | 45::t=>if isNat t∧t≠[48]then some (-(dS 0 t:Int))else none
 | l=>if isNat l then some (dS 0 l:Int)else none
theorem aVg (n:Nat):rdN (decDigits n)=some n:=by simp[rdN,gD,cR]
theorem aBt {l:List UInt8}{n:Nat}(h:rdN l=some n):l=decDigits n:=by
 unfold rdN at h;split at h
 ·rename_i h1;injection h with h;rw[←h,jP _ l rfl h1]
 ·cases h
theorem aAx (n:Nat):∃c t,decDigits n=c::t∧lK c=true:=by
 cases h:decDigits n with
 | nil=>exact absurd h (fV n)
 | cons c t=>exact⟨c,t,rfl,by have:=gG n;rw[h]at this;simp at this;exact this.1⟩
theorem aJ5 {c:UInt8}(h:lK c=true):c≠45∧c≠47:=by
 simp only[lK,Bool.and_eq_true,decide_eq_true_eq]at h;constructor<;>(intro e;subst e;revert h;decide)
theorem zY {l:List UInt8}(h:∀t,l≠45::t):vX l=if isNat l then some (dS 0 l:Int)else none:=by
 unfold vX;split
 ·rename_i t;exact absurd rfl (h t)
 ·rfl
theorem aGy (n:Nat)(t:List UInt8):decDigits n≠45::t:=by
 obtain⟨c,u,h1,h2⟩:=aAx n;rw[h1];intro e;injection e with e1 e2;exact(aJ5 h2).1 e1
theorem oQ (z:Int):vX (itoa z)=some z:=by
 unfold itoa;split
 ·rename_i hz;simp only[vX,gD,cR,true_and];rw[if_pos]
  ·congr 1;omega
  ·intro e;rw[show([48]:List UInt8)=decDigits 0 from aJp.symm]at e;have:=nZ e;omega
 ·rename_i hz;rw[zY (aGy _),if_pos (gD _),cR];congr 1;omega
theorem vY {l:List UInt8}{z:Int}(h:vX l=some z):l=itoa z:=by
 by_cases h45:∃t,l=45::t
 ·obtain⟨t,rfl⟩:=h45;simp only[vX]at h;split at h
  ·rename_i h1;injection h with h
   have e:=jP _ t rfl h1.1
   have h0:dS 0 t≠0:=fun e0=>h1.2 (by rw[←e,e0,aJp])
   unfold itoa;rw[if_pos (by omega),←h,Int.natAbs_neg,Int.natAbs_natCast,e]
  ·cases h
 ·rw[zY (fun t e=>h45 ⟨t,e⟩)]at h;split at h
  ·rename_i h1;injection h with h
   unfold itoa;rw[if_neg (by omega),←h,Int.toNat_natCast,jP _ l rfl h1]
  ·cases h
theorem aR0 {a b:Int}(h:itoa a=itoa b):a=b:=by
 have:=oQ a;rw[h,oQ]at this;injection this with this;exact this.symm
def cU:List UInt8→List UInt8 × Option (List UInt8)
 | []=>([],none)
 | b::l=>if b=47 then([],some l)else((b::(cU l).1),(cU l).2)
theorem rX:∀{l:List UInt8},(cU l).2=none→(cU l).1=l
 | [],_=>rfl
 | b::l,h=>by
  unfold cU at h ⊢;split at h
  ·cases h
  ·rename_i hb;rw[if_neg hb];simp only at h ⊢;rw[rX h]
theorem rY:∀{l r:List UInt8},(cU l).2=some r→(cU l).1++47::r=l
 | [],r,h=>by cases h
 | b::l,r,h=>by
  unfold cU at h ⊢;split at h
  ·rename_i hb;rw[if_pos hb];simp only at h ⊢;injection h with h;rw[h,hb];rfl
  ·rename_i hb;rw[if_neg hb];simp only at h ⊢;rw[List.cons_append,rY h]
theorem zL:∀{l:List UInt8},(∀b,b∈l→b≠47)→cU l=(l,none)
 | [],_=>rfl
 | b::l,h=>by unfold cU;rw[if_neg (h b (.head _)),zL (fun c hc=>h c (.tail _ hc))]
theorem zJ:∀{p r:List UInt8},(∀b,b∈p→b≠47)→cU (p++47::r)=(p,some r)
 | [],r,_=>by simp[cU]
 | b::p,r,h=>by rw[List.cons_append];unfold cU;rw[if_neg (h b (.head _)),zJ (fun c hc=>h c (.tail _ hc))]
theorem sE (z:Int):∀b,b∈itoa z→b≠47:=by
 intro b hb;have key:∀n,b∈decDigits n→b≠47:=fun n h=>(aJ5 (List.all_eq_true.1 (gG n) b h)).2
 unfold itoa at hb;split at hb
 ·rcases List.mem_cons.1 hb with e | e
  ·rw[e];decide
  ·exact key _ e
 ·exact key _ hb
def nU (l:List UInt8):Option Rat:=match (cU l).2 with
 | none=>match vX l with | some z=>some (Rat.ofInt z) | none=>none
 | some r=>match vX (cU l).1,rdN r with
  | some z,some n=>if h:z≠0∧n≠0∧n≠1∧z.natAbs.gcd n=1 then some ⟨z,n,h.2.1,h.2.2.2⟩else none
  | _,_=>none
theorem cT (q:Rat):nU (aA q).data.toList=some q:=by
 rw[lZ];split
 ·rename_i hd;have e:=zL (sE q.num)
  unfold nU;rw[e];simp only[oQ,Option.some.injEq];exact Rat.ext (p:=Rat.ofInt q.num) (q:=q) rfl hd.symm
 ·rename_i hd;have e:=zJ (r:=decDigits q.den) (sE q.num)
  unfold nU;rw[e];simp only[oQ,aVg];have hr:q.num.natAbs.gcd q.den=1:=q.reduced
  rw[dif_pos ⟨fun h0=>hd (by rw[h0]at hr;simpa using hr),q.den_nz,hd,hr⟩]
theorem aSh {l:List UInt8}{q:Rat}(h:nU l=some q):l=(aA q).data.toList:=by
 unfold nU at h;split at h
 ·rename_i hc;cases hz:vX l with
  | none=>rw[hz]at h;cases h
  | some z=>
   rw[hz]at h;have h:Rat.ofInt z=q:=by injection h
   subst h;rw[lZ,if_pos (show(Rat.ofInt z).den=1 from rfl)];exact vY hz
 ·rename_i r hc;split at h
  ·rename_i z n hz hn;split at h
   ·rename_i hh;injection h with h;subst h
    rw[lZ,if_neg hh.2.2.1,←vY hz,←aBt hn];exact(rY hc).symm
   ·cases h
  ·cases h
theorem aTk {a b:Rat}(h:aA a=aA b):a=b:=by
 have:=cT a;rw[h,cT]at this;injection this with this;exact this.symm
theorem mT {s:ByteArray}{q:Rat}(h:nU s.data.toList=some q):s=aA q:=jH (aSh h)
def dl (n:Nat):Nat:=(decDigits n).length
theorem aL8 (n:Nat):dl n=nDigits n:=decDigits_length n
theorem aAz (n:Nat):1≤dl n:=by rw[aL8];exact nDigits_pos n
theorem tE (n:Nat):n<10^dl n:=by rw[aL8];exact lt_pow_nDigits n
theorem aOl:∀(n:Nat),10≤n→10^(nDigits n - 1)≤n:=by
 intro n
 induction n using Nat.strongRecOn with
 | _ n ih=>
  intro h;rw[nDigits_big (by omega),Nat.add_sub_cancel]
  by_cases h':n/10<10
  ·rw[nDigits_small h'];omega
  ·have:=ih (n/10) (by omega) (by omega)
   have h1:=nDigits_pos (n/10)
   obtain⟨k,hk⟩:∃k,nDigits (n/10)=k+1:=⟨nDigits (n/10) - 1,by omega⟩;rw[hk]at this ⊢;rw[Nat.add_sub_cancel]at this;rw[Nat.pow_succ];omega
theorem rC {n k:Nat}(hk:1≤k)(h:n<10^k):dl n≤k:=by
 rw[aL8]
 by_cases hn:n<10
 ·rw[nDigits_small hn];exact hk
 ·have h1:=aOl n (by omega)
  apply Classical.byContradiction;intro hlt;have:10^k≤10^(nDigits n - 1):=Nat.pow_le_pow_right (by decide) (by omega)
  omega
theorem sC {n m:Nat}(h:n≤m):dl n≤dl m:=rC (aAz m) (Nat.lt_of_le_of_lt h (tE m))
theorem pK (a b:Nat):dl (a*b)≤dl a+dl b:=by
 have ha:=aAz a
 refine rC (by omega) ?_;rw[Nat.pow_add];exact Nat.mul_lt_mul_of_lt_of_le (tE a) (Nat.le_of_lt (tE b)) (Nat.pow_pos (by decide))
theorem aQr (a b:Nat):dl (a+b)≤max (dl a) (dl b)+1:=by
 refine rC (by omega) ?_;have h1:=tE a
 have h2:=tE b
 have h3:10^dl a≤10^max (dl a) (dl b):=Nat.pow_le_pow_right (by decide) (Nat.le_max_left _ _)
 have h4:10^dl b≤10^max (dl a) (dl b):=Nat.pow_le_pow_right (by decide) (Nat.le_max_right _ _)
 rw[Nat.pow_succ];omega
theorem iF (n:Nat):(aF n).length≤dl n:=by
 refine bR ?_;have h1:(10:Nat)^dl n≤1000000000^dl n:=Nat.pow_le_pow_left (by decide) _
 exact Nat.lt_of_lt_of_le (tE n) h1
theorem eR (n:Nat):(aK n).size=dl n:=by simp[aK,dl,ByteArray.size]
def sz (q:Rat):Nat:=max (dl q.num.natAbs) (dl q.den)
theorem bAf (q:Rat):1≤sz q:=by have:=aAz q.den;unfold sz;omega
theorem sH (q:Rat):q.num.natAbs<10^sz q:=Nat.lt_of_lt_of_le (tE _) (Nat.pow_le_pow_right (by decide) (Nat.le_max_left _ _))
theorem lV (q:Rat):q.den<10^sz q:=Nat.lt_of_lt_of_le (tE _) (Nat.pow_le_pow_right (by decide) (Nat.le_max_right _ _))
theorem aIv {p:Int}{q k:Nat}(hk:1≤k)(hp:p.natAbs<10^k)(hq:q<10^k):sz (mkRat p q)≤k:=by
 by_cases h0:q=0
 ·subst h0;rw[Rat.mkRat_zero];have h1:dl 0≤k:=rC hk (by omega)
  have h2:dl 1≤k:=rC hk (by
   obtain⟨j,rfl⟩:∃j,k=j+1:=⟨k - 1,by omega⟩;have:=Nat.one_le_pow j 10 (by decide)
   rw[Nat.pow_succ];omega)
  exact Nat.max_le.2 ⟨h1,h2⟩
 ·obtain⟨d,d0,e1,e2⟩:=Rat.normalize_num_den' p q h0;rw[Rat.normalize_eq_mkRat]at e1 e2;have hd:1≤d:=Nat.pos_of_ne_zero d0
  refine Nat.max_le.2 ⟨rC hk ?_,rC hk ?_⟩
  ·have:p.natAbs=(mkRat p q).num.natAbs*d:=by rw[congrArg Int.natAbs e1,Int.natAbs_mul,Int.natAbs_natCast]
   have h2:(mkRat p q).num.natAbs*1≤(mkRat p q).num.natAbs*d:=Nat.mul_le_mul_left _ hd
   omega
  ·have h2:(mkRat p q).den*1≤(mkRat p q).den*d:=Nat.mul_le_mul_left _ hd
   omega
theorem mO {a b j k:Nat}(ha:a<10^j)(hb:b<10^k):a*b<10^(j+k):=by
 rw[Nat.pow_add];exact Nat.mul_lt_mul_of_lt_of_le ha (Nat.le_of_lt hb) (Nat.pow_pos (by decide))
theorem yA (a b:Rat):sz (a*b)≤sz a+sz b:=by
 rw[Rat.mul_def'];have h1:=bAf a
 refine aIv (by omega) ?_ (mO (lV a) (lV b));rw[Int.natAbs_mul];exact mO (sH a) (sH b)
theorem xY (a b:Rat):sz (a+b)≤sz a+sz b+1:=by
 rw[Rat.add_def'];have hd:=mO (lV a) (lV b)
 have h1:=mO (sH a) (lV b)
 have h2:=mO (lV a) (sH b)
 refine aIv (by omega) ?_ ?_
 ·have h3:=Int.natAbs_add_le (a.num*b.den) (b.num*a.den)
  rw[Int.natAbs_mul,Int.natAbs_mul,Int.natAbs_natCast,Int.natAbs_natCast,Nat.mul_comm b.num.natAbs]at h3;rw[Nat.pow_succ];omega
 ·rw[Nat.pow_succ];omega
theorem fD (a:Rat):sz (-a)=sz a:=by unfold sz;simp
theorem aB6 (a b:Rat):sz (a - b)≤sz a+sz b+1:=by
 rw[Rat.sub_eq_add_neg];have:=xY a (-b);rw[fD]at this;exact this
theorem aS8 (a:Rat):sz a⁻¹≤sz a:=by
 unfold sz;rw[Rat.num_inv,Rat.den_inv]
 by_cases h:a.num=0
 ·rw[if_pos h,h];simp;have h1:dl 0=1:=by unfold dl;rw[bM (by decide)];rfl
  have h2:dl 1=1:=by unfold dl;rw[bM (by decide)];rfl
  have:=aAz a.den
  omega
 ·rw[if_neg h,Int.natAbs_mul,Int.natAbs_natCast,Int.natAbs_sign_of_ne_zero h,Nat.one_mul,Nat.max_comm];exact lRf _
theorem xZ (a b:Rat):sz (a/b)≤sz a+sz b:=by
 rw[Rat.div_def];have h1:=yA a b⁻¹;have h2:=aS8 b;omega
theorem yO (z:Int):(itoa z).length≤dl z.natAbs+1:=by
 unfold itoa;split
 ·simp[dl]
 ·rename_i h;rw[show z.toNat=z.natAbs by omega];unfold dl;omega
theorem kV (z:Int):(aU z).size≤dl z.natAbs+1:=by
 have:=yO z;simpa[aU,ByteArray.size]using this
theorem fE (q:Rat):sz q≤(aA q).size:=by
 have h1:(aA q).size=(aA q).data.toList.length:=rfl
 rw[h1,lZ];have h2:dl q.num.natAbs≤(itoa q.num).length:=by
  unfold itoa dl;split
  ·simp
  ·rename_i h;rw[show q.num.toNat=q.num.natAbs by omega];omega
 have h3:=aAz q.num.natAbs
 unfold sz;split
 ·rename_i h;rw[h,show dl 1=1 by unfold dl;rw[bM (by decide)];rfl];omega
 ·rw[List.length_append,List.length_cons];unfold dl at *;omega
end Go.Num
namespace Go.Ai
open Go Go.Proofs Go.Num
theorem qU:aB PP 205:=zK
theorem aM9 (s:ByteArray):s.toList=s.data.toList:=by
 have key:∀(n i:Nat) (r:List UInt8),s.size - i=n→ByteArray.toList.loop s i r=r.reverse++s.data.toList.drop i:=by
  intro n
  induction n with
  | zero=>
   intro i r h;rw[ByteArray.toList.loop];have hs:s.data.toList.length=s.size:=rfl
   rw[if_neg (by omega),List.drop_of_length_le (by omega)];simp
  | succ n ih=>
   intro i r h;rw[ByteArray.toList.loop];have hs:s.data.toList.length=s.size:=rfl
   have hi:i<s.size:=by omega
   rw[if_pos hi,ih (i+1) _ (by omega)];have hg:s.get! i=s.data.toList[i]'(by omega):=by
    cases s with
    | mk d=>
     show d[i]! =_
     have:i<d.size:=hi
     simp[getElem!_pos d i this]
   rw[hg,List.reverse_cons,List.append_assoc,List.drop_eq_getElem_cons (by omega:i<s.data.toList.length)]
   rfl
 have:=key s.size 0 [] (by omega)
 simpa[ByteArray.toList]using this
theorem nW {a b:SE}:(BE.seq a b).den=(a.den.data.toList==b.den.data.toList):=by
 simp only[BE.den,aM9]
theorem BE.seq_t {a b:SE}(h:(BE.seq a b).den=true):a.den.data.toList=b.den.data.toList:=by rw[nW]at h;simpa using h
theorem BE.seq_f {a b:SE}(h:(BE.seq a b).den=false):a.den.data.toList≠b.den.data.toList:=by rw[nW]at h;simpa using h
theorem jI {s:ByteArray}{i:IE}{k:Nat}(hi:i.den.toNat=k):(IE.byte (.v s) i).den=((s.data.toList.getD k 0).toNat:Int):=by
 show((s.data.toList.getD i.den.toNat 0).toNat:Int)=_
 rw[hi]
theorem aW5 {b:UInt8}:(b.toNat:Int)=48↔b=48:=by
 constructor
 ·intro h;apply UInt8.toNat_inj.1;show b.toNat=48
  omega
 ·intro h;subst h;rfl
theorem aJ8 {s:ByteArray}{l:List UInt8}(hl:l=s.data.toList)(m:Nat):(BE.lt (.l m) (.len (.v s))).den=decide (m<l.length):=by
 show decide ((m:Int)<((s.size:Nat):Int))=_
 have:l.length=s.size:=by rw[hl];rfl
 exact decide_eq_decide.2 (by omega)
theorem aLh {s:ByteArray}{l:List UInt8}(hl:l=s.data.toList){i:IE}{k:Nat}(hi:i.den.toNat=k)(m:Nat):(BE.lt (.byte (.v s) i) (.l m)).den=decide ((l.getD k 0).toNat<m):=by
 show decide ((IE.byte (.v s) i).den<(m:Int))=_
 rw[jI hi,←hl];exact decide_eq_decide.2 (by omega)
theorem aMi {s:ByteArray}{l:List UInt8}(hl:l=s.data.toList){i:IE}{k:Nat}(hi:i.den.toNat=k)(m:Nat):(BE.lt (.l m) (.byte (.v s) i)).den=decide (m<(l.getD k 0).toNat):=by
 show decide ((m:Int)<(IE.byte (.v s) i).den)=_
 rw[jI hi,←hl];exact decide_eq_decide.2 (by omega)
theorem tV {l:List UInt8}{k:Nat}:lK (l.getD k 0)=true↔48≤(l.getD k 0).toNat∧(l.getD k 0).toNat≤57:=by
 simp[lK]
theorem aF4 {l:List UInt8}{k:Nat}(hk:k<l.length)(h:(l.take k).all lK=true)(hd:lK (l.getD k 0)=true):(l.take (k+1)).all lK=true:=by
 have hg:l.getD k 0=l[k]:=by simp[hk]
 rw[hg]at hd;rw[List.take_succ_eq_append_getElem hk,List.all_append,h];simp[hd]
theorem aLa {l:List UInt8}{k:Nat}(hk:k<l.length)(hd:¬lK (l.getD k 0)=true):isNat l=false:=by
 have hg:l.getD k 0=l[k]:=by simp[hk]
 rw[hg]at hd;have:l.all lK=false:=by
  rw[Bool.eq_false_iff];intro h;exact hd (List.all_eq_true.1 h _ (List.getElem_mem hk))
 simp[isNat,this]
theorem aJ6 {l:List UInt8}(h:1<l.length∧l.getD 0 0=48):isNat l=false:=by
 have h1:¬l.length=1:=by omega
 simp only[isNat,h1,decide_false,h.1,decide_true,Bool.true_and,Bool.false_or,h.2,ne_eq,not_true_eq_false,Bool.false_and]
theorem aJ7 {l:List UInt8}(h0:l≠[])(h:¬(1<l.length∧l.getD 0 0=48))(hd:(l.take l.length).all lK=true):isNat l=true:=by
 have hp:=List.length_pos_iff.2 h0
 rw[List.take_of_length_le (lRf _)]at hd;simp only[isNat,hd,Bool.and_true,Bool.or_eq_true,decide_eq_true_eq,Bool.and_eq_true]
 by_cases h1:l.length=1
 ·exact .inl h1
 ·exact .inr ⟨by omega,fun e=>h ⟨by omega,e⟩⟩
theorem aKd (s:ByteArray)(hs:s.size≤2^60):Pure PP 205 [.string s] (.bool (isNat s.data.toList)):=by
 obtain⟨res,jF⟩:=nm (isNat s.data.toList);obtain⟨l,hl⟩:=nm (s.data.toList);rw[←jF];rw[←hl]at jF;have hlen:l.length=s.size:=by rw[hl];rfl
 obtain⟨n,hn⟩:=nm (l.length);have hsz:(IE.len (.v s)).den=(IE.n n).den:=by show((s.size:Nat):Int)=_;rw[hn,hlen];rfl
 refine aG mixed tok [.s (.v s)] Tryz.func205 rfl rfl (lbl rfl) rfl fun c hc hR=>?_
 refine zN hc ?_;cbv
 by_cases h0:l=[]
 ·refine bT hc 6 rfl rfl 100 (fun h=>?_) (fun h=>?_)
  ·have hf:res=false:=by rw[jF,h0];rfl
   subst hf;cbv;exact aD hc hR (av:=.b (.l false)) rfl rfl
  ·exact absurd h0 (by have:=BE.seq_f h;rw[hl];exact this)
 ·refine bT hc 6 rfl rfl 100 (fun h=>?_) (fun h=>?_)
  ·exact absurd (BE.seq_t h) (by rw[←show l=(SE.v s).den.data.toList from hl];exact h0)
  have hp:=List.length_pos_iff.2 h0
  have o1:(Obl.ltE (.l 0) (.len (.v s))).ok:=by show _∧_;rw[hsz];simp only[IE.den];omega
  have e48:(BE.eq (.byte (.v s) (.l 0)) (.l 48)).den=decide (l.getD 0 0=48):=by
   simp only[BE.den];exact decide_eq_decide.2 (by rw[jI (k:=0) rfl,←hl];exact aW5)
  have l1:=aJ8 hl 1
  by_cases hh:1<l.length∧l.getD 0 0=48
  ·have hf:res=false:=by rw[jF];exact aJ6 hh
   subst hf;cbv;refine bT hc 10 rfl rfl 100 (fun h2=>?_) (fun h2=>?_)
   ·cbv;refine zO hc ?_;refine aE hc rfl 100 (fun h=>?_) (fun h=>?_)
    ·cbv;exact aD hc hR (av:=.b (.l false)) rfl rfl
    ·rw[e48]at h;exact absurd hh.2 (of_decide_eq_false h)
   ·have h2:=l1.symm.trans h2;exact absurd hh.1 (of_decide_eq_false h2)
  ·apply aQp (c:=c) (K:=[]) (S':=⟨[(17,.i .i64 (.n n)),(18,.i .i64 (.n 0)),(0,.s (.v s))],[],[]⟩) (fun gen=>?_)
   rotate_left 2
   ·cbv;refine bT hc 10 rfl rfl 100 (fun h2=>?_) (fun h2=>?_)
    ·have h2:=l1.symm.trans h2
     cbv;refine zO hc ?_;refine aE hc rfl 100 (fun h=>?_) (fun h=>?_)
     ·rw[e48]at h;exact absurd ⟨of_decide_eq_true h2,of_decide_eq_true h⟩ hh
     ·cbv;exact zU 0 (S':=⟨[(17,.i .i64 (.n n)),(18,.i .i64 (.n 0)),(0,.s (.v s))],[],[]⟩) (K':=[]) ⟨zI rfl rfl hsz,zS rfl rfl,zS rfl rfl,trivial⟩ trivial trivial gen
    ·cbv;exact zU 0 (S':=⟨[(17,.i .i64 (.n n)),(18,.i .i64 (.n 0)),(0,.s (.v s))],[],[]⟩) (K':=[]) ⟨zI rfl rfl hsz,zS rfl rfl,zS rfl rfl,trivial⟩ trivial trivial gen
   ·let ι:={k:Nat//k≤n∧(l.take k).all lK=true}
    let I:ι→St:=fun x=>⟨[(17,.i .i64 (.n n)),(18,.i .i64 (.n x.1)),(0,.s (.v s))],[],[]⟩
    let x0:ι:=⟨0,Nat.zero_le _,rfl⟩
    refine bP hc I (fun x=>n - x.1) x0 100 ?_;rintro p ⟨k,hk,cG⟩ hy;cbv;refine aE hc rfl 100 (fun h=>?_) (fun h=>?_)
    ·have hkn:k<n:=BE.ltn_t h
     obtain⟨k',hk'⟩:=nm (k+1);have o2:(Obl.ltE (.n k) (.len (.v s))).ok:=by show _∧_;rw[hsz];simp only[IE.den];omega
     have o3:(Obl.inR .i64 (.add (.n k) (.l 1))).ok:=by show lo _≤_∧_≤hi _;simp only[lo,hi,IE.den];omega
     have ek:(IE.byte (.v s) (.n k)).den=((l.getD k 0).toNat:Int):=by rw[hl];exact jI (by simp[IE.den])
     have hi1:((IE.n k).add (IE.l 1)).den=(IE.n k').den:=by simp only[IE.den,hk'];omega
     have aRg:k'≤n:=by omega
     have hms:n - k'<n - k:=by omega
     have hkl:k<l.length:=by omega
     have hno:¬lK (l.getD k 0)=true→res=false:=fun h=>by rw[jF];exact aLa hkl h
     have aZd:lK (l.getD k 0)=true→(l.take k').all lK=true:=fun h=>by rw[hk'];exact aF4 hkl cG h
     have hlt:=aLh hl (i:=.n k) (k:=k) (by simp[IE.den]) 48
     have hgt:=aMi hl (i:=.n k) (k:=k) (by simp[IE.den]) 57
     cbv;refine zO hc ?_;refine bT hc 25 rfl rfl 100 (fun h=>?_) (fun h=>?_)
     ·have h:=of_decide_eq_true (hlt.symm.trans h)
      have hf:=hno (fun hd=>by have:=tV.1 hd;omega)
      subst hf;cbv;exact aD hc hR (av:=.b (.l false)) rfl rfl
     ·have h:=of_decide_eq_false (hlt.symm.trans h)
      cbv;refine zO hc ?_;refine aE hc rfl 100 (fun h2=>?_) (fun h2=>?_)
      ·have h2:=of_decide_eq_true (hgt.symm.trans h2)
       have hf:=hno (fun hd=>by have:=tV.1 hd;omega)
       subst hf;cbv;exact aD hc hR (av:=.b (.l false)) rfl rfl
      ·have h2:=of_decide_eq_false (hgt.symm.trans h2)
       have hd:=aZd (tV.2 ⟨by omega,by omega⟩)
       cbv;refine zO hc ?_;exact zU 0 (S':=I ⟨k',aRg,hd⟩) (K':=[]) ⟨zS rfl rfl,zI rfl rfl hi1,zS rfl rfl,trivial⟩ trivial trivial (hy _ hms)
    ·have hkn:n≤k:=BE.ltn_f h
     have hkl:k=l.length:=by omega
     have hf:res=true:=by rw[jF];exact aJ7 h0 hh (by rw[←hkl];exact cG)
     subst hf;cbv;exact aD hc hR (av:=.b (.l true)) rfl rfl
end Go.Ai
namespace Go.Proofs
open Go.Shelf
def Tryz.lays169_ren:Go.Shelf.Ren:=⟨fun | 169=>280 | n=>n,fun | 70=>328 | 9=>9 | 0=>0 | 72=>330 | 37=>189 | 127=>356 | 3=>3 | 5=>5 | n=>n,fun | n=>n⟩
theorem Tryz.lays169:Go.Proofs.Lays.n169 Tryz.prog Tryz.lays169_ren:={
 mixed:=by kernel_rfl
 f169:=Tryz.func280.trans (congrArg some (by kernel_rfl))
 t0:=Tryz.underlying0
 a0:=Tryz.isAgg0
 z0:=Tryz.sizeOf0
 v0:=Tryz.zeroValue0
 t3:=Tryz.underlying3
 a3:=Tryz.isAgg3
 z3:=Tryz.sizeOf3
 v3:=Tryz.zeroValue3
 t9:=Tryz.underlying9
 a9:=Tryz.isAgg9
 z9:=Tryz.sizeOf9
 v9:=Tryz.zeroValue9
 t37:=Tryz.underlying189
 a37:=Tryz.isAgg189
 z37:=Tryz.sizeOf189
 v37:=Tryz.zeroValue189
 t70:=Tryz.underlying328
 a70:=Tryz.isAgg328
 z70:=Tryz.sizeOf328
 v70:=Tryz.zeroValue328
 t72:=Tryz.underlying330
 a72:=Tryz.isAgg330
 z72:=Tryz.sizeOf330
 v72:=Tryz.zeroValue330
 t127:=Tryz.underlying356
 a127:=Tryz.isAgg356
 z127:=Tryz.sizeOf356
 v127:=Tryz.zeroValue356}
theorem Tryz.Builder_Extra_169:Builder.Extra Tryz.prog Tryz.lays169_ren:={
 sizeBuilder:=by kernel_rfl
 liesBuilder:=by kernel_rfl
 t5:=Tryz.underlying5
 a5:=Tryz.isAgg5
 z5:=Tryz.sizeOf5
 v5:=Tryz.zeroValue5
 infoByte:=by kernel_rfl
 cellsByte:=by kernel_rfl
 sizeByte:=by kernel_rfl
 neB5:=by decide}
def Tryz.lays103_ren:Go.Shelf.Ren:=⟨fun | 103=>241 | 210=>254 | 206=>272 | n=>n,fun | 9=>9 | 4=>4 | 24=>294 | 3=>3 | n=>n,fun | n=>n⟩
theorem Tryz.lays103:Go.Proofs.Lays.n103 Tryz.prog Tryz.lays103_ren:={
 mixed:=by kernel_rfl
 f103:=Tryz.func241.trans (congrArg some (by kernel_rfl))
 f206:=Tryz.func272.trans (congrArg some (by kernel_rfl))
 f210:=Tryz.func254.trans (congrArg some (by kernel_rfl))
 t3:=Tryz.underlying3
 a3:=Tryz.isAgg3
 z3:=Tryz.sizeOf3
 v3:=Tryz.zeroValue3
 t4:=Tryz.underlying4
 a4:=Tryz.isAgg4
 z4:=Tryz.sizeOf4
 v4:=Tryz.zeroValue4
 t9:=Tryz.underlying9
 a9:=Tryz.isAgg9
 z9:=Tryz.sizeOf9
 v9:=Tryz.zeroValue9
 t24:=Tryz.underlying294
 a24:=Tryz.isAgg294
 z24:=Tryz.sizeOf294
 v24:=Tryz.zeroValue294}
open Go.RowKit in
theorem Tryz.strings_CutPrefix (s p:ByteArray)(w:World):
  Calls Tryz.prog 241 #[.string s,.string p] w fun e w'=>e=.returned (.tuple #[.string ⟨(Lib.trimPrefix s.data.toList p.data.toList).toArray⟩,.bool (Lib.hasPrefix s.data.toList p.data.toList)])∧w'=w:=Any.strings_CutPrefix Tryz.lays103 s p w
open Go.RowKit in
theorem Tryz.Builder_String_any_k (B b:Nat)(l:List UInt8)(w:World)(h:Lib.IsBuilderF 330 5 B b (Lib.byteCells l) w)(hBw:B≤w.heap.size):
  Calls Tryz.prog 280 #[.pointer (some ⟨b,0,none⟩)] w fun e w'=>e=.returned (.string ⟨l.toArray⟩)∧(Lib.IsBuilderF 330 5 B b (Lib.byteCells l) w'∧Below B w w'∧Lib.OthersKept 5 (some b) w w'):=Any.Builder_String_any_k Tryz.lays169 Tryz.Builder_Extra_169 B b l w h hBw
def Tryz.lays283_ren:Go.Shelf.Ren:=⟨fun | 283=>290 | n=>n,fun | 3=>3 | 9=>9 | 4=>4 | n=>n,fun | n=>n⟩
theorem Tryz.lays283:Go.Proofs.Lays.n283 Tryz.prog Tryz.lays283_ren:={
 mixed:=by kernel_rfl
 f283:=Tryz.func290.trans (congrArg some (by kernel_rfl))
 t3:=Tryz.underlying3
 a3:=Tryz.isAgg3
 z3:=Tryz.sizeOf3
 v3:=Tryz.zeroValue3
 t4:=Tryz.underlying4
 a4:=Tryz.isAgg4
 z4:=Tryz.sizeOf4
 v4:=Tryz.zeroValue4
 t9:=Tryz.underlying9
 a9:=Tryz.isAgg9
 z9:=Tryz.sizeOf9
 v9:=Tryz.zeroValue9}
open Go.Lib in
theorem Tryz.internal_strconv_small (i:Nat)(h:i<100)(w:World):
  Calls Tryz.prog 290 #[.int .i64 i] w fun e w'=>e=.returned (.string ⟨(Lib.decDigits i).toArray⟩)∧w'=w:=Any.internal_strconv_small Tryz.lays283 i h w
def Tryz.laysM284_ren:Go.Shelf.Ren:=⟨fun | 284=>291 | 129=>309 | 317=>308 | 318=>310 | n=>n,fun | 53=>181 | 3=>3 | 212=>364 | 0=>0 | 4=>4 | 46=>311 | 5=>5 | 9=>9 | n=>n,fun | 17=>3 | n=>n⟩
theorem Tryz.laysM284:Go.Proofs.LaysM.n284 Tryz.prog Tryz.laysM284_ren:={
 mixed:=by kernel_rfl
 f129:=Tryz.func309.trans (congrArg some (by kernel_rfl))
 f284:=Tryz.func291.trans (congrArg some (by kernel_rfl))
 f317:=Tryz.func308.trans (congrArg some (by kernel_rfl))
 f318:=Tryz.func310.trans (congrArg some (by kernel_rfl))
 t0:=Tryz.underlying0
 a0:=Tryz.isAgg0
 z0:=Tryz.sizeOf0
 v0:=Tryz.zeroValue0
 t3:=Tryz.underlying3
 a3:=Tryz.isAgg3
 z3:=Tryz.sizeOf3
 v3:=Tryz.zeroValue3
 t4:=Tryz.underlying4
 a4:=Tryz.isAgg4
 z4:=Tryz.sizeOf4
 v4:=Tryz.zeroValue4
 t5:=Tryz.underlying5
 a5:=Tryz.isAgg5
 z5:=Tryz.sizeOf5
 v5:=Tryz.zeroValue5
 t9:=Tryz.underlying9
 a9:=Tryz.isAgg9
 z9:=Tryz.sizeOf9
 v9:=Tryz.zeroValue9
 t46:=Tryz.underlying311
 a46:=Tryz.isAgg311
 z46:=Tryz.sizeOf311
 v46:=Tryz.zeroValue311
 t53:=Tryz.underlying181
 a53:=Tryz.isAgg181
 z53:=Tryz.sizeOf181
 v53:=Tryz.zeroValue181
 t212:=Tryz.underlying364
 a212:=Tryz.isAgg364
 z212:=Tryz.sizeOf364
 v212:=Tryz.zeroValue364
 g17:=by kernel_rfl
 i0:=by kernel_rfl
 i3:=by kernel_rfl
 i4:=by kernel_rfl
 i5:=by kernel_rfl
 i9:=by kernel_rfl
 i46:=by kernel_rfl
 i53:=by kernel_rfl
 i212:=by kernel_rfl
 m17:=by kernel_rfl}
open Go.Lib in
theorem Tryz.internal_strconv_numDigits (u:Nat)(h1:1≤u)(h2:u<18446744073709551616)(w:World)(aCm:Lib.TabIs Tryz.prog w "internal/strconv.uint64pow10" .u64 Lib.pow10Tab):
  Calls Tryz.prog 291 #[.int .u64 u] w fun e w'=>e=.returned (.int .i64 (Lib.nDigits u))∧w'=w:=Any.internal_strconv_numDigits Tryz.laysM284 u h1 h2 w aCm
def Tryz.lays285_ren:Go.Shelf.Ren:=⟨fun | 285=>292 | n=>n,fun | 37=>189 | 53=>181 | 3=>3 | 4=>4 | 51=>138 | 9=>9 | 5=>5 | 0=>0 | n=>n,fun | n=>n⟩
theorem Tryz.lays285:Go.Proofs.Lays.n285 Tryz.prog Tryz.lays285_ren:={
 mixed:=by kernel_rfl
 f285:=Tryz.func292.trans (congrArg some (by kernel_rfl))
 t0:=Tryz.underlying0
 a0:=Tryz.isAgg0
 z0:=Tryz.sizeOf0
 v0:=Tryz.zeroValue0
 t3:=Tryz.underlying3
 a3:=Tryz.isAgg3
 z3:=Tryz.sizeOf3
 v3:=Tryz.zeroValue3
 t4:=Tryz.underlying4
 a4:=Tryz.isAgg4
 z4:=Tryz.sizeOf4
 v4:=Tryz.zeroValue4
 t5:=Tryz.underlying5
 a5:=Tryz.isAgg5
 z5:=Tryz.sizeOf5
 v5:=Tryz.zeroValue5
 t9:=Tryz.underlying9
 a9:=Tryz.isAgg9
 z9:=Tryz.sizeOf9
 v9:=Tryz.zeroValue9
 t37:=Tryz.underlying189
 a37:=Tryz.isAgg189
 z37:=Tryz.sizeOf189
 v37:=Tryz.zeroValue189
 t51:=Tryz.underlying138
 a51:=Tryz.isAgg138
 z51:=Tryz.sizeOf138
 v51:=Tryz.zeroValue138
 t53:=Tryz.underlying181
 a53:=Tryz.isAgg181
 z53:=Tryz.sizeOf181
 v53:=Tryz.zeroValue181}
open Go.RowKit Go.Sort Go.Lib in
theorem Tryz.internal_strconv_formatBase10 (blk off cap:Nat)(u:Nat)(d:Array UInt8)(w:World)(hH:Holds (fun(b:UInt8)=>Value.int .u8 (b.toNat:Int)) w blk off d)(hu:u<10^d.size)(aJ0:u<18446744073709551616)(hsz:d.size<4611686018427387904):
  Calls Tryz.prog 292 #[.slice (some ⟨blk,off,none⟩) d.size cap,.int .u64 u] w fun e w'=>
   e=.returned (.tuple #[])∧∃(n v':Nat) (dk:Array UInt8),w'=(putRow (fun(b:UInt8)=>Value.int .u8 (b.toNat:Int)) w blk off dk).drewN n∧FmtInv d.size u 0 v' dk:=Any.internal_strconv_formatBase10 Tryz.lays285 blk off cap u d w hH hu aJ0 hsz
def Tryz.laysM173_ren:Go.Shelf.Ren:=⟨fun | 173=>251 | 246=>270 | 283=>290 | 284=>291 | 285=>292 | 286=>293 | 129=>309 | 317=>308 | 318=>310 | 319=>311 | 320=>312 | 337=>318 | 338=>319 | n=>n,fun | 2=>2 | 3=>3 | 9=>9 | 4=>4 | 171=>347 | 0=>0 | 53=>181 | 37=>189 | 5=>5 | 173=>350 | 212=>364 | 51=>138 | 20=>20 | 213=>365 | 46=>311 | 232=>377 | 233=>378 | n=>n,fun | 17=>3 | 18=>4 | 19=>5 | n=>n⟩
theorem Tryz.laysM173:Go.Proofs.LaysM.n173 Tryz.prog Tryz.laysM173_ren:={
 mixed:=by kernel_rfl
 f129:=Tryz.func309.trans (congrArg some (by kernel_rfl))
 f173:=Tryz.func251.trans (congrArg some (by kernel_rfl))
 f246:=Tryz.func270.trans (congrArg some (by kernel_rfl))
 f283:=Tryz.func290.trans (congrArg some (by kernel_rfl))
 f284:=Tryz.func291.trans (congrArg some (by kernel_rfl))
 f285:=Tryz.func292.trans (congrArg some (by kernel_rfl))
 f286:=Tryz.func293.trans (congrArg some (by kernel_rfl))
 f317:=Tryz.func308.trans (congrArg some (by kernel_rfl))
 f318:=Tryz.func310.trans (congrArg some (by kernel_rfl))
 f319:=Tryz.func311.trans (congrArg some (by kernel_rfl))
 f320:=Tryz.func312.trans (congrArg some (by kernel_rfl))
 f337:=Tryz.func318.trans (congrArg some (by kernel_rfl))
 f338:=Tryz.func319.trans (congrArg some (by kernel_rfl))
 t0:=Tryz.underlying0
 a0:=Tryz.isAgg0
 z0:=Tryz.sizeOf0
 v0:=Tryz.zeroValue0
 t2:=Tryz.underlying2
 a2:=Tryz.isAgg2
 z2:=Tryz.sizeOf2
 v2:=Tryz.zeroValue2
 t3:=Tryz.underlying3
 a3:=Tryz.isAgg3
 z3:=Tryz.sizeOf3
 v3:=Tryz.zeroValue3
 t4:=Tryz.underlying4
 a4:=Tryz.isAgg4
 z4:=Tryz.sizeOf4
 v4:=Tryz.zeroValue4
 t5:=Tryz.underlying5
 a5:=Tryz.isAgg5
 z5:=Tryz.sizeOf5
 v5:=Tryz.zeroValue5
 t9:=Tryz.underlying9
 a9:=Tryz.isAgg9
 z9:=Tryz.sizeOf9
 v9:=Tryz.zeroValue9
 t20:=Tryz.underlying20
 a20:=Tryz.isAgg20
 z20:=Tryz.sizeOf20
 v20:=Tryz.zeroValue20
 t37:=Tryz.underlying189
 a37:=Tryz.isAgg189
 z37:=Tryz.sizeOf189
 v37:=Tryz.zeroValue189
 t46:=Tryz.underlying311
 a46:=Tryz.isAgg311
 z46:=Tryz.sizeOf311
 v46:=Tryz.zeroValue311
 t51:=Tryz.underlying138
 a51:=Tryz.isAgg138
 z51:=Tryz.sizeOf138
 v51:=Tryz.zeroValue138
 t53:=Tryz.underlying181
 a53:=Tryz.isAgg181
 z53:=Tryz.sizeOf181
 v53:=Tryz.zeroValue181
 t171:=Tryz.underlying347
 a171:=Tryz.isAgg347
 z171:=Tryz.sizeOf347
 v171:=Tryz.zeroValue347
 t173:=Tryz.underlying350
 a173:=Tryz.isAgg350
 z173:=Tryz.sizeOf350
 v173:=Tryz.zeroValue350
 t212:=Tryz.underlying364
 a212:=Tryz.isAgg364
 z212:=Tryz.sizeOf364
 v212:=Tryz.zeroValue364
 t213:=Tryz.underlying365
 a213:=Tryz.isAgg365
 z213:=Tryz.sizeOf365
 t232:=Tryz.underlying377
 a232:=Tryz.isAgg377
 z232:=Tryz.sizeOf377
 v232:=Tryz.zeroValue377
 t233:=Tryz.underlying378
 a233:=Tryz.isAgg378
 z233:=Tryz.sizeOf378
 v233:=Tryz.zeroValue378
 g17:=by kernel_rfl
 g18:=by kernel_rfl
 g19:=by kernel_rfl
 i0:=by kernel_rfl
 i2:=by kernel_rfl
 i3:=by kernel_rfl
 i4:=by kernel_rfl
 i5:=by kernel_rfl
 i9:=by kernel_rfl
 i20:=by kernel_rfl
 i37:=by kernel_rfl
 i46:=by kernel_rfl
 i51:=by kernel_rfl
 i53:=by kernel_rfl
 i171:=by kernel_rfl
 i173:=by kernel_rfl
 i212:=by kernel_rfl
 i232:=by kernel_rfl
 i233:=by kernel_rfl
 m17:=by kernel_rfl
 m18:=by kernel_rfl
 m19:=by kernel_rfl}
open Go.RowKit Go.Sort Go.Lib in
theorem Tryz.strconv_FormatInt_10 (n:Int)(h0:-9223372036854775808≤n)(h1:n≤9223372036854775807)(w:World)(aCm:Lib.TabIs Tryz.prog w "internal/strconv.uint64pow10" .u64 Lib.pow10Tab):
  Calls Tryz.prog 251 #[.int .i64 n,.int .i64 10] w fun e w'=>e=.returned (.string ⟨(Lib.itoa n).toArray⟩)∧∃k os,w'=grow (w.drewN k) os:=Any.strconv_FormatInt_10 Tryz.laysM173 n h0 h1 w aCm
def Tryz.laysC174_ren:Go.Shelf.Ren:=⟨fun | 174=>250 | 247=>268 | 245=>269 | 287=>285 | 279=>286 | 280=>287 | 281=>288 | 282=>289 | 321=>303 | 322=>304 | 316=>305 | 171=>307 | 205=>306 | 243=>317 | 246=>270 | 283=>290 | 284=>291 | 285=>292 | 286=>293 | 129=>309 | 317=>308 | 318=>310 | 319=>311 | 320=>312 | 337=>318 | 338=>319 | n=>n,fun | 9=>9 | 3=>3 | 2=>2 | 75=>303 | 85=>304 | 4=>4 | 167=>342 | 5=>5 | 53=>181 | 175=>326 | 46=>311 | 168=>343 | 37=>189 | 0=>0 | 210=>362 | 21=>21 | 127=>356 | 145=>374 | 143=>372 | 171=>347 | 173=>350 | 212=>364 | 51=>138 | 20=>20 | 213=>365 | 232=>377 | 233=>378 | 80=>277 | n=>n,fun | 15=>1 | 16=>2 | 17=>3 | 18=>4 | 19=>5 | n=>n⟩
theorem Tryz.laysC174:Go.Proofs.LaysC.n174 Tryz.prog Tryz.laysC174_ren:={
 mixed:=by kernel_rfl
 f129:=Tryz.func309.trans (congrArg some (by kernel_rfl))
 f171:=Tryz.func307.trans (congrArg some (by kernel_rfl))
 f174:=Tryz.func250.trans (congrArg some (by kernel_rfl))
 f205:=Tryz.func306.trans (congrArg some (by kernel_rfl))
 f243:=Tryz.func317.trans (congrArg some (by kernel_rfl))
 f245:=Tryz.func269.trans (congrArg some (by kernel_rfl))
 f246:=Tryz.func270.trans (congrArg some (by kernel_rfl))
 f247:=Tryz.func268.trans (congrArg some (by kernel_rfl))
 f279:=Tryz.func286.trans (congrArg some (by kernel_rfl))
 f280:=Tryz.func287.trans (congrArg some (by kernel_rfl))
 f281:=Tryz.func288.trans (congrArg some (by kernel_rfl))
 f282:=Tryz.func289.trans (congrArg some (by kernel_rfl))
 f283:=Tryz.func290.trans (congrArg some (by kernel_rfl))
 f284:=Tryz.func291.trans (congrArg some (by kernel_rfl))
 f285:=Tryz.func292.trans (congrArg some (by kernel_rfl))
 f286:=Tryz.func293.trans (congrArg some (by kernel_rfl))
 f287:=Tryz.func285.trans (congrArg some (by kernel_rfl))
 f316:=Tryz.func305.trans (congrArg some (by kernel_rfl))
 f317:=Tryz.func308.trans (congrArg some (by kernel_rfl))
 f318:=Tryz.func310.trans (congrArg some (by kernel_rfl))
 f319:=Tryz.func311.trans (congrArg some (by kernel_rfl))
 f320:=Tryz.func312.trans (congrArg some (by kernel_rfl))
 f321:=Tryz.func303.trans (congrArg some (by kernel_rfl))
 f322:=Tryz.func304.trans (congrArg some (by kernel_rfl))
 f337:=Tryz.func318.trans (congrArg some (by kernel_rfl))
 f338:=Tryz.func319.trans (congrArg some (by kernel_rfl))
 t0:=Tryz.underlying0
 a0:=Tryz.isAgg0
 z0:=Tryz.sizeOf0
 v0:=Tryz.zeroValue0
 t2:=Tryz.underlying2
 a2:=Tryz.isAgg2
 z2:=Tryz.sizeOf2
 v2:=Tryz.zeroValue2
 t3:=Tryz.underlying3
 a3:=Tryz.isAgg3
 z3:=Tryz.sizeOf3
 v3:=Tryz.zeroValue3
 t4:=Tryz.underlying4
 a4:=Tryz.isAgg4
 z4:=Tryz.sizeOf4
 v4:=Tryz.zeroValue4
 t5:=Tryz.underlying5
 a5:=Tryz.isAgg5
 z5:=Tryz.sizeOf5
 v5:=Tryz.zeroValue5
 t9:=Tryz.underlying9
 a9:=Tryz.isAgg9
 z9:=Tryz.sizeOf9
 v9:=Tryz.zeroValue9
 t20:=Tryz.underlying20
 a20:=Tryz.isAgg20
 z20:=Tryz.sizeOf20
 v20:=Tryz.zeroValue20
 t21:=Tryz.underlying21
 a21:=Tryz.isAgg21
 z21:=Tryz.sizeOf21
 v21:=Tryz.zeroValue21
 t37:=Tryz.underlying189
 a37:=Tryz.isAgg189
 z37:=Tryz.sizeOf189
 v37:=Tryz.zeroValue189
 t46:=Tryz.underlying311
 a46:=Tryz.isAgg311
 z46:=Tryz.sizeOf311
 v46:=Tryz.zeroValue311
 t51:=Tryz.underlying138
 a51:=Tryz.isAgg138
 z51:=Tryz.sizeOf138
 v51:=Tryz.zeroValue138
 t53:=Tryz.underlying181
 a53:=Tryz.isAgg181
 z53:=Tryz.sizeOf181
 v53:=Tryz.zeroValue181
 t75:=Tryz.underlying303
 a75:=Tryz.isAgg303
 z75:=Tryz.sizeOf303
 v75:=Tryz.zeroValue303
 t85:=Tryz.underlying304
 a85:=Tryz.isAgg304
 z85:=Tryz.sizeOf304
 v85:=Tryz.zeroValue304
 t127:=Tryz.underlying356
 a127:=Tryz.isAgg356
 z127:=Tryz.sizeOf356
 v127:=Tryz.zeroValue356
 t143:=Tryz.underlying372
 a143:=Tryz.isAgg372
 z143:=Tryz.sizeOf372
 v143:=Tryz.zeroValue372
 t145:=Tryz.underlying374
 a145:=Tryz.isAgg374
 z145:=Tryz.sizeOf374
 v145:=Tryz.zeroValue374
 t167:=Tryz.underlying342
 a167:=Tryz.isAgg342
 z167:=Tryz.sizeOf342
 v167:=Tryz.zeroValue342
 t168:=Tryz.underlying343
 a168:=Tryz.isAgg343
 z168:=Tryz.sizeOf343
 v168:=Tryz.zeroValue343
 t171:=Tryz.underlying347
 a171:=Tryz.isAgg347
 z171:=Tryz.sizeOf347
 v171:=Tryz.zeroValue347
 t173:=Tryz.underlying350
 a173:=Tryz.isAgg350
 z173:=Tryz.sizeOf350
 v173:=Tryz.zeroValue350
 t175:=Tryz.underlying326
 a175:=Tryz.isAgg326
 z175:=Tryz.sizeOf326
 v175:=Tryz.zeroValue326
 t210:=Tryz.underlying362
 a210:=Tryz.isAgg362
 z210:=Tryz.sizeOf362
 v210:=Tryz.zeroValue362
 t212:=Tryz.underlying364
 a212:=Tryz.isAgg364
 z212:=Tryz.sizeOf364
 v212:=Tryz.zeroValue364
 t213:=Tryz.underlying365
 a213:=Tryz.isAgg365
 z213:=Tryz.sizeOf365
 t232:=Tryz.underlying377
 a232:=Tryz.isAgg377
 z232:=Tryz.sizeOf377
 v232:=Tryz.zeroValue377
 t233:=Tryz.underlying378
 a233:=Tryz.isAgg378
 z233:=Tryz.sizeOf378
 v233:=Tryz.zeroValue378
 g15:=by kernel_rfl
 g16:=by kernel_rfl
 g17:=by kernel_rfl
 g18:=by kernel_rfl
 g19:=by kernel_rfl
 t80:=Tryz.underlying277
 a80:=Tryz.isAgg277
 z80:=Tryz.sizeOf277
 v80:=Tryz.zeroValue277
 i0:=by kernel_rfl
 i2:=by kernel_rfl
 i3:=by kernel_rfl
 i4:=by kernel_rfl
 i5:=by kernel_rfl
 i9:=by kernel_rfl
 i20:=by kernel_rfl
 i21:=by kernel_rfl
 i37:=by kernel_rfl
 i46:=by kernel_rfl
 i51:=by kernel_rfl
 i53:=by kernel_rfl
 i75:=by kernel_rfl
 i80:=by kernel_rfl
 i85:=by kernel_rfl
 i127:=by kernel_rfl
 i143:=by kernel_rfl
 i145:=by kernel_rfl
 i167:=by kernel_rfl
 i168:=by kernel_rfl
 i171:=by kernel_rfl
 i173:=by kernel_rfl
 i175:=by kernel_rfl
 i210:=by kernel_rfl
 i212:=by kernel_rfl
 i232:=by kernel_rfl
 i233:=by kernel_rfl
 m15:=by kernel_rfl
 m16:=by kernel_rfl
 m17:=by kernel_rfl
 m18:=by kernel_rfl
 m19:=by kernel_rfl
 c0:=by kernel_rfl
 c2:=by kernel_rfl
 c3:=by kernel_rfl
 c4:=by kernel_rfl
 c5:=by kernel_rfl
 c9:=by kernel_rfl
 c20:=by kernel_rfl
 c21:=by kernel_rfl
 c37:=by kernel_rfl
 c46:=by kernel_rfl
 c51:=by kernel_rfl
 c53:=by kernel_rfl
 c75:=by kernel_rfl
 c80:=by kernel_rfl
 c85:=by kernel_rfl
 c127:=by kernel_rfl
 c143:=by kernel_rfl
 c145:=by kernel_rfl
 c167:=by kernel_rfl
 c168:=by kernel_rfl
 c171:=by kernel_rfl
 c173:=by kernel_rfl
 c175:=by kernel_rfl
 c210:=by kernel_rfl
 c212:=by kernel_rfl
 c213:=by kernel_rfl
 c232:=by kernel_rfl
 c233:=by kernel_rfl}
open Go.RowKit in
theorem Tryz.strconv_ParseInt_10_at64_ok (s:ByteArray)(aY2:s.size≤9223372036854775806)(v:Int)(h:Lib.parseIntB 64 s.data.toList=.ok v)(w:World):
  Calls Tryz.prog 250 #[.string s,.int .i64 10,.int .i64 64] w fun e w'=>e=.returned (.tuple #[.int .i64 v,.nilIface])∧(w'=w∨∃t,w'=Lib.bytesWorld w 5 t):=Any.strconv_ParseInt_10_at64_ok Tryz.laysC174 s aY2 v h w
def Tryz.laysPu14_ren:Go.Shelf.Ren:=⟨fun | 14=>275 | 16=>285 | 17=>269 | 19=>303 | 20=>304 | 21=>286 | 22=>287 | 23=>288 | 24=>289 | 25=>305 | 27=>307 | 26=>306 | 28=>317 | 29=>270 | 30=>290 | 31=>291 | 32=>292 | 33=>293 | 35=>309 | 34=>308 | 36=>310 | 37=>311 | 38=>312 | 39=>318 | 40=>319 | n=>n,fun | 9=>9 | 3=>3 | 22=>181 | 24=>303 | 25=>326 | 4=>4 | 34=>342 | 5=>5 | 36=>311 | 37=>189 | 0=>0 | 39=>343 | 21=>21 | 44=>362 | 47=>356 | 50=>374 | 48=>372 | 2=>2 | 52=>347 | 55=>350 | 59=>364 | 60=>138 | 20=>20 | 61=>365 | 65=>377 | 66=>378 | 67=>277 | n=>n,fun | 0=>1 | 1=>2 | 2=>3 | 3=>4 | 4=>5 | n=>n⟩
theorem Tryz.laysPu14:Go.Proofs.LaysPu.n14 Tryz.prog Tryz.laysPu14_ren:={
 mixed:=by kernel_rfl
 f14:=Tryz.func275.trans (congrArg some (by kernel_rfl))
 f16:=Tryz.func285.trans (congrArg some (by kernel_rfl))
 f17:=Tryz.func269.trans (congrArg some (by kernel_rfl))
 f19:=Tryz.func303.trans (congrArg some (by kernel_rfl))
 f20:=Tryz.func304.trans (congrArg some (by kernel_rfl))
 f21:=Tryz.func286.trans (congrArg some (by kernel_rfl))
 f22:=Tryz.func287.trans (congrArg some (by kernel_rfl))
 f23:=Tryz.func288.trans (congrArg some (by kernel_rfl))
 f24:=Tryz.func289.trans (congrArg some (by kernel_rfl))
 f25:=Tryz.func305.trans (congrArg some (by kernel_rfl))
 f26:=Tryz.func306.trans (congrArg some (by kernel_rfl))
 f27:=Tryz.func307.trans (congrArg some (by kernel_rfl))
 f28:=Tryz.func317.trans (congrArg some (by kernel_rfl))
 f29:=Tryz.func270.trans (congrArg some (by kernel_rfl))
 f30:=Tryz.func290.trans (congrArg some (by kernel_rfl))
 f31:=Tryz.func291.trans (congrArg some (by kernel_rfl))
 f32:=Tryz.func292.trans (congrArg some (by kernel_rfl))
 f33:=Tryz.func293.trans (congrArg some (by kernel_rfl))
 f34:=Tryz.func308.trans (congrArg some (by kernel_rfl))
 f35:=Tryz.func309.trans (congrArg some (by kernel_rfl))
 f36:=Tryz.func310.trans (congrArg some (by kernel_rfl))
 f37:=Tryz.func311.trans (congrArg some (by kernel_rfl))
 f38:=Tryz.func312.trans (congrArg some (by kernel_rfl))
 f39:=Tryz.func318.trans (congrArg some (by kernel_rfl))
 f40:=Tryz.func319.trans (congrArg some (by kernel_rfl))
 t0:=Tryz.underlying0
 a0:=Tryz.isAgg0
 z0:=Tryz.sizeOf0
 v0:=Tryz.zeroValue0
 i0:=by kernel_rfl
 t2:=Tryz.underlying2
 a2:=Tryz.isAgg2
 z2:=Tryz.sizeOf2
 v2:=Tryz.zeroValue2
 i2:=by kernel_rfl
 t3:=Tryz.underlying3
 a3:=Tryz.isAgg3
 z3:=Tryz.sizeOf3
 v3:=Tryz.zeroValue3
 i3:=by kernel_rfl
 t4:=Tryz.underlying4
 a4:=Tryz.isAgg4
 z4:=Tryz.sizeOf4
 v4:=Tryz.zeroValue4
 i4:=by kernel_rfl
 t5:=Tryz.underlying5
 a5:=Tryz.isAgg5
 z5:=Tryz.sizeOf5
 v5:=Tryz.zeroValue5
 i5:=by kernel_rfl
 t9:=Tryz.underlying9
 a9:=Tryz.isAgg9
 z9:=Tryz.sizeOf9
 v9:=Tryz.zeroValue9
 i9:=by kernel_rfl
 t20:=Tryz.underlying20
 a20:=Tryz.isAgg20
 z20:=Tryz.sizeOf20
 v20:=Tryz.zeroValue20
 i20:=by kernel_rfl
 t21:=Tryz.underlying21
 a21:=Tryz.isAgg21
 z21:=Tryz.sizeOf21
 v21:=Tryz.zeroValue21
 i21:=by kernel_rfl
 t22:=Tryz.underlying181
 a22:=Tryz.isAgg181
 z22:=Tryz.sizeOf181
 v22:=Tryz.zeroValue181
 i22:=by kernel_rfl
 t24:=Tryz.underlying303
 a24:=Tryz.isAgg303
 z24:=Tryz.sizeOf303
 v24:=Tryz.zeroValue303
 i24:=by kernel_rfl
 t25:=Tryz.underlying326
 a25:=Tryz.isAgg326
 z25:=Tryz.sizeOf326
 v25:=Tryz.zeroValue326
 i25:=by kernel_rfl
 t34:=Tryz.underlying342
 a34:=Tryz.isAgg342
 z34:=Tryz.sizeOf342
 v34:=Tryz.zeroValue342
 i34:=by kernel_rfl
 c34:=by kernel_rfl
 t36:=Tryz.underlying311
 a36:=Tryz.isAgg311
 z36:=Tryz.sizeOf311
 v36:=Tryz.zeroValue311
 i36:=by kernel_rfl
 t37:=Tryz.underlying189
 a37:=Tryz.isAgg189
 z37:=Tryz.sizeOf189
 v37:=Tryz.zeroValue189
 i37:=by kernel_rfl
 t39:=Tryz.underlying343
 a39:=Tryz.isAgg343
 z39:=Tryz.sizeOf343
 v39:=Tryz.zeroValue343
 i39:=by kernel_rfl
 t44:=Tryz.underlying362
 a44:=Tryz.isAgg362
 z44:=Tryz.sizeOf362
 v44:=Tryz.zeroValue362
 i44:=by kernel_rfl
 t47:=Tryz.underlying356
 a47:=Tryz.isAgg356
 z47:=Tryz.sizeOf356
 v47:=Tryz.zeroValue356
 i47:=by kernel_rfl
 t48:=Tryz.underlying372
 a48:=Tryz.isAgg372
 z48:=Tryz.sizeOf372
 v48:=Tryz.zeroValue372
 i48:=by kernel_rfl
 t50:=Tryz.underlying374
 a50:=Tryz.isAgg374
 z50:=Tryz.sizeOf374
 v50:=Tryz.zeroValue374
 i50:=by kernel_rfl
 t52:=Tryz.underlying347
 a52:=Tryz.isAgg347
 z52:=Tryz.sizeOf347
 v52:=Tryz.zeroValue347
 i52:=by kernel_rfl
 t55:=Tryz.underlying350
 a55:=Tryz.isAgg350
 z55:=Tryz.sizeOf350
 v55:=Tryz.zeroValue350
 i55:=by kernel_rfl
 t59:=Tryz.underlying364
 a59:=Tryz.isAgg364
 z59:=Tryz.sizeOf364
 v59:=Tryz.zeroValue364
 i59:=by kernel_rfl
 t60:=Tryz.underlying138
 a60:=Tryz.isAgg138
 z60:=Tryz.sizeOf138
 v60:=Tryz.zeroValue138
 i60:=by kernel_rfl
 t61:=Tryz.underlying365
 a61:=Tryz.isAgg365
 z61:=Tryz.sizeOf365
 t65:=Tryz.underlying377
 a65:=Tryz.isAgg377
 z65:=Tryz.sizeOf377
 v65:=Tryz.zeroValue377
 i65:=by kernel_rfl
 t66:=Tryz.underlying378
 a66:=Tryz.isAgg378
 z66:=Tryz.sizeOf378
 v66:=Tryz.zeroValue378
 i66:=by kernel_rfl
 t67:=Tryz.underlying277
 a67:=Tryz.isAgg277
 z67:=Tryz.sizeOf277
 v67:=Tryz.zeroValue277
 i67:=by kernel_rfl
 g0:=by kernel_rfl
 m0:=by kernel_rfl
 g1:=by kernel_rfl
 m1:=by kernel_rfl
 g2:=by kernel_rfl
 m2:=by kernel_rfl
 g3:=by kernel_rfl
 m3:=by kernel_rfl
 g4:=by kernel_rfl
 m4:=by kernel_rfl}
open Go.RowKit in
theorem Tryz.strconv_ParseUint_10_at32_ok (s:ByteArray)(aY2:s.size≤9223372036854775806)(u:Nat)(h:Lib.parseUintB 32 s.data.toList=.ok u)(w:World):
  Calls Tryz.prog 275 #[.string s,.int .i64 10,.int .i64 32] w fun e w'=>e=.returned (.tuple #[.int .u64 u,.nilIface])∧(w'=w∨w'=Lib.bytesWorld w 5 s):=Any.strconv_ParseUint_10_at32_ok Tryz.laysPu14 s aY2 u h w
def Tryz.lays145_ren:Go.Shelf.Ren:=⟨fun | 145=>203 | 220=>225 | 219=>242 | 217=>255 | 225=>256 | 224=>257 | 267=>258 | 266=>273 | 314=>274 | n=>n,fun | 9=>9 | 4=>4 | 59=>132 | 3=>3 | 5=>5 | 46=>311 | 146=>324 | 51=>138 | n=>n,fun | 1=>0 | n=>n⟩
theorem Tryz.lays145:Go.Proofs.Lays.n145 Tryz.prog Tryz.lays145_ren:={
 mixed:=by kernel_rfl
 f145:=Tryz.func203.trans (congrArg some (by kernel_rfl))
 f217:=Tryz.func255.trans (congrArg some (by kernel_rfl))
 f219:=Tryz.func242.trans (congrArg some (by kernel_rfl))
 f220:=Tryz.func225.trans (congrArg some (by kernel_rfl))
 f224:=Tryz.func257.trans (congrArg some (by kernel_rfl))
 f225:=Tryz.func256.trans (congrArg some (by kernel_rfl))
 f266:=Tryz.func273.trans (congrArg some (by kernel_rfl))
 f267:=Tryz.func258.trans (congrArg some (by kernel_rfl))
 f314:=Tryz.func274.trans (congrArg some (by kernel_rfl))
 t3:=Tryz.underlying3
 a3:=Tryz.isAgg3
 z3:=Tryz.sizeOf3
 v3:=Tryz.zeroValue3
 t4:=Tryz.underlying4
 a4:=Tryz.isAgg4
 z4:=Tryz.sizeOf4
 v4:=Tryz.zeroValue4
 t5:=Tryz.underlying5
 a5:=Tryz.isAgg5
 z5:=Tryz.sizeOf5
 v5:=Tryz.zeroValue5
 t9:=Tryz.underlying9
 a9:=Tryz.isAgg9
 z9:=Tryz.sizeOf9
 v9:=Tryz.zeroValue9
 t46:=Tryz.underlying311
 a46:=Tryz.isAgg311
 z46:=Tryz.sizeOf311
 v46:=Tryz.zeroValue311
 t51:=Tryz.underlying138
 a51:=Tryz.isAgg138
 z51:=Tryz.sizeOf138
 v51:=Tryz.zeroValue138
 t59:=Tryz.underlying132
 a59:=Tryz.isAgg132
 z59:=Tryz.sizeOf132
 v59:=Tryz.zeroValue132
 t146:=Tryz.underlying324
 a146:=Tryz.isAgg324
 z146:=Tryz.sizeOf324
 v146:=Tryz.zeroValue324
 g1:=by kernel_rfl}
open Go.RowKit Go.Lib in
theorem Tryz.strings_Cut (s sep:ByteArray)(m:Int)(w:World)(hs:s.size<4294967281)(hm:w.cell? ⟨0,0,none⟩=some (.int .i64 m)):
  Calls Tryz.prog 203 #[.string s,.string sep] w fun e w'=>e=.returned (.tuple #[.string ⟨(Lib.cut s.data.toList sep.data.toList).1.toArray⟩,.string ⟨(Lib.cut s.data.toList sep.data.toList).2.1.toArray⟩,.bool (Lib.cut s.data.toList sep.data.toList).2.2])∧∃n,w'=w.drewN n:=Any.strings_Cut Tryz.lays145 s sep m w hs hm
def Tryz.lays105_ren:Go.Shelf.Ren:=⟨fun | 105=>279 | 212=>297 | 99=>298 | 165=>299 | 166=>278 | 170=>300 | 169=>280 | 263=>314 | 264=>315 | 206=>272 | 240=>296 | 241=>316 | 276=>313 | 277=>320 | n=>n,fun | 9=>9 | 3=>3 | 4=>4 | 20=>20 | 0=>0 | 46=>311 | 109=>353 | 5=>5 | 72=>330 | 76=>335 | 51=>138 | 146=>324 | 53=>181 | 148=>370 | 70=>328 | 37=>189 | 75=>303 | 127=>356 | 164=>367 | 80=>277 | n=>n,fun | n=>n⟩
theorem Tryz.lays105:Go.Proofs.Lays.n105 Tryz.prog Tryz.lays105_ren:={
 mixed:=by kernel_rfl
 f99:=Tryz.func298.trans (congrArg some (by kernel_rfl))
 f105:=Tryz.func279.trans (congrArg some (by kernel_rfl))
 f165:=Tryz.func299.trans (congrArg some (by kernel_rfl))
 f166:=Tryz.func278.trans (congrArg some (by kernel_rfl))
 f169:=Tryz.func280.trans (congrArg some (by kernel_rfl))
 f170:=Tryz.func300.trans (congrArg some (by kernel_rfl))
 f206:=Tryz.func272.trans (congrArg some (by kernel_rfl))
 f212:=Tryz.func297.trans (congrArg some (by kernel_rfl))
 f240:=Tryz.func296.trans (congrArg some (by kernel_rfl))
 f241:=Tryz.func316.trans (congrArg some (by kernel_rfl))
 f263:=Tryz.func314.trans (congrArg some (by kernel_rfl))
 f264:=Tryz.func315.trans (congrArg some (by kernel_rfl))
 f276:=Tryz.func313.trans (congrArg some (by kernel_rfl))
 f277:=Tryz.func320.trans (congrArg some (by kernel_rfl))
 t0:=Tryz.underlying0
 a0:=Tryz.isAgg0
 z0:=Tryz.sizeOf0
 v0:=Tryz.zeroValue0
 t3:=Tryz.underlying3
 a3:=Tryz.isAgg3
 z3:=Tryz.sizeOf3
 v3:=Tryz.zeroValue3
 t4:=Tryz.underlying4
 a4:=Tryz.isAgg4
 z4:=Tryz.sizeOf4
 v4:=Tryz.zeroValue4
 t5:=Tryz.underlying5
 a5:=Tryz.isAgg5
 z5:=Tryz.sizeOf5
 v5:=Tryz.zeroValue5
 t9:=Tryz.underlying9
 a9:=Tryz.isAgg9
 z9:=Tryz.sizeOf9
 v9:=Tryz.zeroValue9
 t20:=Tryz.underlying20
 a20:=Tryz.isAgg20
 z20:=Tryz.sizeOf20
 v20:=Tryz.zeroValue20
 t37:=Tryz.underlying189
 a37:=Tryz.isAgg189
 z37:=Tryz.sizeOf189
 v37:=Tryz.zeroValue189
 t46:=Tryz.underlying311
 a46:=Tryz.isAgg311
 z46:=Tryz.sizeOf311
 v46:=Tryz.zeroValue311
 t51:=Tryz.underlying138
 a51:=Tryz.isAgg138
 z51:=Tryz.sizeOf138
 v51:=Tryz.zeroValue138
 t53:=Tryz.underlying181
 a53:=Tryz.isAgg181
 z53:=Tryz.sizeOf181
 v53:=Tryz.zeroValue181
 t70:=Tryz.underlying328
 a70:=Tryz.isAgg328
 z70:=Tryz.sizeOf328
 v70:=Tryz.zeroValue328
 t72:=Tryz.underlying330
 a72:=Tryz.isAgg330
 z72:=Tryz.sizeOf330
 v72:=Tryz.zeroValue330
 t75:=Tryz.underlying303
 a75:=Tryz.isAgg303
 z75:=Tryz.sizeOf303
 v75:=Tryz.zeroValue303
 t76:=Tryz.underlying335
 a76:=Tryz.isAgg335
 z76:=Tryz.sizeOf335
 v76:=Tryz.zeroValue335
 t109:=Tryz.underlying353
 a109:=Tryz.isAgg353
 z109:=Tryz.sizeOf353
 v109:=Tryz.zeroValue353
 t127:=Tryz.underlying356
 a127:=Tryz.isAgg356
 z127:=Tryz.sizeOf356
 v127:=Tryz.zeroValue356
 t146:=Tryz.underlying324
 a146:=Tryz.isAgg324
 z146:=Tryz.sizeOf324
 v146:=Tryz.zeroValue324
 t148:=Tryz.underlying370
 a148:=Tryz.isAgg370
 z148:=Tryz.sizeOf370
 v148:=Tryz.zeroValue370
 t164:=Tryz.underlying367
 a164:=Tryz.isAgg367
 z164:=Tryz.sizeOf367
 v164:=Tryz.zeroValue367}
theorem Tryz.Builder_Extra_105:Builder.Extra Tryz.prog Tryz.lays105_ren:={
 sizeBuilder:=by kernel_rfl
 liesBuilder:=by kernel_rfl
 t5:=Tryz.underlying5
 a5:=Tryz.isAgg5
 z5:=Tryz.sizeOf5
 v5:=Tryz.zeroValue5
 infoByte:=by kernel_rfl
 cellsByte:=by kernel_rfl
 sizeByte:=by kernel_rfl
 neB5:=by decide}
open Go.RowKit Go.Lib in
theorem Tryz.strings_Repeat (s:ByteArray)(c:Nat)(w:World)(hc:c≤9223372036854775807)(hlen:s.size*c≤140737488355328):
  Calls Tryz.prog 279 #[.string s,.int .i64 c] w fun e w'=>e=.returned (.string ⟨(Lib.repeatL s.data.toList c).toArray⟩)∧Below w.heap.size w w':=Any.strings_Repeat Tryz.lays105 Tryz.Builder_Extra_105 s c w hc hlen
end Go.Proofs
