/- Part 10 of the proof: garboardlaw17.FloatMirrors returns true, where what it reads is of bulk at most 1048576. -/
import Derived.Test.YtmnancfboococaaGreatDoorPm5
import Derived.Test.YtmnancfboococaaGreatDoorPm8
set_option linter.all false
namespace Go.Num
def aF (n:Nat):List Int:=if n=0 then []else((n%1000000000:Nat):Int)::aF (n/1000000000)
decreasing_by omega
def val:List Int→Int
 | []=>0
 | x::l=>x+1000000000*val l
def Wd (l:List Int):Prop:=∀x,x∈l→0≤x∧x<1000000000
def eA:List Int→List Int
 | []=>[]
 | x::l=>match eA l with
  | []=>if x=0 then []else [x]
  | y::ys=>x::y::ys
theorem uG:∀(l:List Int),eA (l++[0])=eA l
 | []=>rfl
 | x::l=>by simp only[List.cons_append,eA,uG l]
theorem aCc {x:Int}(hx:x≠0):∀(l:List Int),eA (l++[x])=l++[x]
 | []=>by simp[eA,hx]
 | y::l=>by
  simp only[List.cons_append,eA,aCc hx l];cases l<;>rfl
theorem Wd.cons {x:Int}{l:List Int}(h:Wd (x::l)):(0≤x∧x<1000000000)∧Wd l:=⟨h x (.head _),fun y hy=>h y (.tail _ hy)⟩
theorem Wd.nil:Wd []:=fun x h=>by cases h
theorem Wd.mk {x:Int}{l:List Int}(h:0≤x∧x<1000000000)(hl:Wd l):Wd (x::l):=fun y hy=>by
 rcases List.mem_cons.1 hy with e | e
 ·subst e;exact h
 ·exact hl y e
theorem Wd.append {l m:List Int}(h:Wd l)(h':Wd m):Wd (l++m):=fun x hx=>(List.mem_append.1 hx).elim (h x) (h' x)
theorem cH:∀{l:List Int},Wd l→0≤val l
 | [],_=>Int.le_refl _
 | x::l,h=>by have:=cH h.cons.2;have:=h.cons.1.1;simp only[val];omega
theorem bO:aF 0=[]:=by rw[aF];rfl
theorem bY {n:Nat}(h:n≠0):aF n=((n%1000000000:Nat):Int)::aF (n/1000000000):=by rw[aF];simp[h]
theorem nD:∀{l:List Int},Wd l→eA l=aF (val l).toNat
 | [],_=>by simp[eA,val,bO]
 | x::l,h=>by
  obtain⟨hx,hl⟩:=h.cons;have hv:=cH hl
  have ih:=nD hl
  simp only[eA,val,ih]
  by_cases h0:val l=0
  ·rw[h0];simp only[Int.toNat_zero,bO]
   by_cases hx0:x=0
   ·simp[hx0,bO]
   ·rw[if_neg hx0,bY (by omega)];have e1:(x+1000000000*0).toNat%1000000000=x.toNat:=by omega
    have e2:(x+1000000000*0).toNat/1000000000=0:=by omega
    rw[e1,e2,bO]
    congr 1;omega
  ·have h1:(val l).toNat≠0:=by omega
   have e:aF (val l).toNat=(((val l).toNat%1000000000:Nat):Int)::aF ((val l).toNat/1000000000):=bY h1
   rw[e,bY (n:=(x+1000000000*val l).toNat) (by omega)];have e1:(x+1000000000*val l).toNat%1000000000=x.toNat:=by omega
   have e2:(x+1000000000*val l).toNat/1000000000=(val l).toNat:=by omega
   rw[e1,e2,e];simp only
   congr 1;omega
theorem bK:∀(n:Nat),Wd (aF n):=by
 intro n
 induction n using Nat.strongRecOn with
 | _ n ih=>
  by_cases h:n=0
  ·subst h;rw[bO];exact Wd.nil
  ·rw[bY h];exact Wd.mk (by omega) (ih _ (by omega))
theorem cN:∀(n:Nat),val (aF n)=n:=by
 intro n
 induction n using Nat.strongRecOn with
 | _ n ih=>
  by_cases h:n=0
  ·subst h;rw[bO];rfl
  ·rw[bY h];simp only[val,ih (n/1000000000) (by omega)];omega
theorem aG2 {n m:Nat}(h:aF n=aF m):n=m:=by
 have:=cN n
 rw[h,cN m]at this;omega
theorem val_append:∀(l m:List Int),val (l++m)=val l+1000000000^l.length*val m
 | [],m=>by simp[val]
 | x::l,m=>by
  simp only[List.cons_append,val,val_append l m,List.length_cons,Int.pow_succ]
  grind
theorem kW:∀{l:List Int},Wd l→val l<1000000000^l.length
 | [],_=>by simp[val]
 | x::l,h=>by
  have:=kW h.cons.2
  have:=h.cons.1
  simp only[val,List.length_cons,Int.pow_succ];omega
theorem aCr {l:List Int}{i:Nat}{x:Int}(h:l[i]?=some x):val (l.take (i+1))=val (l.take i)+1000000000^i*x:=by
 have hi:=(List.getElem?_eq_some_iff.1 h).1
 rw[List.take_add_one,h,val_append];simp only[Option.toList_some,val,List.length_take];rw[Nat.min_eq_left (by omega)]
 grind
theorem nE {l:List Int}{i:Nat}{x:Int}(h:l[i]?=some x):val (l.drop i)=x+1000000000*val (l.drop (i+1)):=by
 have hi:=(List.getElem?_eq_some_iff.1 h).1
 rw[List.drop_eq_getElem_cons hi];have:l[i]=x:=by have:=List.getElem?_eq_getElem hi;rw[this]at h;injection h
 simp only[val,this]
theorem bR {n k : Nat} (h : n < 1000000000 ^ k) : (aF n).length ≤ k := by
  induction k generalizing n with
  | zero => have : n = 0 := by simpa using h
            subst this; simp [bO]
  | succ k ih =>
    by_cases hn : n = 0
    · subst hn; simp [bO]
    · rw [bY hn, List.length_cons]
      have := ih (n := n / 1000000000) (by rw [Nat.pow_succ] at h; omega)
      omega
theorem bG {n k:Nat}(h:(aF n).length≤k):n<1000000000^k:=by
 have h1:=kW (bK n)
 rw[cN]at h1;have h2:(1000000000:Nat)^(aF n).length≤1000000000^k:=Nat.pow_le_pow_right (by omega) h
 have h3:((1000000000:Nat)^(aF n).length:Nat)=((1000000000:Int)^(aF n).length):=by simp
 omega
theorem rB {n m:Nat}(h:(aF n).length<(aF m).length):n<m:=by
 rcases Nat.lt_or_ge n m with h' | h'
 ·exact h'
 ·have:=bR (Nat.lt_of_le_of_lt h' (bG (lRf _)));omega
theorem jD {l:List Int}{q:Nat}(h:q≤l.length):val l=val (l.take q)+1000000000^q*val (l.drop q):=by
 have:=val_append (l.take q) (l.drop q)
 rw[List.take_append_drop,List.length_take,Nat.min_eq_left h]at this;exact this
theorem Wd.take {l:List Int}(h:Wd l)(q:Nat):Wd (l.take q):=fun x hx=>h x (List.mem_of_mem_take hx)
theorem Wd.drop {l:List Int}(h:Wd l)(q:Nat):Wd (l.drop q):=fun x hx=>h x (List.mem_of_mem_drop hx)
theorem aEf {l m:List Int}(hl:Wd l)(hm:Wd m){q:Nat}{x y:Int}(hx:l[q]?=some x)(hy:m[q]?=some y)(hd:l.drop (q+1)=m.drop (q+1))(hxy:x<y):val l<val m:=by
 have h1:=(List.getElem?_eq_some_iff.1 hx).1
 have h2:=(List.getElem?_eq_some_iff.1 hy).1
 rw[jD (q:=q) (l:=l) (by omega),jD (q:=q) (l:=m) (by omega),nE hx,nE hy,hd];have h3:=kW (hl.take q)
 rw[List.length_take,Nat.min_eq_left (by omega)]at h3;have h4:=cH (hm.take q)
 have hp:(0:Int)<1000000000^q:=Int.pow_pos (by omega)
 generalize val (List.drop (q+1) m)=D;generalize val (List.take q l)=a at *;generalize val (List.take q m)=b at *;generalize (1000000000:Int)^q=B at *;have h5:B*(x+1000000000*D+1)≤B*(y+1000000000*D):=Int.mul_le_mul_of_nonneg_left (by omega) (by omega)
 rw[Int.mul_add B (x+1000000000*D) 1]at h5;omega
def bS (x y:Int):Int:=if x<y then -1 else if y<x then 1 else 0
theorem aGt {l m:List Int}(hl:Wd l)(hm:Wd m){q:Nat}{x y:Int}(hx:l[q]?=some x)(hy:m[q]?=some y)(hd:l.drop (q+1)=m.drop (q+1))(hxy:x≠y):bS x y=bS (val l) (val m):=by
 rcases Int.lt_or_gt_of_ne hxy with h | h
 ·have:=aEf hl hm hx hy hd h
  simp only[bS];rw[if_pos h,if_pos this]
 ·have:=aEf hm hl hy hx hd.symm h
  simp only[bS];rw[if_neg (by omega),if_pos h,if_neg (by omega),if_pos this]
theorem aGs {n m:Nat}(h:(aF n).length≠(aF m).length):bS (aF n).length (aF m).length=bS n m:=by
 rcases Nat.lt_or_gt_of_ne h with h | h
 ·have:=rB h
  simp only[bS];rw[if_pos (by omega),if_pos (by omega)]
 ·have:=rB h
  simp only[bS];rw[if_neg (by omega),if_pos (by omega),if_neg (by omega),if_pos (by omega)]
theorem bJ {l:List Int}(i:Nat):val (l.take (i+1))=val (l.take i)+1000000000^i*l.getD i 0:=by
 rcases Nat.lt_or_ge i l.length with h | h
 ·have hx:=List.getElem?_eq_getElem h
  rw[aCr hx,List.getD_eq_getElem?_getD,hx];rfl
 ·rw[List.take_of_length_le (by omega),List.take_of_length_le h,List.getD_eq_getElem?_getD,List.getElem?_eq_none h];simp
theorem bU {n m:Nat}(h:n≤m):(aF n).length≤(aF m).length:=
 bR (Nat.lt_of_le_of_lt h (bG (lRf _)))
theorem bB {l:List Int}(h:Wd l)(i:Nat):0≤l.getD i 0∧l.getD i 0<1000000000:=by
 rcases Nat.lt_or_ge i l.length with hi | hi
 ·rw[List.getD_eq_getElem?_getD,List.getElem?_eq_getElem hi];exact h _ (List.getElem_mem _)
 ·rw[List.getD_eq_getElem?_getD,List.getElem?_eq_none hi];simp
theorem qD:∀(l:List Int),(eA l).length≤l.length∧((eA l).length=l.length→eA l=l)
 | []=>by simp[eA]
 | x::l=>by
  have ih:=qD l
  simp only[eA];cases ht:eA l with
  | nil=>
   rw[ht]at ih
   by_cases hx:x=0
   ·simp[hx]
   ·simp only[hx,if_false,List.length_cons,List.length_nil];refine⟨by omega,fun h=>?_⟩;have:l=[]:=List.eq_nil_of_length_eq_zero (by omega)
    rw[this]
  | cons y ys=>
   rw[ht]at ih;simp only[List.length_cons]at ih ⊢;refine⟨by omega,fun h=>?_⟩;rw[ih.2 (by omega)]
theorem aMa {l:List Int}(h:Wd l)(hl:l.length≤(aF (val l).toNat).length):l=aF (val l).toNat:=by
 have h1:=nD h
 have h2:=qD l
 rw[h1]at h2;exact(h2.2 (by omega)).symm
structure Mrg (n m:Nat)(s:Int)(i:Nat)(out:List Int)(cr:Int):Prop where
 wd:Wd out
 len:out.length=i
 v:val out+1000000000^i*cr=val ((aF n).take i)+s*val ((aF m).take i)
 c:(s=1∧0≤cr∧cr≤1)∨(s=-1∧-1≤cr∧cr≤0)
theorem Mrg.init {n m:Nat}{s:Int}(hs:s=1∨s=-1):Mrg n m s 0 [] 0:=⟨Wd.nil,rfl,by simp[val],by omega⟩
theorem Mrg.step {n m:Nat}{s:Int}{i:Nat}{out:List Int}{cr x:Int}(h:Mrg n m s i out cr)(hx:x=cr+(aF n).getD i 0+s*(aF m).getD i 0):Mrg n m s (i+1) (out++[x%1000000000]) (x/1000000000):=by
 have h1:=bB (bK n) i
 have h2:=bB (bK m) i
 refine⟨h.wd.append (Wd.mk (by omega) Wd.nil),by simp[h.len],?_,?_⟩
 ·rw[val_append,bJ,bJ,h.len];have hv:=h.v
  have hd:x%1000000000+1000000000*(x/1000000000)=x:=Int.emod_add_mul_ediv x 1000000000
  simp only[val,Int.pow_succ]
  grind
 ·rcases h.c with⟨e,h3,h4⟩ | ⟨e,h3,h4⟩
  ·subst e;left;omega
  ·subst e;right;omega
theorem Mrg.last {n m:Nat}{s:Int}{i:Nat}{out:List Int}{cr:Int}(h:Mrg n m s i out cr)(hn:(aF n).length≤i)(hm:(aF m).length≤i):val out+1000000000^i*cr=n+s*m:=by
 have:=h.v
 rwa [List.take_of_length_le hn,List.take_of_length_le hm,cN,cN]at this
theorem Mrg.done {n m:Nat}{s:Int}{i:Nat}{out:List Int}{cr:Int}(h:Mrg n m s i out cr)(hi:i=max (aF n).length (aF m).length)(h0:0≤(n:Int)+s*m):
  0≤cr∧(cr=0→val out=n+s*m)∧(0<cr→cr<1000000000∧val (out++[cr])=n+s*m)∧(s=1→(cr=0→out=aF (n+m))∧(0<cr→out++[cr]=aF (n+m))):=by
 have hl:=h.last (by omega) (by omega)
 have hv:=kW h.wd
 rw[h.len]at hv;have hp:(0:Int)<1000000000^i:=Int.pow_pos (by omega)
 have hc:=h.c
 have h1:0≤cr:=by
  rcases Int.lt_or_le cr 0 with hlt | hle
  ·exfalso
   have:cr=-1:=by omega
   subst this;omega
  ·exact hle
 have h2:0<cr→val (out++[cr])=n+s*m:=fun _=>by
  rw[val_append,h.len];simp only[val];rw[←hl];grind
 have h3:cr=0→val out=n+s*m:=fun e=>by rw[e]at hl;simpa using hl
 refine⟨h1,h3,fun hc0=>⟨by omega,h2 hc0⟩,fun hs=>⟨fun e=>?_,fun e=>?_⟩⟩
 ·have hv':=h3 e
  rw[hs,Int.one_mul]at hv';have e2:(val out).toNat=n+m:=by omega
  have:=aMa h.wd (by
   rw[e2,h.len,hi];have h4:=bU (n:=n) (m:=n+m) (by omega)
   have h5:=bU (n:=m) (m:=n+m) (by omega)
   omega)
  rw[e2]at this;exact this
 ·have hv':=h2 e
  rw[hs,Int.one_mul]at hv';have hw:Wd (out++[cr]):=h.wd.append (Wd.mk (by omega) Wd.nil)
  have e2:(val (out++[cr])).toNat=n+m:=by omega
  have:=aMa hw (by
   rw[e2,List.length_append,h.len];apply Classical.byContradiction;intro hlt;have h4:n+m<1000000000^i:=bG (by simp at hlt;omega)
   have h5:((1000000000^i:Nat):Int)=(1000000000:Int)^i:=by simp
   have h6:(1000000000:Int)^i*1≤1000000000^i*cr:=Int.mul_le_mul_of_nonneg_left (by omega) (by omega)
   have h7:=cH h.wd
   rw[hs,Int.one_mul]at hl;omega)
  rw[e2]at this;exact this
theorem tmod_neg {x:Int}(h:x.tmod 1000000000<0):x.tmod 1000000000+1000000000=x%1000000000∧x.tdiv 1000000000 - 1=x/1000000000:=by
 have h1:=Int.tmod_eq_emod (a:=x) (b:=1000000000)
 have h2:=Int.tdiv_eq_ediv (a:=x) (b:=1000000000)
 split at h1
 ·have:=Int.emod_nonneg x (b:=1000000000) (by omega);omega
 ·rename_i hn;rw[if_neg hn,show Int.sign 1000000000=1 from rfl]at h2;have h3:((1000000000:Int).natAbs:Int)=1000000000:=rfl
  omega
theorem aIw {x:Int}(h:¬x.tmod 1000000000<0):x.tmod 1000000000=x%1000000000∧x.tdiv 1000000000=x/1000000000:=by
 have h1:=Int.tmod_eq_emod (a:=x) (b:=1000000000)
 have h2:=Int.tdiv_eq_ediv (a:=x) (b:=1000000000)
 split at h1
 ·rename_i hn;rw[if_pos hn]at h2;omega
 ·have:=Int.emod_lt_of_pos x (b:=1000000000) (by omega)
  simp at h1;omega
theorem tH:∀(k:Nat),val (List.replicate k 0)=0
 | 0=>rfl
 | k+1=>by simp[List.replicate_succ,val,tH k]
theorem lP (k:Nat):Wd (List.replicate k 0):=fun x hx=>by
 have:=List.eq_of_mem_replicate hx;omega
theorem aFz:∀{l:List Int} {i:Nat} (x:Int),i<l.length→val (l.set i x)=val l+1000000000^i*(x - l.getD i 0)
 | y::l,0,x,_=>by simp[val];omega
 | y::l,i+1,x,h=>by
  simp only[List.set_cons_succ,val,aFz x (show i<l.length by simpa using h),List.getD_cons_succ,Int.pow_succ]
  grind
theorem Wd.set {l:List Int}(h:Wd l){i:Nat}{x:Int}(hx:0≤x∧x<1000000000):Wd (l.set i x):=fun y hy=>by
 rcases List.mem_or_eq_of_mem_set hy with h' | h'
 ·exact h y h'
 ·subst h';exact hx
structure Mul (n m i k:Nat)(out:List Int)(cr:Int):Prop where
 wd:Wd out
 len:out.length=(aF n).length+(aF m).length
 v:val out+1000000000^(i+k)*cr=val ((aF n).take i)*m+1000000000^i*((aF n).getD i 0*val ((aF m).take k))
 c:0≤cr∧cr<1000000000
 z:∀j,i+(aF m).length≤j→out.getD j 0=0
theorem jB {l:List Int}{i:Nat}(x:Int)(h:i<l.length):(l.set i x).getD i 0=x:=by
 simp[List.getD_eq_getElem?_getD,h]
theorem dT {l:List Int}{i j:Nat}(x:Int)(h:i≠j):(l.set i x).getD j 0=l.getD j 0:=by
 simp[List.getD_eq_getElem?_getD,List.getElem?_set_ne h]
theorem Mul.init {n m:Nat}:Mul n m 0 0 (List.replicate ((aF n).length+(aF m).length) 0) 0:=by
 refine⟨lP _,by simp,by simp[tH,val],by omega,fun j _=>?_⟩;rw[List.getD_eq_getElem?_getD];cases h:(List.replicate ((aF n).length+(aF m).length) (0:Int))[j]? with
 | none=>rfl
 | some y=>have:=List.eq_of_mem_replicate (List.mem_of_getElem? h);subst this;rfl
theorem Mul.step {n m i k:Nat}{out:List Int}{cr x:Int}(h:Mul n m i k out cr)(hi:i<(aF n).length)(hk:k<(aF m).length)(hx:x=cr+((aF n).getD i 0*(aF m).getD k 0+out.getD (i+k) 0)):
  Mul n m i (k+1) (out.set (i+k) (x%1000000000)) (x/1000000000):=by
 have h1:=bB (bK n) i
 have h2:=bB (bK m) k
 have h3:=bB h.wd (i+k)
 have hp:0≤(aF n).getD i 0*(aF m).getD k 0∧(aF n).getD i 0*(aF m).getD k 0≤999999999*999999999:=
  ⟨Int.mul_nonneg h1.1 h2.1,Int.mul_le_mul (by omega) (by omega) h2.1 (by omega)⟩
 have hc:=h.c
 have hlt:i+k<out.length:=by rw[h.len];omega
 refine⟨h.wd.set (by omega),by simp[h.len],?_,by omega,fun j hj=>?_⟩
 ·rw[aFz _ hlt,bJ];have hv:=h.v
  have hd:x%1000000000+1000000000*(x/1000000000)=x:=Int.emod_add_mul_ediv x 1000000000
  have e1:(1000000000:Int)^(i+(k+1))=1000000000^(i+k)*1000000000:=by rw[←Nat.add_assoc,Int.pow_succ]
  have e2:(1000000000:Int)^(i+k)=1000000000^i*1000000000^k:=Int.pow_add _ _ _
  rw[e1];generalize x/1000000000=q at *;generalize x%1000000000=r at *;rw[e2]at hv ⊢;generalize val (List.take k (aF m))=A at *;generalize val (List.take i (aF n))=C at *;generalize val out=V at *;generalize (aF n).getD i 0=a at *;generalize (aF m).getD k 0=b at *;generalize out.getD (i+k) 0=o at *
  grind
 ·rw[dT _ (by omega)];exact h.z j hj
theorem Mul.row {n m i:Nat}{out:List Int}{cr:Int}(h:Mul n m i (aF m).length out cr)(hi:i<(aF n).length):Mul n m (i+1) 0 (out.set (i+(aF m).length) cr) 0:=by
 have hlt:i+(aF m).length<out.length:=by rw[h.len];omega
 refine⟨h.wd.set h.c,by simp[h.len],?_,by omega,fun j hj=>?_⟩
 ·rw[aFz _ hlt,h.z _ (lRf _),bJ];have hv:=h.v
  rw[List.take_length,cN]at hv;simp only[List.take_zero,val,Int.mul_zero,Int.add_zero,Int.sub_zero];rw[hv]
  grind
 ·rw[dT _ (by omega)];exact h.z j (by omega)
theorem Mul.done {n m:Nat}{out:List Int}(h:Mul n m (aF n).length 0 out 0):(val out).toNat=n*m:=by
 have hv:=h.v
 simp only[List.take_length,cN,List.take_zero,val,Int.mul_zero,Int.add_zero]at hv;rw[hv];omega
structure Dv (n:Nat)(w:Int)(k:Nat)(out:List Int)(rest:Int):Prop where
 wd:Wd out
 len:out.length=(aF n).length
 v:val (out.drop k)*w+rest=val ((aF n).drop k)
 r:0≤rest∧rest<w
theorem Dv.init {n:Nat}{w:Int}(hw:0<w):Dv n w (aF n).length (List.replicate (aF n).length 0) 0:=by
 refine⟨lP _,by simp,?_,by omega⟩;rw[List.drop_of_length_le (by simp),List.drop_of_length_le (lRf _)];simp[val]
theorem Dv.step {n:Nat}{w:Int}{q:Nat}{out:List Int}{rest x:Int}(h:Dv n w (q+1) out rest)(hw:w<1000000000)(hq:q<(aF n).length)(hx:x=rest*1000000000+(aF n).getD q 0):
  Dv n w q (out.set q (x/w)) (x%w)∧0≤x/w∧x/w<1000000000:=by
 have h1:=bB (bK n) q
 have hr:=h.r
 have hw0:0<w:=by omega
 have hb:0≤x/w∧x/w<1000000000:=by
  refine⟨Int.ediv_nonneg (by omega) (by omega),Int.ediv_lt_of_lt_mul hw0 ?_⟩;have:rest+1≤w:=by omega
  have:=Int.mul_le_mul_of_nonneg_right this (show(0:Int)≤1000000000 by omega)
  omega
 have hlt:q<out.length:=by rw[h.len];exact hq
 refine⟨⟨h.wd.set hb,by simp[h.len],?_,Int.emod_nonneg _ (by omega),Int.emod_lt_of_pos _ hw0⟩,hb⟩;have e1:(aF n)[q]?=some ((aF n).getD q 0):=by rw[List.getD_eq_getElem?_getD,List.getElem?_eq_getElem hq];rfl
 rw[nE e1];have e2:(out.set q (x/w))[q]?=some (x/w):=by simp[hlt]
 rw[nE e2,List.drop_set_of_lt (by omega)];have hv:=h.v
 have hd:x%w+w*(x/w)=x:=Int.emod_add_mul_ediv x w
 generalize x/w=y at *;generalize x%w=r' at *;generalize val (List.drop (q+1) out)=Q at *;generalize val (List.drop (q+1) (aF n))=D at *;generalize (aF n).getD q 0=a at *
 grind
theorem Dv.done {n:Nat}{m:Nat}{out:List Int}{rest:Int}(h:Dv n m 0 out rest):(val out).toNat=n/m∧rest.toNat=n%m:=by
 have hv:=h.v
 rw[List.drop_zero,List.drop_zero,cN]at hv;have h0:=cH h.wd
 obtain⟨q,hq⟩:∃q:Nat,val out=q:=⟨(val out).toNat,by omega⟩;obtain⟨r,hr⟩:∃r:Nat,rest=r:=⟨rest.toNat,by have:=h.r;omega⟩;have hrm:r<m:=by have:=h.r;omega
 rw[hq,hr]at hv ⊢;have hn:n=q*m+r:=by
  have:((q*m+r:Nat):Int)=(n:Int):=by rw[←hv];simp
  omega
 have hm:0<m:=by omega
 simp only[Int.toNat_natCast];constructor
 ·rw[hn,Nat.add_comm,Nat.add_mul_div_right _ _ hm,Nat.div_eq_of_lt hrm];omega
 ·rw[hn,Nat.add_comm,Nat.add_mul_mod_self_right,Nat.mod_eq_of_lt hrm]
theorem uF:∀(l:List Int),l.take (eA l).length=eA l
 | []=>rfl
 | x::l=>by
  have ih:=uF l
  simp only[eA];cases ht:eA l with
  | nil=>
   by_cases hx:x=0
   ·simp[hx]
   ·simp[hx]
  | cons y ys=>
   rw[ht]at ih;simp only[List.length_cons,List.take_succ_cons]at ih ⊢;rw[ih]
end Go.Num
namespace Go.Ai
open Go Go.Proofs Go.Num
noncomputable abbrev PP:=Tryz.prog
abbrev aP (n:Nat):VF:=lE .u32 (aF n)
def aOr:Value→Nat→Value
 | .slice a _ cap,n=>.slice a n cap
 | v,_=>v
def trimF (v0:Value)(l:List Int):VF where
 p v X w:=(lE .u32 (eA l)).p v X w∧v=aOr v0 (eA l).length
 st v X X' w w' h1 h2 h:=⟨(lE .u32 (eA l)).st v X X' w w' h1 h2 h.1,h.2⟩
theorem aIx {v:Value}{X:Nat→Prop}{w:World}{l:List Int}(hb:l.length≤2^40)(hX:∀b,X b→b<w.heap.size)(hv:(lE .u32 l).p v X w):Fn PP 264 [v] X w (trimF v l):=by
 obtain⟨R,hRR⟩:=nm (trimF v l);obtain⟨K,hK⟩:=nm ([KF.cst v (lE .u32 l)]);rw[←hRR];refine bE mixed tok [.q v] (K:=K) Tryz.func264 rfl rfl (lbl rfl) rfl hX (by subst hK;simp;exact hv) fun c hc hR=>?_
 refine aSu 0 .u32 l rfl rfl (fun X μ a w H=>H.toP.cst (by simp[hK])) fun f N cap ad hN hf dI hv0=>?_
 obtain⟨K1,hK1⟩:=nm (KF.ext 0 ad::K);show Goal c (KF.ext 0 ad::K) _
 rw[←hK1];have kfo:lC 1 K1 K1:=by subst hK1;subst hK;exact⟨⟨.head _,KFr.ext (by omega) _⟩,⟨.tail _ (.head _),KFr.cst _ _ _⟩,trivial⟩
 refine zN hc ?_;cbv;let ι:={m:Nat//m≤N∧eA (l.take m)=eA l}
 let I:ι→St:=fun x=>⟨[(0,.sl 0 0 (.n x.1) cap)],[.xi .u32 N f],[]⟩
 let x0:ι:=⟨N,lRf _,by rw[hN,List.take_length]⟩
 refine zU 1 (S':=I x0) (K':=K1) ⟨zS rfl rfl,trivial⟩ kfo trivial ?_;refine bP hc I (fun x=>x.1) x0 100 ?_;rintro p ⟨m,hm,ht⟩ hy;have done:l.take m=eA l→∀X μ a w v S,Sim c K1 S X μ a w→S.hp[0]?=some (.xi .u32 N f)→aC μ (.sl 0 0 (.n m) cap)=some v→R.p v X w:=by
  intro h2 X μ a w v S H hk hv;rw[hRR];refine⟨?_,?_⟩
  rotate_left
  ·have h3:μ 0=some (.ext ad):=H.toP.kf (KF.ext 0 ad) (by rw[hK1];exact .head _)
   obtain⟨a',q1,q2,_⟩:=nO hv;simp only[atS,h3,Option.bind_some,MV.atS,Option.some.injEq]at q1;subst q1;rw[q2,hv0,←h2];have hm':(IE.n m).den.toNat=(l.take m).length:=by simp[IE.den];omega
   rw[hm'];simp[aOr]
  rw[←h2];exact H.toP.row hk hv (by simp[IE.den];omega) (fun i x hx=>by
   rw[List.getElem?_take]at hx;split at hx
   ·simpa using hf i x hx
   ·cases hx) (by simp;omega) (by simp;omega)
 cbv;refine bT hc 6 rfl rfl 100 (fun h=>?_) (fun h=>?_)
 ·have h:0<m:=by simpa[BE.den,IE.den]using h
  obtain⟨q,rfl⟩:∃q,m=q+1:=⟨m - 1,by omega⟩;have hq:l[q]?=some l[q]:=by simp
  have hfq:=hf q _ hq
  have htk:l.take (q+1)=l.take q++[l[q]]:=by rw[List.take_add_one,hq];rfl
  cbv;refine aQ hc ⟨?_,?_,?_,trivial⟩ ?_
  ·show _∧_;simp only[lo,hi,IE.den];omega
  ·show _∧_;simp only[IE.den];omega
  ·show _≤_;simp only[IE.den,aX];omega
  refine aE hc rfl 100 (fun h3=>?_) (fun h3=>?_)
  ·have h3:l[q]=0:=by
    have:=of_decide_eq_true h3
    simp only[IE.den,aX]at this;rw[←hfq,←this];congr 1;omega
   cbv;refine aQ hc ⟨?_,?_,trivial⟩ ?_
   ·show _∧_;simp only[lo,hi,IE.den];omega
   ·show _∧_;simp only[IE.den];omega
   refine zU 1 (S':=I ⟨q,by omega,by rw[←ht,htk,h3,uG]⟩) (K':=K1) ⟨⟨_,rfl,rfl,fun μ=>?_⟩,trivial⟩ kfo trivial (hy _ (Nat.lt_succ_self q));have e:((IE.n (q+1)).sub (IE.l 1)).den=(IE.n q).den:=by simp only[IE.den];omega
   simp only[aC,e]
  ·have h3:l[q]≠0:=by
    intro e;have h4:=of_decide_eq_false h3
    refine h4 ?_;simp only[IE.den,aX];rw[←e,←hfq];congr 1;omega
   cbv;refine aS hc hR rfl (fun X μ a w v H hv=>done ?_ X μ a w v _ H rfl hv);rw[←ht,htk,aCc h3]
 ·have h:m=0:=by
   have:=of_decide_eq_false h
   simp only[IE.den]at this;omega
  cbv;refine aS hc hR rfl (fun X μ a w v H hv=>done ?_ X μ a w v _ H rfl hv);rw[←ht,h];rfl
theorem aTd {v:Value}{X:Nat→Prop}{w:World}{l:List Int}(hb:l.length≤2^40)(hX:∀b,X b→b<w.heap.size)(hv:(lE .u32 l).p v X w):Fn PP 264 [v] X w (lE .u32 (eA l)):=
 (aIx hb hX hv).mono fun _ _ _ h=>h.1
theorem aTe {v:Value}{X:Nat→Prop}{w:World}{l:List Int}(hb:l.length≤2^40)(hX:∀b,X b→b<w.heap.size)(hv:(lE .u32 l).p v X w):Fn PP 264 [v] X w (dJ (aOr v (eA l).length)):=
 (aIx hb hX hv).mono fun _ _ _ h=>h.2
theorem kU {v:Value}{X:Nat→Prop}{w:World}{l:List Int}(hl:Wd l)(hb:l.length≤2^40)(hX:∀b,X b→b<w.heap.size)(hv:(lE .u32 l).p v X w):Fn PP 264 [v] X w (aP (val l).toNat):=by
 have:=aTd hb hX hv
 rwa [nD hl]at this
theorem qX:aB PP 264:=zK
theorem aMm (x:Int):Pure PP 302 [.int .u32 x] (.bool false):=by
 refine aQ0 mixed tok Tryz.func302 rfl (lbl rfl) rfl fun c hc hR=>?_
 refine zN hc ?_;cbv;exact aD hc hR rfl (by simp[aC,BE.den])
theorem aMl (x:Int):Pure PP 301 [.int .i64 x] (.bool false):=by
 refine aQ0 mixed tok Tryz.func301 rfl (lbl rfl) rfl fun c hc hR=>?_
 refine zN hc ?_;cbv;exact aD hc hR rfl (by simp[aC,BE.den])
theorem aC5:aB PP 302:=zK
theorem aC4:aB PP 301:=zK
theorem aNd:aB PP 284:=zK
theorem aNc:aB PP 283:=zK
theorem aUi (x y:Int):Pure PP 284 [.int .u32 x,.int .u32 y] (.int .i64 (bS x y)):=by
 obtain⟨r,hr⟩:=nm (bS x y);rw[←hr];refine aG mixed tok [.i .u32 (.v x),.i .u32 (.v y)] Tryz.func284 rfl rfl (lbl rfl) rfl fun c hc hR=>?_
 refine zN hc ?_;cbv;refine aFq hc (aMm x) aC5 rfl 100 ?_;cbv;refine aFq hc (aMm y) aC5 rfl 100 ?_;cbv;refine aE hc rfl 100 (fun h=>?_) (fun h=>?_)<;>cbv
 ·have h:x<y:=of_decide_eq_true h
  exact aD hc hR rfl (by rw[hr];simp[aC,bS,h,IE.den])
 ·have h:¬x<y:=of_decide_eq_false h
  refine aE hc rfl 100 (fun h'=>?_) (fun h'=>?_)<;>cbv
  ·have h':y<x:=of_decide_eq_true h'
   exact aD hc hR rfl (by rw[hr];simp[aC,bS,h,h',IE.den])
  ·have h':¬y<x:=of_decide_eq_false h'
   exact aD hc hR rfl (by rw[hr];simp[aC,bS,h,h',IE.den])
theorem aUg (x y:Int):Pure PP 283 [.int .i64 x,.int .i64 y] (.int .i64 (bS x y)):=by
 obtain⟨r,hr⟩:=nm (bS x y);rw[←hr];refine aG mixed tok [.i .i64 (.v x),.i .i64 (.v y)] Tryz.func283 rfl rfl (lbl rfl) rfl fun c hc hR=>?_
 refine zN hc ?_;cbv;refine aFq hc (aMl x) aC4 rfl 100 ?_;cbv;refine aFq hc (aMl y) aC4 rfl 100 ?_;cbv;refine aE hc rfl 100 (fun h=>?_) (fun h=>?_)<;>cbv
 ·have h:x<y:=of_decide_eq_true h
  exact aD hc hR rfl (by rw[hr];simp[aC,bS,h,IE.den])
 ·have h:¬x<y:=of_decide_eq_false h
  refine aE hc rfl 100 (fun h'=>?_) (fun h'=>?_)<;>cbv
  ·have h':y<x:=of_decide_eq_true h'
   exact aD hc hR rfl (by rw[hr];simp[aC,bS,h,h',IE.den])
  ·have h':¬y<x:=of_decide_eq_false h'
   exact aD hc hR rfl (by rw[hr];simp[aC,bS,h,h',IE.den])
theorem vU {X:Nat→Prop}{w:World}{x:Int}(hX:∀b,X b→b<w.heap.size)(h0:0≤x)(h1:x<1000000000000000000):Fn PP 262 [.int .u64 x] X w (aP x.toNat):=by
 obtain⟨R,hRR⟩:=nm (aP x.toNat);rw[←hRR];refine bE mixed tok [.i .u64 (.v x)] (K:=[]) Tryz.func262 rfl rfl (lbl rfl) rfl hX (fun f hf=>by cases hf) fun c hc hR=>?_
 refine zN hc ?_;cbv;refine aQ hc ⟨?_,?_,?_,?_,?_,trivial⟩ ?_
 ·show _≠_;simp[IE.den]
 ·show _∧_;simp only[lo,hi,IE.den,Int.tmod_eq_emod_of_nonneg h0];omega
 ·show _≠_;simp[IE.den]
 ·show _∧_;simp only[lo,hi,IE.den,Int.tdiv_eq_ediv_of_nonneg h0];omega
 ·show _∧_;simp only[lo,hi,IE.den,Int.tdiv_eq_ediv_of_nonneg h0];omega
 refine xS 0 .u32 rfl rfl rfl fun f hf=>?_
 have f0:=hf 0 _ rfl
 have f1:=hf 1 _ rfl
 have e1:x.tmod 1000000000=x%1000000000:=Int.tmod_eq_emod_of_nonneg h0
 have e2:x.tdiv 1000000000=x/1000000000:=Int.tdiv_eq_ediv_of_nonneg h0
 simp only[IE.den,e1,e2]at f0 f1;have hl:Wd [x%1000000000,x/1000000000]:=Wd.mk (by omega) (Wd.mk (by omega) Wd.nil)
 have hv:val [x%1000000000,x/1000000000]=x:=by simp only[val];omega
 cbv;refine eE (R:=R) hc qX (fun n0 D X μ a w aL H aJ=>?_) 100 ?_
 ·obtain⟨v,rfl,hv'⟩:=aV aJ;have h3:=H.row (l:=[x%1000000000,x/1000000000]) rfl hv' rfl (fun i y hy=>by
   match i,hy with
   | 0,hy=>simp at hy;subst hy;exact f0
   | 1,hy=>simp at hy;subst hy;exact f1) (lRf _) (lRf _)
  have:=kU hl (by simp) H.xlt h3
  rw[hv]at this;rw[hRR];exact this
 cbv;exact aS hc hR rfl (fun X μ a w v H hv=>H.toP.val (k:=1) (.head _) hv)
theorem aP1:aB PP 262:=zK
theorem aNs {n:Nat}(h:0<(aF n).length):(aF n)[0]?=some ((n%1000000000:Nat):Int):=by
 have:n≠0:=fun e=>by subst e;simp[bO]at h
 rw[bY this];rfl
theorem aQq {n:Nat}(h:(aF n).length=2):aF n=[((n%1000000000:Nat):Int),((n/1000000000:Nat):Int)]:=by
 have h0:n≠0:=fun e=>by subst e;simp[bO]at h
 rw[bY h0,List.length_cons]at h;have h1:n/1000000000≠0:=fun e=>by rw[e]at h;simp[bO]at h
 rw[bY h1,List.length_cons]at h;have h2:n/1000000000/1000000000=0:=by
  apply Classical.byContradiction;intro h3;rw[bY h3]at h;simp at h
 rw[bY h0,bY h1,h2,bO]
 congr 2;omega
def aB2 (n:Nat):Value:=.tuple #[.int .u64 (if n<1000000000000000000 then(n:Int)else 0),.bool (decide (n<1000000000000000000))]
theorem uQ:aB PP 261:=zK
theorem nA {v:Value}{X:Nat→Prop}{w:World}{n:Nat}(hX:∀b,X b→b<w.heap.size)(hv:(aP n).p v X w):Fn PP 261 [v] X w (dJ (aB2 n)):=by
 obtain⟨R,hRR⟩:=nm (dJ (aB2 n));obtain⟨K,hK⟩:=nm ([KF.cst v (aP n)]);rw[←hRR];refine bE mixed tok [.q v] (K:=K) Tryz.func261 rfl rfl (lbl rfl) rfl hX (by subst hK;simp;exact hv) fun c hc hR=>?_
 refine dQ 0 .u32 (aF n) rfl rfl (fun X μ a w v' H hv'=>cE H (by simp[hK]) hv') fun f N cap hN hf dI=>?_
 refine zN hc ?_;cbv;refine aE hc rfl 100 (fun h=>?_) (fun h=>?_)
 ·have h:N=0:=by have:=of_decide_eq_true h;simp only[IE.den]at this;omega
  have hn:n=0:=by
   apply Classical.byContradiction;intro e;rw[bY e]at hN;simp at hN;omega
  cbv;refine aS hc hR rfl (fun X μ a w v H hv=>?_);simp only[aC,aH,Option.some.injEq]at hv;rw[hRR,←hv,hn];rfl
 ·have h:N≠0:=by have:=of_decide_eq_false h;simp only[IE.den]at this;omega
  cbv;refine aE hc rfl 100 (fun h1=>?_) (fun h1=>?_)
  ·have h1:N=1:=by have:=of_decide_eq_true h1;simp only[IE.den]at this;omega
   have f0:f 0=(n:Int)%1000000000:=(hf 0 _ (aNs (by omega))).trans (by simp)
   have hlt:n<1000000000:=by have:=bG (n:=n) (k:=1) (by omega);simpa using this
   have hz:(n:Int)<1000000000:=Int.ofNat_lt.2 hlt
   have hz0:(0:Int)≤(n:Int):=Int.natCast_nonneg n
   cbv;refine aQ hc ⟨?_,?_,?_,trivial⟩ ?_
   ·show _∧_;simp only[IE.den];omega
   ·show _≤_;simp only[IE.den,aX];omega
   ·show _∧_;simp only[lo,hi,IE.den,aX];simp only[Nat.zero_add,Int.toNat_zero,Nat.zero_mul];rw[f0];omega
   refine aS hc hR rfl (fun X μ a w v H hv=>?_);simp only[aC,aH,Option.some.injEq]at hv;rw[hRR,←hv];show _=_
   simp only[IE.den,aX,Nat.zero_add,Int.toNat_zero,Nat.zero_mul,BE.den,aB2];rw[f0,if_pos (by omega)]
   congr 3
   ·congr 1;exact Int.emod_eq_of_lt hz0 hz
   ·simp;omega
  ·have h1:N≠1:=by have:=of_decide_eq_false h1;simp only[IE.den]at this;omega
   cbv;refine aE hc rfl 100 (fun h2=>?_) (fun h2=>?_)
   ·have h2:N=2:=by have:=of_decide_eq_true h2;simp only[IE.den]at this;omega
    have hd:=aQq (n:=n) (by omega)
    have f0:f 0=(n:Int)%1000000000:=(hf 0 _ (by rw[hd];rfl)).trans (by simp)
    have f1:f 1=(n:Int)/1000000000:=(hf 1 _ (by rw[hd];rfl)).trans (by simp)
    have hlt:n<1000000000000000000:=by have:=bG (n:=n) (k:=2) (by omega);simpa using this
    have hz:(n:Int)<1000000000000000000:=Int.ofNat_lt.2 hlt
    have hz0:(0:Int)≤(n:Int):=Int.natCast_nonneg n
    cbv;refine aQ hc ⟨?_,?_,?_,?_,?_,?_,?_,?_,trivial⟩ ?_
    ·show _∧_;simp only[IE.den];omega
    ·show _≤_;simp only[IE.den,aX];omega
    ·show _∧_;simp only[lo,hi,IE.den,aX];simp only[Nat.zero_add,Int.toNat_zero,Nat.zero_mul];rw[f0];omega
    ·show _∧_;simp only[IE.den];omega
    ·show _≤_;simp only[IE.den,aX];omega
    ·show _∧_;simp only[lo,hi,IE.den,aX];simp only[Nat.add_zero,Int.toNat_zero,Nat.zero_mul];rw[f1];omega
    ·show _∧_;simp only[lo,hi,IE.den,aX];simp only[Nat.add_zero,Int.toNat_zero,Nat.zero_mul];rw[f1];omega
    ·show _∧_;simp only[lo,hi,IE.den,aX];simp only[Nat.add_zero,Int.toNat_zero,Nat.zero_mul];rw[f0,f1];omega
    refine zE hc ?_;cbv;refine aS hc hR rfl (fun X μ a w v H hv=>?_);simp only[aC,aH,Option.some.injEq]at hv;rw[hRR,←hv];show _=_
    simp only[IE.den,aX,Nat.add_zero,Int.toNat_zero,Nat.zero_mul,BE.den,aB2];rw[f0,f1,if_pos hlt]
    congr 3
    ·congr 1;exact Int.emod_add_mul_ediv n 1000000000
    ·simp[hlt]
   ·have h2:N≠2:=by have:=of_decide_eq_false h2;simp only[IE.den]at this;omega
    have hge:¬n<1000000000000000000:=fun hlt=>by
     have:=bR (n:=n) (k:=2) (by simpa using hlt)
     omega
    cbv;refine aS hc hR rfl (fun X μ a w v H hv=>?_);simp only[aC,aH,Option.some.injEq]at hv;rw[hRR,←hv];show _=_
    simp only[aB2,if_neg hge,hge,decide_false,IE.den,BE.den];rfl
theorem wT:aB PP 266:=zK
theorem pF {v u:Value}{X:Nat→Prop}{w:World}{n m:Nat}(hbn:(aF n).length≤2^40)(hbm:(aF m).length≤2^40)(hX:∀b,X b→b<w.heap.size)(hv:(aP n).p v X w)(hu:(aP m).p u X w):
  Fn PP 266 [v,u] X w (dJ (.int .i64 (bS n m))):=by
 obtain⟨R,hRR⟩:=nm (dJ (.int .i64 (bS n m)));obtain⟨K,hK⟩:=nm ([KF.cst v (aP n),KF.cst u (aP m)]);rw[←hRR];have lJ:∀{av:AV} {z:Int} {X μ v w},aC μ av=some v→(aC μ av=some (.int .i64 z))→z=bS n m→R.p v X w:=by
  intro av z X μ v w h1 h2 h3;rw[h2]at h1;injection h1 with h1
  rw[hRR,←h1,h3];rfl
 refine bE mixed tok [.q v,.q u] (K:=K) Tryz.func266 rfl rfl (lbl rfl) rfl hX (by subst hK;simp;exact⟨hv,hu⟩) fun c hc hR=>?_
 refine dQ 0 .u32 (aF n) rfl rfl (fun X μ a w v' H hv'=>cE H (by simp[hK]) hv') fun f N cap hN hf dI=>?_
 refine dQ 1 .u32 (aF m) rfl rfl (fun X μ a w v' H hv'=>cE H (by simp[hK]) hv') fun f' M aZ hM hf' gW=>?_
 refine zN hc ?_;cbv;refine aE hc rfl 100 (fun h=>?_) (fun h=>?_)
 ·have h:(N:Int)≠(M:Int):=BE.eq_f (BE.not_t h)
  have h:(aF n).length≠(aF m).length:=by omega
  cbv;obtain⟨z,hz⟩:=nm (bS N M);have hp:=aUg N M
  rw[←hz]at hp;refine zC hc (.i .i64 (.v z)) hp aNc ?_;cbv;refine aS hc hR rfl (fun X μ a w v H hv=>lJ hv rfl ?_);rw[hz,hN,hM];exact aGs h
 ·have h:(N:Int)=(M:Int):=BE.eq_t (BE.not_f h)
  have h:M=N:=by omega
  subst h;cbv;refine aQ hc ⟨?_,trivial⟩ ?_
  ·show _∧_;simp only[lo,hi,IE.den];omega
  let ι:={k:Nat//k≤M∧(aF n).drop k=(aF m).drop k}
  let I:ι→St:=fun x=>⟨[(0,.sl 0 0 (.n M) cap),(1,.sl 1 0 (.n M) aZ),(5,.i .i64 (.sub (.n x.1) (.l 1)))],[.xi .u32 M f,.xi .u32 M f'],[]⟩
  let x0:ι:=⟨M,lRf _,by rw[List.drop_of_length_le (by omega),List.drop_of_length_le (by omega)]⟩
  refine zU 2 (S':=I x0) (K':=K) ⟨zS rfl rfl,zS rfl rfl,zS rfl rfl,trivial⟩ (by subst hK;exact⟨⟨.head _,KFr.cst _ _ _⟩,⟨.tail _ (.head _),KFr.cst _ _ _⟩,trivial⟩) trivial ?_;refine bP hc I (fun x=>x.1) x0 100 ?_;rintro p ⟨k,hk,hd⟩ hy;cbv;refine aE hc rfl 100 (fun h=>?_) (fun h=>?_)
  ·have h:(0:Int)≤(k:Int) - 1:=BE.le_t h
   obtain⟨q,rfl⟩:∃q,k=q+1:=⟨k - 1,by omega⟩;have hq:q<(aF n).length:=by omega
   have hq':q<(aF m).length:=by omega
   have gq:=hf q (aF n)[q] (by simp)
   have gq':=hf' q (aF m)[q] (by simp)
   have hwn:=bK n (aF n)[q] (List.getElem_mem _)
   have hwm:=bK m (aF m)[q] (List.getElem_mem _)
   have hix:aX 0 ((IE.n (q+1)).sub (IE.l 1)).den 1 0=q:=by simp only[aX,IE.den];omega
   cbv;have o1:(Obl.ltE ((IE.n (q+1)).sub (IE.l 1)) (IE.n M)).ok:=by show _∧_;simp only[IE.den];omega
   have o2:(Obl.ix 0 ((IE.n (q+1)).sub (IE.l 1)) 1 0 1 M).ok:=by show _≤_;rw[hix];omega
   refine aQ hc ⟨o1,o2,o1,o2,trivial⟩ ?_;refine zE hc ?_;cbv;refine aE hc rfl 100 (fun h=>?_) (fun h=>?_)
   ·have h:f (aX 0 ((IE.n (q+1)).sub (IE.l 1)).den 1 0)≠f' (aX 0 ((IE.n (q+1)).sub (IE.l 1)).den 1 0):=BE.eq_f (BE.not_t h)
    rw[hix,gq,gq']at h;cbv;refine aQ hc ⟨o1,o2,o1,o2,trivial⟩ ?_;obtain⟨z,hz⟩:=nm (bS (f q) (f' q));have hp:=aUi (f q) (f' q)
    rw[←hz]at hp;have e1:aH iJ [.i .u32 (.fn f 0 ((IE.n (q+1)).sub (IE.l 1)) 1 0),.i .u32 (.fn f' 0 ((IE.n (q+1)).sub (IE.l 1)) 1 0)]=some [.int .u32 (f q),.int .u32 (f' q)]:=by
     show some [Value.int .u32 (f (aX 0 ((IE.n (q+1)).sub (IE.l 1)).den 1 0)),Value.int .u32 (f' (aX 0 ((IE.n (q+1)).sub (IE.l 1)).den 1 0))]=_
     rw[hix]
    refine dX hc (.i .i64 (.v z)) hp aNd e1 rfl 100 ?_;cbv;refine zE hc ?_;cbv;refine aS hc hR rfl (fun X μ a w v H hv=>lJ hv rfl ?_);rw[hz,gq,gq',aGt (bK n) (bK m) (List.getElem?_eq_getElem hq) (List.getElem?_eq_getElem hq') hd h,cN,cN];rfl
   ·have h:f (aX 0 ((IE.n (q+1)).sub (IE.l 1)).den 1 0)=f' (aX 0 ((IE.n (q+1)).sub (IE.l 1)).den 1 0):=BE.eq_t (BE.not_f h)
    rw[hix,gq,gq']at h;cbv;refine aQ hc ⟨?_,trivial⟩ ?_
    ·show _∧_;simp only[lo,hi,IE.den];omega
    refine zU 2 (S':=I ⟨q,by omega,by rw[List.drop_eq_getElem_cons hq,List.drop_eq_getElem_cons hq',hd,h]⟩) (K':=K) ⟨zS rfl rfl,zS rfl rfl,⟨_,rfl,rfl,fun μ=>?_⟩,trivial⟩ (by subst hK;exact⟨⟨.head _,KFr.cst _ _ _⟩,⟨.tail _ (.head _),KFr.cst _ _ _⟩,trivial⟩) trivial (hy _ (Nat.lt_succ_self q));have e:(((IE.n (q+1)).sub (IE.l 1)).sub (IE.l 1)).den=((IE.n q).sub (IE.l 1)).den:=by simp only[IE.den];omega
    simp only[aC,e]
  ·have h:¬(0:Int)≤(k:Int) - 1:=BE.le_f h
   have h0:k=0:=by omega
   subst h0;cbv;refine aS hc hR rfl (fun X μ a w v H hv=>lJ hv rfl ?_);have:n=m:=aG2 (by simpa using hd)
   subst this;simp[bS,IE.den]
theorem dL:(PP.info? 138).map (·.bytes)=some 4:=by kernel_rfl
theorem aLn:aB PP 282:=zK
def aFh (n m:Nat)(s:Int):VF where
 p v X w:=∃l,Wd l∧val l=n+s*m∧l.length≤max (aF n).length (aF m).length+1∧(s=1→l=aF (n+m))∧(lE .u32 l).p v X w
 st v X X' w w' h1 h2 h:=by
  obtain⟨l,q1,q2,q3,q4,q5⟩:=h;exact⟨l,q1,q2,q3,q4,(lE .u32 l).st v X X' w w' h1 h2 q5⟩
theorem aBk {v u:Value}{X:Nat→Prop}{w:World}{n m:Nat}{s:Int}(hs:s=1∨s=-1)(h0:0≤(n:Int)+s*m)(hbn:(aF n).length≤2^40)(hbm:(aF m).length≤2^40)(hX:∀b,X b→b<w.heap.size)(hv:(aP n).p v X w)(hu:(aP m).p u X w):
  Fn PP 282 [v,u,.int .i64 s] X w (aFh n m s):=by
 obtain⟨R,hRR⟩:=nm (aFh n m s);obtain⟨K,hK⟩:=nm ([KF.cst v (aP n),KF.cst u (aP m)]);rw[←hRR];refine bE mixed tok [.q v,.q u,.i .i64 (.v s)] (K:=K) Tryz.func282 rfl rfl (lbl rfl) rfl hX (by subst hK;simp;exact⟨hv,hu⟩) fun c hc hR=>?_
 refine dQ 0 .u32 (aF n) rfl rfl (fun X μ a w v' H hv'=>cE H (by simp[hK]) hv') fun f N cap hN hf dI=>?_
 refine dQ 1 .u32 (aF m) rfl rfl (fun X μ a w v' H hv'=>cE H (by simp[hK]) hv') fun f' M aZ hM hf' gW=>?_
 have hfw:∀i,i<N→f i=(aF n).getD i 0:=fun i hi=>by
  have:=List.getElem?_eq_getElem (l:=aF n) (i:=i) (by omega)
  rw[hf i _ this,List.getD_eq_getElem?_getD,this];rfl
 have aJv:∀i,i<M→f' i=(aF m).getD i 0:=fun i hi=>by
  have:=List.getElem?_eq_getElem (l:=aF m) (i:=i) (by omega)
  rw[hf' i _ this,List.getD_eq_getElem?_getD,this];rfl
 have hge:∀i,N≤i→(aF n).getD i 0=0:=fun i hi=>by rw[List.getD_eq_getElem?_getD,List.getElem?_eq_none (by omega)];rfl
 have bEc:∀i,M≤i→(aF m).getD i 0=0:=fun i hi=>by rw[List.getD_eq_getElem?_getD,List.getElem?_eq_none (by omega)];rfl
 refine zN hc ?_;cbv;refine aQ hc ⟨?_,trivial⟩ ?_
 ·show _∧_;simp only[lo,hi,IE.den];omega
 obtain⟨G,hG⟩:∃G:Option Addr→Nat→Nat→List Int→OF,∀a n cap l,G a n cap l=OF.row (.slice a n cap) c.B.heap.size 138 .u32 l:=⟨fun a n cap l=>OF.row (.slice a n cap) c.B.heap.size 138 .u32 l,fun _ _ _ _=>rfl⟩;refine aVs hc _ rfl rfl rfl (kd:=.u32) hG rfl rfl rfl rfl rfl rfl dL ?_ ?_ ?_ (fun a0 cap0=>?_)
 ·simp only[IE.den];omega
 ·simp only[IE.den];omega
 ·simp only[IE.den];omega
 refine zN hc ?_;cbv;obtain⟨L,hL⟩:=nm (max N M);have hL':L=max (aF n).length (aF m).length:=by rw[hL,hN,hM]
 have hLb:L≤2^40:=by omega
 let ι:={x:Nat × Option Addr × Nat × List Int × Int//Mrg n m s x.1 x.2.2.2.1 x.2.2.2.2∧x.1≤L}
 let I:ι→St:=fun x=>⟨[(0,.sl 0 0 (.n N) cap),(1,.sl 1 0 (.n M) aZ),(2,.i .i64 (.v s)),(7,.xs x.1.2.1 x.1.1 x.1.2.2.1),(8,.i .i64 (.v x.1.2.2.2.2)),(19,.i .i64 (.n L)),(20,.i .i64 (.n x.1.1))],[.xi .u32 N f,.xi .u32 M f'],[G x.1.2.1 x.1.1 x.1.2.2.1 x.1.2.2.2.1]⟩
 let x0:ι:=⟨(0,a0,cap0,[],0),Mrg.init hs,Nat.zero_le _⟩
 refine zU 2 (S':=I x0) (K':=K) ⟨zS rfl rfl,zS rfl rfl,zS rfl rfl,zS rfl rfl,zS rfl rfl,⟨_,rfl,rfl,fun μ=>?_⟩,zS rfl rfl,trivial⟩ (by subst hK;exact⟨⟨.head _,KFr.cst _ _ _⟩,⟨.tail _ (.head _),KFr.cst _ _ _⟩,trivial⟩) ⟨by rw[hG];exact OFr.row _ _ _ _ _ _,trivial⟩ ?_
 ·have e:((IE.n N).max (IE.n M)).den=(IE.n L).den:=by simp only[IE.den,hL];omega
  show some (Value.int .i64 ((IE.n N).max (IE.n M)).den)=some (Value.int .i64 (IE.n L).den)
  rw[e]
 refine bP hc I (fun x=>L - x.1.1) x0 100 ?_;rintro p ⟨⟨i,a,cp,out,cr⟩,hM',hi⟩ hy;have hcr:=hM'.c
 have hlen:=hM'.len
 simp only at hM' hi hcr hlen;cbv;refine aE hc rfl 100 (fun h=>?_) (fun h=>?_)
 ·have h:(i:Int)<(L:Int):=BE.lt_t h
  have hiL:i<L:=by omega
  have hga:=bB (bK n) i
  have hgb:=bB (bK m) i
  obtain⟨ga,jY⟩:=nm ((aF n).getD i 0);obtain⟨gb,sU⟩:=nm ((aF m).getD i 0);rw[←jY]at hga;rw[←sU]at hgb;obtain⟨x1,hx1⟩:=nm (cr+ga);obtain⟨x2,hx2⟩:=nm (x1+s*gb);have hix:aX 0 (IE.n i).den 1 0=i:=by simp only[aX,IE.den];omega
  have aCn:x2=cr+(aF n).getD i 0+s*(aF m).getD i 0:=by rw[hx2,hx1,jY,sU]
  have b1:-1≤x1∧x1≤1000000000:=by omega
  have b2:-1000000000≤x2∧x2≤2000000000:=by rcases hs with e | e<;>subst e<;>omega
  have b3:-1000000000≤s*gb∧s*gb≤1000000000:=by rcases hs with e | e<;>subst e<;>omega
  let T:List (Nat × AV)→Int→St:=fun l z=>⟨l++[(0,.sl 0 0 (.n N) cap),(1,.sl 1 0 (.n M) aZ),(2,.i .i64 (.v s)),(7,.xs a i cp),(9,.i .i64 (.n i)),(8,.i .i64 (.v z)),(19,.i .i64 (.n L)),(20,.i .i64 (.n i))],[.xi .u32 N f,.xi .u32 M f'],[G a i cp out]⟩
  obtain⟨w0,hw0⟩:=nm (x2%1000000000);obtain⟨c0,hc0⟩:=nm (x2/1000000000);have kf:lC 2 K K:=by subst hK;exact⟨⟨.head _,KFr.cst _ _ _⟩,⟨.tail _ (.head _),KFr.cst _ _ _⟩,trivial⟩
  have kof:∀a i cp out,aEj 2 [G a i cp out]:=fun a i cp out=>⟨by rw[hG];exact OFr.row _ _ _ _ _ _,trivial⟩
  have bGb:cr+ga=x1:=hx1.symm
  have cW:=hM'.step aCn
  rw[←hw0,←hc0]at cW;have bGa:0≤w0∧w0<1000000000:=by omega
  have bF2:-1≤c0∧c0≤2:=by omega
  have o1:i<N→(Obl.ltE (IE.n i) (IE.n N)).ok:=fun h=>by show _∧_;simp only[IE.den];omega
  have o2:i<N→(Obl.ix 0 (IE.n i) 1 0 1 N).ok:=fun h=>by show _≤_;rw[hix];omega
  have o1':i<M→(Obl.ltE (IE.n i) (IE.n M)).ok:=fun h=>by show _∧_;simp only[IE.den];omega
  have o2':i<M→(Obl.ix 0 (IE.n i) 1 0 1 M).ok:=fun h=>by show _≤_;rw[hix];omega
  have g1:i<N→(IE.fn f 0 (IE.n i) 1 0).den=ga:=fun h=>by show f (aX 0 (IE.n i).den 1 0)=ga;rw[hix,hfw i h,jY]
  have g2:i<M→(IE.fn f' 0 (IE.n i) 1 0).den=gb:=fun h=>by show f' (aX 0 (IE.n i).den 1 0)=gb;rw[hix,aJv i h,sU]
  have dA:∀(e:IE) (z:Int),e.den=z→-9223372036854775808≤z∧z≤9223372036854775807→(Obl.inR .i64 e).ok:=fun e z he hz=>by show _∧_;rw[he];exact hz
  have s1:i<N→(IE.add (IE.v cr) (IE.fn f 0 (IE.n i) 1 0)).den=x1:=fun h=>by show cr+(IE.fn f 0 (IE.n i) 1 0).den=x1;rw[g1 h,hx1]
  have m1:i<M→(IE.mul (IE.v s) (IE.fn f' 0 (IE.n i) 1 0)).den=s*gb:=fun h=>by show s*(IE.fn f' 0 (IE.n i) 1 0).den=_;rw[g2 h]
  have s2:i<M→(IE.add (IE.v x1) (IE.mul (IE.v s) (IE.fn f' 0 (IE.n i) 1 0))).den=x2:=fun h=>by show x1+(IE.mul (IE.v s) (IE.fn f' 0 (IE.n i) 1 0)).den=x2;rw[m1 h,hx2]
  have z1:¬i<N→cr=x1:=fun h=>by rw[hx1,jY,hge i (by omega)];omega
  have z2:¬i<M→x1=x2:=fun h=>by rw[hx2,sU,bEc i (by omega)];omega
  have q1:-9223372036854775808≤ga∧ga≤9223372036854775807:=by omega
  have q2:-9223372036854775808≤gb∧gb≤9223372036854775807:=by omega
  have q3:-9223372036854775808≤x1∧x1≤9223372036854775807:=by omega
  have q4:-9223372036854775808≤x2∧x2≤9223372036854775807:=by omega
  have q5:-9223372036854775808≤s*gb∧s*gb≤9223372036854775807:=by omega
  have q6:-9223372036854775808≤(i:Int)+1∧(i:Int)+1≤9223372036854775807:=by omega
  have q7:-9223372036854775808≤x2.tdiv 1000000000∧x2.tdiv 1000000000≤9223372036854775807∧-9223372036854775808≤x2.tmod 1000000000+1000000000∧x2.tmod 1000000000+1000000000≤9223372036854775807∧-9223372036854775808≤x2.tdiv 1000000000 - 1∧x2.tdiv 1000000000 - 1≤9223372036854775807:=by
   by_cases hq:x2.tmod 1000000000<0
   ·have:=tmod_neg hq;omega
   ·have:=aIw hq;omega
  have q8:(0:Int)≤w0∧w0≤4294967295:=by omega
  have hlb:(out.length+1)*4≤140737488355328:=by omega
  have aCk:out.length+1≤9223372036854775807:=by omega
  have aFa:out.length+1≤L:=by omega
  have hms:∀n',n'=out.length+1→L - n'<L - i:=fun n' h=>by omega
  have hin:∀n',n'=out.length+1→(i:Int)+1=(n':Int):=fun n' h=>by omega
  have hni:out.length+1=i+1:=by omega
  cbv;refine aZ3 hc (T [] x1) rfl rfl 100 (fun r h hr=>?_) (fun r h hr=>?_) ?_
  ·have h:(i:Int)<(N:Int):=BE.lt_t h
   have h:i<N:=Int.ofNat_lt.1 h
   have e1:=s1 h
   have e2:=dA _ _ (g1 h) q1
   have e3:=dA _ _ e1 q3
   have e4:=o1 h
   have e5:=o2 h
   cbv;refine aQ hc ⟨e4,e5,e2,e3,trivial⟩ ?_;refine zU 2 (S':=T [] x1) (K':=K) ⟨zS rfl rfl,zS rfl rfl,zS rfl rfl,zS rfl rfl,zS rfl rfl,zI rfl rfl e1,zS rfl rfl,zS rfl rfl,trivial⟩ kf (kof _ _ _ _) hr
  ·have h:¬(i:Int)<(N:Int):=BE.lt_f h
   have h:¬i<N:=fun h'=>h (Int.ofNat_lt.2 h')
   have e1:=z1 h
   cbv;refine zU 2 (S':=T [] x1) (K':=K) ⟨zS rfl rfl,zS rfl rfl,zS rfl rfl,zS rfl rfl,zS rfl rfl,zI rfl rfl e1,zS rfl rfl,zS rfl rfl,trivial⟩ kf (kof _ _ _ _) hr
  refine zN hc ?_;cbv;refine aZ3 hc (T [] x2) rfl rfl 100 (fun r h hr=>?_) (fun r h hr=>?_) ?_
  ·have h:(i:Int)<(M:Int):=BE.lt_t h
   have h:i<M:=Int.ofNat_lt.1 h
   have e1:=s2 h
   have e2:=dA _ _ (g2 h) q2
   have e3:=dA _ _ e1 q4
   have e4:=o1' h
   have e5:=o2' h
   have e6:=dA _ _ (m1 h) q5
   cbv;refine aQ hc ⟨e4,e5,e2,e6,e3,trivial⟩ ?_;refine zU 2 (S':=T [] x2) (K':=K) ⟨zS rfl rfl,zS rfl rfl,zS rfl rfl,zS rfl rfl,zS rfl rfl,zI rfl rfl e1,zS rfl rfl,zS rfl rfl,trivial⟩ kf (kof _ _ _ _) hr
  ·have h:¬(i:Int)<(M:Int):=BE.lt_f h
   have h:¬i<M:=fun h'=>h (Int.ofNat_lt.2 h')
   have e1:=z2 h
   cbv;refine zU 2 (S':=T [] x2) (K':=K) ⟨zS rfl rfl,zS rfl rfl,zS rfl rfl,zS rfl rfl,zS rfl rfl,zI rfl rfl e1,zS rfl rfl,zS rfl rfl,trivial⟩ kf (kof _ _ _ _) hr
  refine zN hc ?_;cbv;have nz:(Obl.nz (IE.l 1000000000)).ok:=by show _≠_;simp[IE.den]
  refine aQ hc ⟨nz,nz,⟨q7.1,q7.2.1⟩,trivial⟩ ?_;refine aZ3 hc (T [(10,.i .i64 (.v w0))] c0) rfl rfl 100 (fun r h hr=>?_) (fun r h hr=>?_) ?_
  ·have h:x2.tmod 1000000000<0:=BE.lt_t h
   obtain⟨h1,h2⟩:=tmod_neg h;rw[←hw0]at h1;rw[←hc0]at h2;cbv;refine aQ hc ⟨⟨q7.2.2.1,q7.2.2.2.1⟩,⟨q7.2.2.2.2.1,q7.2.2.2.2.2⟩,trivial⟩ ?_;refine zU 2 (S':=T [(10,.i .i64 (.v w0))] c0) (K':=K) ⟨zI rfl rfl h1,zS rfl rfl,zS rfl rfl,zS rfl rfl,zS rfl rfl,zS rfl rfl,zI rfl rfl h2,zS rfl rfl,zS rfl rfl,trivial⟩ kf (kof _ _ _ _) hr
  ·have h:¬x2.tmod 1000000000<0:=BE.lt_f h
   obtain⟨h1,h2⟩:=aIw h;rw[←hw0]at h1;rw[←hc0]at h2;cbv;refine zU 2 (S':=T [(10,.i .i64 (.v w0))] c0) (K':=K) ⟨zI rfl rfl h1,zS rfl rfl,zS rfl rfl,zS rfl rfl,zS rfl rfl,zS rfl rfl,zI rfl rfl h2,zS rfl rfl,zS rfl rfl,trivial⟩ kf (kof _ _ _ _) hr
  refine zN hc ?_;cbv;refine aQ hc ⟨q8,trivial⟩ ?_;refine mX hc _ rfl rfl rfl hG rfl rfl rfl rfl rfl rfl rfl rfl rfl dL hlb aCk (fun a' n' aZ l' hn' hl'=>?_);refine zN hc ?_;cbv;refine aQ hc ⟨q6,trivial⟩ ?_;refine eG 2 (S':=I ⟨(n',a',aZ,l',c0),by rw[hn',hl',hni];exact cW,by rw[hn'];exact aFa⟩) (K':=K) rfl rfl (Nat.le_succ 2) rfl rfl ⟨zS rfl rfl,zS rfl rfl,zS rfl rfl,zS rfl rfl,zS rfl rfl,zS rfl rfl,zI rfl rfl (hin n' hn'),trivial⟩ kf (kof _ _ _ _) (hy _ (hms n' hn'))
 ·have h:¬(i:Int)<(L:Int):=BE.lt_f h
  have hiL:i=L:=by omega
  obtain⟨d1,d2,d3,d4⟩:=hM'.done (hiL.trans hL') h0;have hlb:(out.length+1)*4≤140737488355328:=by omega
  have aCk:out.length+1≤9223372036854775807:=by omega
  have q8:0<cr→(0:Int)≤cr∧cr≤4294967295:=fun h=>by have:=(d3 h).1;omega
  have hw1:0<cr→Wd (out++[cr]):=fun h=>hM'.wd.append (Wd.mk ⟨d1,(d3 h).1⟩ Wd.nil)
  have bB8:out.length≤max (aF n).length (aF m).length+1:=by omega
  have aRl:(out++[cr]).length≤max (aF n).length (aF m).length+1:=by simp;omega
  cbv;refine aE hc rfl 100 (fun h=>?_) (fun h=>?_)
  ·have h:0<cr:=BE.lt_t h
   have h8:=q8 h
   cbv;refine aQ hc ⟨h8,trivial⟩ ?_;refine mX hc _ rfl rfl rfl hG rfl rfl rfl rfl rfl rfl rfl rfl rfl dL hlb aCk (fun a' n' aZ l' hn' hl'=>?_);refine zN hc ?_;cbv;refine sM (hG _ _ _ _) rfl rfl ?_;refine aS hc hR rfl (fun X μ a w v H hv=>?_);injection hv with hv
   have hl':l'=out++[cr]:=hl'
   rw[hRR,←hv];refine⟨l',by rw[hl'];exact hw1 h,by rw[hl'];exact(d3 h).2,by rw[hl'];exact aRl,fun e=>by rw[hl'];exact(d4 e).2 h,H.toP.cst (.head _)⟩
  ·have h:¬0<cr:=BE.lt_f h
   have h:cr=0:=by omega
   cbv;refine sM (hG _ _ _ _) rfl rfl ?_;refine aS hc hR rfl (fun X μ a w v H hv=>?_);injection hv with hv
   rw[hRR,←hv];exact⟨out,hM'.wd,d2 h,bB8,fun e=>(d4 e).1 h,H.toP.cst (.head _)⟩
theorem aXq:aB PP 265:=zK
theorem aT7:aB PP 267:=zK
theorem aOk {v u:Value}{X:Nat→Prop}{w:World}{n m:Nat}(hbn:(aF n).length≤2^40)(hbm:(aF m).length≤2^40)(hX:∀b,X b→b<w.heap.size)(hv:(aP n).p v X w)(hu:(aP m).p u X w):
  Fn PP 265 [v,u] X w (aP (n+m)):=by
 obtain⟨R,hRR⟩:=nm (aP (n+m));obtain⟨R1,hR1⟩:∃R,R=aFh n m 1:=⟨_,rfl⟩;obtain⟨K,hK⟩:=nm ([KF.cst v (aP n),KF.cst u (aP m)]);rw[←hRR];refine bE mixed tok [.q v,.q u] (K:=K) Tryz.func265 rfl rfl (lbl rfl) rfl hX (by subst hK;simp;exact⟨hv,hu⟩) fun c hc hR=>?_
 refine zN hc ?_;cbv;refine eE (R:=R1) hc aLn (fun n0 D X μ a w aL H aJ=>?_) 100 ?_
 ·obtain⟨v1,v2,v3,rfl,h1,h2,h3⟩:=eX aJ;injection h1 with h1;injection h2 with h2;injection h3 with h3
  subst h1;subst h2;subst h3;rw[hR1];exact aBk (s:=1) (.inl rfl) (by omega) hbn hbm H.xlt (H.cst (by simp[hK])) (H.cst (by simp[hK]))
 cbv;refine aS hc hR rfl (fun X μ a w v H hv=>?_);have:=H.toP.val (k:=0) (R:=R1) (.head _) hv
 rw[hR1]at this;obtain⟨l,q1,q2,q3,q4,q5⟩:=this;rw[hRR,←q4 rfl];exact q5
theorem aKb {v u:Value}{X:Nat→Prop}{w:World}{n m:Nat}(hnm:m≤n)(hbn:(aF n).length<2^40)(hbm:(aF m).length<2^40)(hX:∀b,X b→b<w.heap.size)(hv:(aP n).p v X w)(hu:(aP m).p u X w):
  Fn PP 267 [v,u] X w (aP (n - m)):=by
 obtain⟨R,hRR⟩:=nm (aP (n - m));obtain⟨R1,hR1⟩:∃R,R=aFh n m (-1):=⟨_,rfl⟩;obtain⟨K,hK⟩:=nm ([KF.cst v (aP n),KF.cst u (aP m)]);rw[←hRR];refine bE mixed tok [.q v,.q u] (K:=K) Tryz.func267 rfl rfl (lbl rfl) rfl hX (by subst hK;simp;exact⟨hv,hu⟩) fun c hc hR=>?_
 refine zN hc ?_;cbv;refine eE (R:=R1) hc aLn (fun n0 D X μ a w aL H aJ=>?_) 100 ?_
 ·obtain⟨v1,v2,v3,rfl,h1,h2,h3⟩:=eX aJ;injection h1 with h1;injection h2 with h2;injection h3 with h3
  subst h1;subst h2;subst h3;rw[hR1];exact aBk (s:=-1) (.inr rfl) (by omega) (by omega) (by omega) H.xlt (H.cst (by simp[hK])) (H.cst (by simp[hK]))
 cbv;refine eE (R:=R) hc qX (fun n0 D X μ a w aL H aJ=>?_) 100 ?_
 ·obtain⟨v1,rfl,h1⟩:=aV aJ;have:=H.val (k:=0) (R:=R1) (.head _) h1
  rw[hR1]at this;obtain⟨l,q1,q2,q3,q4,q5⟩:=this;have e:(val l).toNat=n - m:=by omega
  rw[hRR,←e];exact kU q1 (by omega) H.xlt q5
 cbv;exact aS hc hR rfl (fun X μ a w v H hv=>H.toP.val (k:=1) (R:=R) (.head _) hv)
end Go.Ai
