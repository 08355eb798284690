/- Part 10: lemmas for garboardlaw17.FloatDivides -/
import Derived.Test.YtmnancfboococaaGreatDoorPd8
set_option linter.all false
namespace Go.Num
def aC (n:Nat):List Int:=if n=0 then []else((n%1000000000:Nat):Int)::aC (n/1000000000)
decreasing_by omega
def val:List Int->Int
 | []=>0
 | x::l=>x+1000000000*val l
def Wd (l:List Int):Prop:=∀x,x∈l->0<=x/\x<1000000000
def eH:List Int->List Int
 | []=>[]
 | x::l=>match eH l with
  | []=>if x=0 then []else [x]
  | y::ys=>x::y::ys
theorem vM:∀(l:List Int),eH (l++[0])=eH l
 | []=>rfl
 | x::l=>by simp only[List.cons_append,eH,vM l]
theorem aC6 {x:Int}(hx:x≠0):∀(l:List Int),eH (l++[x])=l++[x]
 | []=>by simp[eH,hx]
 | y::l=>by
  simp only[List.cons_append,eH,aC6 hx l];cases l<;>rfl
theorem Wd.cons {x:Int}{l:List Int}(h:Wd (x::l)):(0<=x/\x<1000000000)/\Wd l:=⟨h x (.head _),λy hy=>h y (.tail _ hy)⟩
theorem Wd.nil:Wd []:=λx h=>by cases h
theorem Wd.mk {x:Int}{l:List Int}(h:0<=x/\x<1000000000)(hl:Wd l):Wd (x::l):=λy hy=>by
 rcases List.mem_cons.1 hy with e | e
 ·subst e;exact h
 ·exact hl y e
theorem Wd.append {l m:List Int}(h:Wd l)(h':Wd m):Wd (l++m):=λx hx=>(List.mem_append.1 hx).elim (h x) (h' x)
theorem cH:∀{l:List Int},Wd l->0<=val l
 | [],_=>Int.le_refl _
 | x::l,h=>by have:=cH h.cons.2;have:=h.cons.1.1;simp only[val];omega
theorem bS:aC 0=[]:=by rw[aC];rfl
theorem bY {n:Nat}(h:n≠0):aC n=((n%1000000000:Nat):Int)::aC (n/1000000000):=by rw[aC];simp[h]
theorem nX:∀{l:List Int},Wd l->eH l=aC (val l).toNat
 | [],_=>by simp[eH,val,bS]
 | x::l,h=>by
  obtain⟨hx,hl⟩:=h.cons;have hv:=cH hl;have ih:=nX hl;simp only[eH,val,ih];by_cases h0:val l=0
  ·rw[h0];simp only[Int.toNat_zero,bS];by_cases hx0:x=0
   ·simp[hx0,bS]
   ·rw[if_neg hx0,bY zW];have e1:(x+1000000000*0).toNat%1000000000=x.toNat:=zW;have e2:(x+1000000000*0).toNat/1000000000=0:=zW;rw[e1,e2,bS];congr 1;omega
  ·have h1:(val l).toNat≠0:=zW
   have e:aC (val l).toNat=(((val l).toNat%1000000000:Nat):Int)::aC ((val l).toNat/1000000000):=bY h1
   rw[e,bY (n:=(x+1000000000*val l).toNat) zW];have e1:(x+1000000000*val l).toNat%1000000000=x.toNat:=zW;have e2:(x+1000000000*val l).toNat/1000000000=(val l).toNat:=zW;rw[e1,e2,e];simp only;congr 1;omega
theorem bF:∀(n:Nat),Wd (aC n):=by
 intro n;induction n using Nat.strongRecOn with
 | _ n ih=>
  by_cases h:n=0
  ·subst h;rw[bS];exact Wd.nil
  ·rw[bY h];exact Wd.mk zW (ih _ zW)
theorem cQ:∀(n:Nat),val (aC n)=n:=by
 intro n;induction n using Nat.strongRecOn with
 | _ n ih=>
  by_cases h:n=0
  ·subst h;rw[bS];rfl
  ·rw[bY h];simp only[val,ih (n/1000000000) zW];omega
theorem aH2 {n m:Nat}(h:aC n=aC m):n=m:=by
 have:=cQ n
 rw[h,cQ m]at this;omega
theorem val_append:∀(l m:List Int),val (l++m)=val l+1000000000^l.length*val m
 | [],m=>by simp[val]
 | x::l,m=>by
  simp only[List.cons_append,val,val_append l m,List.length_cons,Int.pow_succ];grind
theorem jL:∀{l:List Int},Wd l->val l<1000000000^l.length
 | [],_=>by simp[val]
 | x::l,h=>by
  have:=jL h.cons.2
  have:=h.cons.1
  simp only[val,List.length_cons,Int.pow_succ];omega
theorem aDo {l:List Int}{i:Nat}{x:Int}(h:l[i]?=some x):val (l.take (i+1))=val (l.take i)+1000000000^i*x:=by
 have hi:=(List.getElem?_eq_some_iff.1 h).1
 rw[List.take_add_one,h,val_append];simp only[Option.toList_some,val,List.length_take];rw[Nat.min_eq_left zW];grind
theorem nY {l:List Int}{i:Nat}{x:Int}(h:l[i]?=some x):val (l.drop i)=x+1000000000*val (l.drop (i+1)):=by
 have hi:=(List.getElem?_eq_some_iff.1 h).1
 rw[List.drop_eq_getElem_cons hi];have:l[i]=x:=by have:=List.getElem?_eq_getElem hi;rw[this]at h;injection h
 simp only[val,this]
theorem bM {n k : Nat} (h : n < 1000000000 ^ k) : (aC n).length <= k := by
  induction k generalizing n with
  | zero => have : n = 0 := by simpa using h
            subst this; simp [bS]
  | succ k ih =>
    by_cases hn : n = 0
    · subst hn; simp [bS]
    · rw [bY hn, List.length_cons]
      have := ih (n := n / 1000000000) (by rw [Nat.pow_succ] at h; omega)
      omega
theorem aT {n k:Nat}(h:(aC n).length<=k):n<1000000000^k:=by
 have h1:=jL (bF n)
 rw[cQ]at h1;have h2:(1000000000:Nat)^(aC n).length<=1000000000^k:=Nat.pow_le_pow_right zW h;have h3:((1000000000:Nat)^(aC n).length:Nat)=((1000000000:Int)^(aC n).length):=zA;omega
theorem sD {n m:Nat}(h:(aC n).length<(aC m).length):n<m:=by
 rcases Nat.lt_or_ge n m with h' | h'
 ·exact h'
 ·have:=bM (Nat.lt_of_le_of_lt h' (aT (lRf _)));omega
theorem jO {l:List Int}{q:Nat}(h:q<=l.length):val l=val (l.take q)+1000000000^q*val (l.drop q):=by
 have:=val_append (l.take q) (l.drop q)
 rw[List.take_append_drop,List.length_take,Nat.min_eq_left h]at this;exact this
theorem Wd.take {l:List Int}(h:Wd l)(q:Nat):Wd (l.take q):=λx hx=>h x (List.mem_of_mem_take hx)
theorem Wd.drop {l:List Int}(h:Wd l)(q:Nat):Wd (l.drop q):=λx hx=>h x (List.mem_of_mem_drop hx)
theorem aFc {l m:List Int}(hl:Wd l)(hm:Wd m){q:Nat}{x y:Int}(hx:l[q]?=some x)(hy:m[q]?=some y)(hd:l.drop (q+1)=m.drop (q+1))(hxy:x<y):val l<val m:=by
 have h1:=(List.getElem?_eq_some_iff.1 hx).1
 have h2:=(List.getElem?_eq_some_iff.1 hy).1
 rw[jO (q:=q) (l:=l) zW,jO (q:=q) (l:=m) zW,nY hx,nY hy,hd];have h3:=jL (hl.take q);rw[List.length_take,Nat.min_eq_left zW]at h3;have h4:=cH (hm.take q);have hp:(0:Int)<1000000000^q:=Int.pow_pos zW;generalize val (List.drop (q+1) m)=D;generalize val (List.take q l)=a,val (List.take q m)=b,(1000000000:Int)^q=B at *;have h5:B*(x+1000000000*D+1)<=B*(y+1000000000*D):=Int.mul_le_mul_of_nonneg_left zW zW;rw[Int.mul_add B (x+1000000000*D) 1]at h5;omega
def bW (x y:Int):Int:=if x<y then -1 else if y<x then 1 else 0
theorem aHt {l m:List Int}(hl:Wd l)(hm:Wd m){q:Nat}{x y:Int}(hx:l[q]?=some x)(hy:m[q]?=some y)(hd:l.drop (q+1)=m.drop (q+1))(hxy:x≠y):bW x y=bW (val l) (val m):=by
 rcases Int.lt_or_gt_of_ne hxy with h | h
 ·have:=aFc hl hm hx hy hd h
  simp only[bW];rw[if_pos h,if_pos this]
 ·have:=aFc hm hl hy hx hd.symm h
  simp only[bW];rw[if_neg zW,if_pos h,if_neg zW,if_pos this]
theorem aHs {n m:Nat}(h:(aC n).length≠(aC m).length):bW (aC n).length (aC m).length=bW n m:=by
 rcases Nat.lt_or_gt_of_ne h with h | h
 ·have:=sD h
  simp only[bW];rw[if_pos zW,if_pos zW]
 ·have:=sD h
  simp only[bW];rw[if_neg zW,if_pos zW,if_neg zW,if_pos zW]
theorem bL {l:List Int}(i:Nat):val (l.take (i+1))=val (l.take i)+1000000000^i*l.getD i 0:=by
 rcases Nat.lt_or_ge i l.length with h | h
 ·have hx:=List.getElem?_eq_getElem h
  rw[aDo hx,List.getD_eq_getElem?_getD,hx];rfl
 ·rw[List.take_of_length_le zW,List.take_of_length_le h,List.getD_eq_getElem?_getD,List.getElem?_eq_none h];simp
theorem bN {n m:Nat}(h:n<=m):(aC n).length<=(aC m).length:=
 bM (Nat.lt_of_le_of_lt h (aT (lRf _)))
theorem bA {l:List Int}(h:Wd l)(i:Nat):0<=l.getD i 0/\l.getD i 0<1000000000:=by
 rcases Nat.lt_or_ge i l.length with hi | hi
 ·rw[List.getD_eq_getElem?_getD,List.getElem?_eq_getElem hi];exact h _ (List.getElem_mem _)
 ·rw[List.getD_eq_getElem?_getD,List.getElem?_eq_none hi];simp
theorem qZ:∀(l:List Int),(eH l).length<=l.length/\((eH l).length=l.length->eH l=l)
 | []=>by simp[eH]
 | x::l=>by
  have ih:=qZ l
  simp only[eH];cases ht:eH l with
  | nil=>
   rw[ht]at ih;by_cases hx:x=0
   ·simp[hx]
   ·simp only[hx,if_false,List.length_cons,List.length_nil];refine⟨zW,λh=>?_⟩;have:l=[]:=List.eq_nil_of_length_eq_zero zW;rw[this]
  | cons y ys=>
   rw[ht]at ih;simp only[List.length_cons]at ih |-;refine⟨zW,λh=>?_⟩;rw[ih.2 zW]
theorem aM4 {l:List Int}(h:Wd l)(hl:l.length<=(aC (val l).toNat).length):l=aC (val l).toNat:=by
 have h1:=nX h
 have h2:=qZ l
 rw[h1]at h2;exact(h2.2 zW).symm
structure Mrg (n m:Nat)(s:Int)(i:Nat)(out:List Int)(cr:Int):Prop where
 wd:Wd out
 len:out.length=i
 v:val out+1000000000^i*cr=val ((aC n).take i)+s*val ((aC m).take i)
 c:(s=1/\0<=cr/\cr<=1)\/(s=-1/\-1<=cr/\cr<=0)
theorem Mrg.init {n m:Nat}{s:Int}(hs:s=1\/s=-1):Mrg n m s 0 [] 0:=⟨Wd.nil,rfl,by simp[val],zW⟩
theorem Mrg.step {n m:Nat}{s:Int}{i:Nat}{out:List Int}{cr x:Int}(h:Mrg n m s i out cr)(hx:x=cr+(aC n).getD i 0+s*(aC m).getD i 0):Mrg n m s (i+1) (out++[x%1000000000]) (x/1000000000):=by
 have h1:=bA (bF n) i
 have h2:=bA (bF m) i
 refine⟨h.wd.append (Wd.mk zW Wd.nil),by simp[h.len],?_,?_⟩
 ·rw[val_append,bL,bL,h.len];have hv:=h.v;have hd:x%1000000000+1000000000*(x/1000000000)=x:=Int.emod_add_mul_ediv x 1000000000;simp only[val,Int.pow_succ];grind
 ·rcases h.c with⟨e,h3,h4⟩ | ⟨e,h3,h4⟩
  ·subst e;left;omega
  ·subst e;right;omega
theorem Mrg.last {n m:Nat}{s:Int}{i:Nat}{out:List Int}{cr:Int}(h:Mrg n m s i out cr)(hn:(aC n).length<=i)(hm:(aC m).length<=i):val out+1000000000^i*cr=n+s*m:=by
 have:=h.v
 rwa [List.take_of_length_le hn,List.take_of_length_le hm,cQ,cQ]at this
theorem Mrg.done {n m:Nat}{s:Int}{i:Nat}{out:List Int}{cr:Int}(h:Mrg n m s i out cr)(hi:i=max (aC n).length (aC m).length)(h0:0<=(n:Int)+s*m):
  0<=cr/\(cr=0->val out=n+s*m)/\(0<cr->cr<1000000000/\val (out++[cr])=n+s*m)/\(s=1->(cr=0->out=aC (n+m))/\(0<cr->out++[cr]=aC (n+m))):=by
 have hl:=h.last zW zW
 have hv:=jL h.wd
 rw[h.len]at hv;have hp:(0:Int)<1000000000^i:=Int.pow_pos zW;have hc:=h.c;have h1:0<=cr:=by
  rcases Int.lt_or_le cr 0 with hlt | hle
  ·exfalso
   have:cr=-1:=zW
   subst this;omega
  ·exact hle
 have h2:0<cr->val (out++[cr])=n+s*m:=λ_=>by
  rw[val_append,h.len];simp only[val];rw[<-hl];grind
 have h3:cr=0->val out=n+s*m:=λe=>by rw[e]at hl;simpa using hl
 refine⟨h1,h3,λhc0=>⟨zW,h2 hc0⟩,λhs=>⟨λe=>?_,λe=>?_⟩⟩
 ·have hv':=h3 e
  rw[hs,Int.one_mul]at hv';have e2:(val out).toNat=n+m:=zW;have:=aM4 h.wd (by
   rw[e2,h.len,hi];have h4:=bN (n:=n) (m:=n+m) zW;have h5:=bN (n:=m) (m:=n+m) zW;omega)
  rw[e2]at this;exact this
 ·have hv':=h2 e
  rw[hs,Int.one_mul]at hv';have hw:Wd (out++[cr]):=h.wd.append (Wd.mk zW Wd.nil);have e2:(val (out++[cr])).toNat=n+m:=zW;have:=aM4 hw (by
   rw[e2,List.length_append,h.len];apply Classical.byContradiction;intro hlt;have h4:n+m<1000000000^i:=aT (by simp at hlt;omega);have h5:((1000000000^i:Nat):Int)=(1000000000:Int)^i:=zA;have h6:(1000000000:Int)^i*1<=1000000000^i*cr:=Int.mul_le_mul_of_nonneg_left zW zW;have h7:=cH h.wd;rw[hs,Int.one_mul]at hl;omega)
  rw[e2]at this;exact this
theorem tmod_neg {x:Int}(h:x.tmod 1000000000<0):x.tmod 1000000000+1000000000=x%1000000000/\x.tdiv 1000000000 - 1=x/1000000000:=by
 have h1:=Int.tmod_eq_emod (a:=x) (b:=1000000000)
 have h2:=Int.tdiv_eq_ediv (a:=x) (b:=1000000000)
 split at h1
 ·have:=Int.emod_nonneg x (b:=1000000000) zW;omega
 ·rename_i hn;rw[if_neg hn,show Int.sign 1000000000=1 from rfl]at h2;have h3:((1000000000:Int).natAbs:Int)=1000000000:=rfl;omega
theorem aJq {x:Int}(h:¬x.tmod 1000000000<0):x.tmod 1000000000=x%1000000000/\x.tdiv 1000000000=x/1000000000:=by
 have h1:=Int.tmod_eq_emod (a:=x) (b:=1000000000)
 have h2:=Int.tdiv_eq_ediv (a:=x) (b:=1000000000)
 split at h1
 ·rename_i hn;rw[if_pos hn]at h2;omega
 ·have:=Int.emod_lt_of_pos x (b:=1000000000) zW
  simp at h1;omega
theorem uH:∀(k:Nat),val (List.replicate k 0)=0
 | 0=>rfl
 | k+1=>by simp[List.replicate_succ,val,uH k]
theorem mN (k:Nat):Wd (List.replicate k 0):=λx hx=>by
 have:=List.eq_of_mem_replicate hx;omega
theorem aGx:∀{l:List Int} {i:Nat} (x:Int),i<l.length->val (l.set i x)=val l+1000000000^i*(x - l.getD i 0)
 | y::l,0,x,_=>by simp[val];omega
 | y::l,i+1,x,h=>by
  simp only[List.set_cons_succ,val,aGx x (show i<l.length by simpa using h),List.getD_cons_succ,Int.pow_succ];grind
theorem Wd.set {l:List Int}(h:Wd l){i:Nat}{x:Int}(hx:0<=x/\x<1000000000):Wd (l.set i x):=λy hy=>by
 rcases List.mem_or_eq_of_mem_set hy with h' | h'
 ·exact h y h'
 ·subst h';exact hx
structure Mul (n m i k:Nat)(out:List Int)(cr:Int):Prop where
 wd:Wd out
 len:out.length=(aC n).length+(aC m).length
 v:val out+1000000000^(i+k)*cr=val ((aC n).take i)*m+1000000000^i*((aC n).getD i 0*val ((aC m).take k))
 c:0<=cr/\cr<1000000000
 z:∀j,i+(aC m).length<=j->out.getD j 0=0
theorem jM {l:List Int}{i:Nat}(x:Int)(h:i<l.length):(l.set i x).getD i 0=x:=by
 simp[List.getD_eq_getElem?_getD,h]
theorem eA {l:List Int}{i j:Nat}(x:Int)(h:i≠j):(l.set i x).getD j 0=l.getD j 0:=by
 simp[List.getD_eq_getElem?_getD,List.getElem?_set_ne h]
theorem Mul.init {n m:Nat}:Mul n m 0 0 (List.replicate ((aC n).length+(aC m).length) 0) 0:=by
 refine⟨mN _,zA,by simp[uH,val],zW,λj _=>?_⟩;rw[List.getD_eq_getElem?_getD];cases h:(List.replicate ((aC n).length+(aC m).length) (0:Int))[j]? with
 | none=>rfl
 | some y=>have:=List.eq_of_mem_replicate (List.mem_of_getElem? h);subst this;rfl
theorem Mul.step {n m i k:Nat}{out:List Int}{cr x:Int}(h:Mul n m i k out cr)(hi:i<(aC n).length)(hk:k<(aC m).length)(hx:x=cr+((aC n).getD i 0*(aC m).getD k 0+out.getD (i+k) 0)):
  Mul n m i (k+1) (out.set (i+k) (x%1000000000)) (x/1000000000):=by
 have h1:=bA (bF n) i
 have h2:=bA (bF m) k
 have h3:=bA h.wd (i+k)
 have hp:0<=(aC n).getD i 0*(aC m).getD k 0/\(aC n).getD i 0*(aC m).getD k 0<=999999999*999999999:=
  ⟨Int.mul_nonneg h1.1 h2.1,Int.mul_le_mul zW zW h2.1 zW⟩
 have hc:=h.c
 have hlt:i+k<out.length:=by rw[h.len];omega
 refine⟨h.wd.set zW,by simp[h.len],?_,zW,λj hj=>?_⟩
 ·rw[aGx _ hlt,bL];have hv:=h.v;have hd:x%1000000000+1000000000*(x/1000000000)=x:=Int.emod_add_mul_ediv x 1000000000;have e1:(1000000000:Int)^(i+(k+1))=1000000000^(i+k)*1000000000:=by rw[<-Nat.add_assoc,Int.pow_succ]
  have e2:(1000000000:Int)^(i+k)=1000000000^i*1000000000^k:=Int.pow_add _ _ _
  rw[e1];generalize x/1000000000=q,x%1000000000=r at *;rw[e2]at hv |-;generalize val (List.take k (aC m))=A,val (List.take i (aC n))=C,val out=V,(aC n).getD i 0=a,(aC m).getD k 0=b,out.getD (i+k) 0=o at *;grind
 ·rw[eA _ zW];exact h.z j hj
theorem Mul.row {n m i:Nat}{out:List Int}{cr:Int}(h:Mul n m i (aC m).length out cr)(hi:i<(aC n).length):Mul n m (i+1) 0 (out.set (i+(aC m).length) cr) 0:=by
 have hlt:i+(aC m).length<out.length:=by rw[h.len];omega
 refine⟨h.wd.set h.c,by simp[h.len],?_,zW,λj hj=>?_⟩
 ·rw[aGx _ hlt,h.z _ (lRf _),bL];have hv:=h.v;rw[List.take_length,cQ]at hv;simp only[List.take_zero,val,Int.mul_zero,Int.add_zero,Int.sub_zero];rw[hv];grind
 ·rw[eA _ zW];exact h.z j zW
theorem Mul.done {n m:Nat}{out:List Int}(h:Mul n m (aC n).length 0 out 0):(val out).toNat=n*m:=by
 have hv:=h.v
 simp only[List.take_length,cQ,List.take_zero,val,Int.mul_zero,Int.add_zero]at hv;rw[hv];omega
structure Dv (n:Nat)(w:Int)(k:Nat)(out:List Int)(rest:Int):Prop where
 wd:Wd out
 len:out.length=(aC n).length
 v:val (out.drop k)*w+rest=val ((aC n).drop k)
 r:0<=rest/\rest<w
theorem Dv.init {n:Nat}{w:Int}(hw:0<w):Dv n w (aC n).length (List.replicate (aC n).length 0) 0:=by
 refine⟨mN _,zA,?_,zW⟩;rw[List.drop_of_length_le zA,List.drop_of_length_le (lRf _)];simp[val]
theorem Dv.step {n:Nat}{w:Int}{q:Nat}{out:List Int}{rest x:Int}(h:Dv n w (q+1) out rest)(hw:w<1000000000)(hq:q<(aC n).length)(hx:x=rest*1000000000+(aC n).getD q 0):
  Dv n w q (out.set q (x/w)) (x%w)/\0<=x/w/\x/w<1000000000:=by
 have h1:=bA (bF n) q
 have hr:=h.r
 have hw0:0<w:=zW
 have hb:0<=x/w/\x/w<1000000000:=by
  refine⟨Int.ediv_nonneg zW zW,Int.ediv_lt_of_lt_mul hw0 ?_⟩;have:rest+1<=w:=zW;have:=Int.mul_le_mul_of_nonneg_right this (show(0:Int)<=1000000000 by omega);omega
 have hlt:q<out.length:=by rw[h.len];exact hq
 refine⟨⟨h.wd.set hb,by simp[h.len],?_,Int.emod_nonneg _ zW,Int.emod_lt_of_pos _ hw0⟩,hb⟩;have e1:(aC n)[q]?=some ((aC n).getD q 0):=by rw[List.getD_eq_getElem?_getD,List.getElem?_eq_getElem hq];rfl
 rw[nY e1];have e2:(out.set q (x/w))[q]?=some (x/w):=by simp[hlt]
 rw[nY e2,List.drop_set_of_lt zW];have hv:=h.v;have hd:x%w+w*(x/w)=x:=Int.emod_add_mul_ediv x w;generalize x/w=y,x%w=r',val (List.drop (q+1) out)=Q,val (List.drop (q+1) (aC n))=D,(aC n).getD q 0=a at *;grind
theorem Dv.done {n:Nat}{m:Nat}{out:List Int}{rest:Int}(h:Dv n m 0 out rest):(val out).toNat=n/m/\rest.toNat=n%m:=by
 have hv:=h.v
 rw[List.drop_zero,List.drop_zero,cQ]at hv;have h0:=cH h.wd;obtain⟨q,hq⟩:∃q:Nat,val out=q:=⟨(val out).toNat,zW⟩;obtain⟨r,hr⟩:∃r:Nat,rest=r:=⟨rest.toNat,by have:=h.r;omega⟩;have hrm:r<m:=by have:=h.r;omega
 rw[hq,hr]at hv |-;have hn:n=q*m+r:=by
  have:((q*m+r:Nat):Int)=(n:Int):=by rw[<-hv];simp
  omega
 have hm:0<m:=zW
 simp only[Int.toNat_natCast];constructor
 ·rw[hn,Nat.add_comm,Nat.add_mul_div_right _ _ hm,Nat.div_eq_of_lt hrm];omega
 ·rw[hn,Nat.add_comm,Nat.add_mul_mod_self_right,Nat.mod_eq_of_lt hrm]
theorem vL:∀(l:List Int),l.take (eH l).length=eH l
 | []=>rfl
 | x::l=>by
  have ih:=vL l
  simp only[eH];cases ht:eH l with
  | nil=>
   by_cases hx:x=0
   ·simp[hx]
   ·simp[hx]
  | cons y ys=>
   rw[ht]at ih;simp only[List.length_cons,List.take_succ_cons]at ih |-;rw[ih]
end Go.Num
namespace Go.Ai
open Go Go.Proofs Go.Num
noncomputable abbrev PP:=Tryz.prog
abbrev aJ (n:Nat):VF:=lX .u32 (aC n)
def aPk:Value->Nat->Value
 | .slice a _ cap,n=>.slice a n cap
 | v,_=>v
def trimF (v0:Value)(l:List Int):VF where
 p v X w:=(lX .u32 (eH l)).p v X w/\v=aPk v0 (eH l).length
 st v X X' w w' h1 h2 h:=⟨(lX .u32 (eH l)).st v X X' w w' h1 h2 h.1,h.2⟩
theorem aJr {v:Value}{X:Nat->Prop}{w:World}{l:List Int}(hb:l.length<=2^40)(hX:∀b,X b->b<w.heap.size)(hv:(lX .u32 l).p v X w):Fn PP 264 [v] X w (trimF v l):=by
 obtain⟨R,hRR⟩:=nm (trimF v l);obtain⟨K,hK⟩:=nm ([KF.cst v (lX .u32 l)]);rw[<-hRR];refine bE mixed tok [.q v] (K:=K) Tryz.func264 rfl rfl (lbl rfl) rfl hX (by subst hK;simp;exact hv) λc hc hR=>?_;refine aTv 0 .u32 l rfl rfl (λX μ a w H=>H.toP.cst (by simp[hK])) λf N cap ad hN hf cR hv0=>?_;obtain⟨K1,hK1⟩:=nm (KF.ext 0 ad::K);show Goal c (KF.ext 0 ad::K) _
 rw[<-hK1];have kfo:kQ 1 K1 K1:=by subst hK1;subst hK;exact⟨⟨.head _,KFr.ext zW _⟩,⟨.tail _ (.head _),KFr.cst _ _ _⟩,trivial⟩
 apply zN hc;cbv;let ι:={m:Nat//m<=N/\eH (l.take m)=eH l};let I:ι->St:=λx=>⟨[(0,.sl 0 0 (.n x.1) cap)],[.xi .u32 N f],[]⟩
 let x0:ι:=⟨N,lRf _,by rw[hN,List.take_length]⟩
 refine zU 1 (S':=I x0) (K':=K1) zL kfo trivial ?_;refine bQ hc I (λx=>x.1) x0 100 ?_;rintro p ⟨m,hm,ht⟩ hy;have done:l.take m=eH l->∀X μ a w v S,Sim c K1 S X μ a w->S.hp[0]?=some (.xi .u32 N f)->aD μ (.sl 0 0 (.n m) cap)=some v->R.p v X w:=by
  intro h2 X μ a w v S H hk hv;rw[hRR];refine⟨?_,?_⟩
  rotate_left
  ·have h3:μ 0=some (.ext ad):=H.toP.kf (KF.ext 0 ad) (by rw[hK1];exact .head _)
   obtain⟨a',q1,q2,_⟩:=mE hv;simp only[atS,h3,Option.bind_some,MV.atS,Option.some.injEq]at q1;subst q1;rw[q2,hv0,<-h2];have hm':(IE.n m).den.toNat=(l.take m).length:=by simp[IE.den];omega
   rw[hm'];simp[aPk]
  rw[<-h2];exact H.toP.row hk hv (by simp[IE.den];omega) (λi x hx=>by
   rw[List.getElem?_take]at hx;split at hx
   ·simpa using hf i x hx
   ·cases hx) (by simp;omega) (by simp;omega)
 cbv;refine bV 6 rfl rfl 100 (λh=>?_) (λh=>?_)
 ·have h:0<m:=by simpa[BE.den,IE.den]using h
  obtain⟨q,rfl⟩:∃q,m=q+1:=⟨m - 1,zW⟩;have hq:l[q]?=some l[q]:=zA;have hfq:=hf q _ hq;have htk:l.take (q+1)=l.take q++[l[q]]:=by rw[List.take_add_one,hq];rfl
  cbv;refine aP hc ⟨?_,?_,?_,trivial⟩ ?_
  ·show _/\_;simp only[lo,hi,IE.den];omega
  ·show _/\_;simp only[IE.den];omega
  ·show _<=_;simp only[IE.den,aV];omega
  refine aE rfl 100 (λh3=>?_) (λh3=>?_)
  ·have h3:l[q]=0:=by
    have:=of_decide_eq_true h3
    simp only[IE.den,aV]at this;rw[<-hfq,<-this];congr 1;omega
   cbv;refine aP hc ⟨?_,?_,trivial⟩ ?_
   ·show _/\_;simp only[lo,hi,IE.den];omega
   ·show _/\_;simp only[IE.den];omega
   refine zU 1 (S':=I ⟨q,zW,by rw[<-ht,htk,h3,vM]⟩) (K':=K1) ⟨⟨_,rfl,rfl,λμ=>?_⟩,trivial⟩ kfo trivial (hy _ (Nat.lt_succ_self q));have e:((IE.n (q+1)).sub (IE.l 1)).den=(IE.n q).den:=by simp only[IE.den];omega
   simp only[aD,e]
  ·have h3:l[q]≠0:=by
    intro e;have h4:=of_decide_eq_false h3;refine h4 ?_;simp only[IE.den,aV];rw[<-e,<-hfq];congr 1;omega
   cbv;refine aR hc hR rfl (λX μ a w v H hv=>done ?_ X μ a w v _ H rfl hv);rw[<-ht,htk,aC6 h3]
 ·have h:m=0:=by
   have:=of_decide_eq_false h
   simp only[IE.den]at this;omega
  cbv;refine aR hc hR rfl (λX μ a w v H hv=>done ?_ X μ a w v _ H rfl hv);rw[<-ht,h];rfl
theorem aUe {v:Value}{X:Nat->Prop}{w:World}{l:List Int}(hb:l.length<=2^40)(hX:∀b,X b->b<w.heap.size)(hv:(lX .u32 l).p v X w):Fn PP 264 [v] X w (lX .u32 (eH l)):=
 (aJr hb hX hv).mono λ_ _ _ h=>h.1
theorem aUf {v:Value}{X:Nat->Prop}{w:World}{l:List Int}(hb:l.length<=2^40)(hX:∀b,X b->b<w.heap.size)(hv:(lX .u32 l).p v X w):Fn PP 264 [v] X w (dN (aPk v (eH l).length)):=
 (aJr hb hX hv).mono λ_ _ _ h=>h.2
theorem lF {v:Value}{X:Nat->Prop}{w:World}{l:List Int}(hl:Wd l)(hb:l.length<=2^40)(hX:∀b,X b->b<w.heap.size)(hv:(lX .u32 l).p v X w):Fn PP 264 [v] X w (aJ (val l).toNat):=by
 have:=aUe hb hX hv
 rwa [nX hl]at this
theorem rV:aB PP 264:=zK
theorem aNi (x:Int):Pure PP 302 [.int .u32 x] (.bool false):=by
 refine aRw mixed tok Tryz.func302 rfl (lbl rfl) rfl λc hc hR=>?_;apply zN hc;cbv;exact bR hc hR rfl (by simp[aD,BE.den])
theorem aNh (x:Int):Pure PP 301 [.int .i64 x] (.bool false):=by
 refine aRw mixed tok Tryz.func301 rfl (lbl rfl) rfl λc hc hR=>?_;apply zN hc;cbv;exact bR hc hR rfl (by simp[aD,BE.den])
theorem aD2:aB PP 302:=zK
theorem aD1:aB PP 301:=zK
theorem aOa:aB PP 284:=zK
theorem aN9:aB PP 283:=zK
theorem aVn (x y:Int):Pure PP 284 [.int .u32 x,.int .u32 y] (.int .i64 (bW x y)):=by
 obtain⟨r,hr⟩:=nm (bW x y);rw[<-hr];refine aH mixed tok [.i .u32 (.v x),.i .u32 (.v y)] Tryz.func284 rfl rfl rfl λc hc hR=>?_;apply zN hc;cbv;refine aGp hc (aNi x) aD2 rfl 100 ?_;cbv;refine aGp hc (aNi y) aD2 rfl 100 ?_;cbv;refine aE rfl 100 (λh=>?_) (λh=>?_)<;>cbv
 ·have h:x<y:=of_decide_eq_true h
  exact bR hc hR rfl (by rw[hr];simp[aD,bW,h,IE.den])
 ·have h:¬x<y:=of_decide_eq_false h
  refine aE rfl 100 (λh'=>?_) (λh'=>?_)<;>cbv
  ·have h':y<x:=of_decide_eq_true h'
   exact bR hc hR rfl (by rw[hr];simp[aD,bW,h,h',IE.den])
  ·have h':¬y<x:=of_decide_eq_false h'
   exact bR hc hR rfl (by rw[hr];simp[aD,bW,h,h',IE.den])
theorem aVl (x y:Int):Pure PP 283 [.int .i64 x,.int .i64 y] (.int .i64 (bW x y)):=by
 obtain⟨r,hr⟩:=nm (bW x y);rw[<-hr];refine aH mixed tok [.i .i64 (.v x),.i .i64 (.v y)] Tryz.func283 rfl rfl rfl λc hc hR=>?_;apply zN hc;cbv;refine aGp hc (aNh x) aD1 rfl 100 ?_;cbv;refine aGp hc (aNh y) aD1 rfl 100 ?_;cbv;refine aE rfl 100 (λh=>?_) (λh=>?_)<;>cbv
 ·have h:x<y:=of_decide_eq_true h
  exact bR hc hR rfl (by rw[hr];simp[aD,bW,h,IE.den])
 ·have h:¬x<y:=of_decide_eq_false h
  refine aE rfl 100 (λh'=>?_) (λh'=>?_)<;>cbv
  ·have h':y<x:=of_decide_eq_true h'
   exact bR hc hR rfl (by rw[hr];simp[aD,bW,h,h',IE.den])
  ·have h':¬y<x:=of_decide_eq_false h'
   exact bR hc hR rfl (by rw[hr];simp[aD,bW,h,h',IE.den])
theorem wQ {X:Nat->Prop}{w:World}{x:Int}(hX:∀b,X b->b<w.heap.size)(h0:0<=x)(h1:x<1000000000000000000):Fn PP 262 [.int .u64 x] X w (aJ x.toNat):=by
 obtain⟨R,hRR⟩:=nm (aJ x.toNat);rw[<-hRR];refine bE mixed tok [.i .u64 (.v x)] (K:=[]) Tryz.func262 rfl rfl (lbl rfl) rfl hX (λf hf=>by cases hf) λc hc hR=>?_;apply zN hc;cbv;refine aP hc ⟨?_,?_,?_,?_,?_,trivial⟩ ?_
 ·show _≠_;simp[IE.den]
 ·show _/\_;simp only[lo,hi,IE.den,Int.tmod_eq_emod_of_nonneg h0];omega
 ·show _≠_;simp[IE.den]
 ·show _/\_;simp only[lo,hi,IE.den,Int.tdiv_eq_ediv_of_nonneg h0];omega
 ·show _/\_;simp only[lo,hi,IE.den,Int.tdiv_eq_ediv_of_nonneg h0];omega
 refine yJ 0 .u32 rfl rfl rfl λf hf=>?_;have f0:=hf 0 _ rfl;have f1:=hf 1 _ rfl;have e1:x.tmod 1000000000=x%1000000000:=Int.tmod_eq_emod_of_nonneg h0;have e2:x.tdiv 1000000000=x/1000000000:=Int.tdiv_eq_ediv_of_nonneg h0;simp only[IE.den,e1,e2]at f0 f1;have hl:Wd [x%1000000000,x/1000000000]:=Wd.mk zW (Wd.mk zW Wd.nil);have hv:val [x%1000000000,x/1000000000]=x:=by simp only[val];omega
 cbv;refine dO (R:=R) hc rV (λn0 D X μ a w aK H aI=>?_) 100 ?_
 ·obtain⟨v,rfl,hv'⟩:=aX aI;have h3:=H.row (l:=[x%1000000000,x/1000000000]) rfl hv' rfl (λi y hy=>by
   match i,hy with
   | 0,hy=>simp at hy;subst hy;exact f0
   | 1,hy=>simp at hy;subst hy;exact f1) (lRf _) (lRf _)
  have:=lF hl zA H.xlt h3
  rw[hv]at this;rw[hRR];exact this
 cbv;exact aR hc hR rfl (λX μ a w v H hv=>H.toP.val (k:=1) (.head _) hv)
theorem aQu:aB PP 262:=zK
theorem aEb {n:Nat}(h:0<(aC n).length):(aC n)[0]?=some ((n%1000000000:Nat):Int):=by
 have:n≠0:=λe=>by subst e;simp[bS]at h
 rw[bY this];rfl
theorem aRk {n:Nat}(h:(aC n).length=2):aC n=[((n%1000000000:Nat):Int),((n/1000000000:Nat):Int)]:=by
 have h0:n≠0:=λe=>by subst e;simp[bS]at h
 rw[bY h0,List.length_cons]at h;have h1:n/1000000000≠0:=λe=>by rw[e]at h;simp[bS]at h
 rw[bY h1,List.length_cons]at h;have h2:n/1000000000/1000000000=0:=by
  apply Classical.byContradiction;intro h3;rw[bY h3]at h;simp at h
 rw[bY h0,bY h1,h2,bS];congr 2;omega
def aCx (n:Nat):Value:=.tuple #[.int .u64 (if n<1000000000000000000 then(n:Int)else 0),.bool (decide (n<1000000000000000000))]
theorem vX:aB PP 261:=zK
theorem nT {v:Value}{X:Nat->Prop}{w:World}{n:Nat}(hX:∀b,X b->b<w.heap.size)(hv:(aJ n).p v X w):Fn PP 261 [v] X w (dN (aCx n)):=by
 obtain⟨R,hRR⟩:=nm (dN (aCx n));obtain⟨K,hK⟩:=nm ([KF.cst v (aJ n)]);rw[<-hRR];refine bE mixed tok [.q v] (K:=K) Tryz.func261 rfl rfl (lbl rfl) rfl hX (by subst hK;simp;exact hv) λc hc hR=>?_;refine cV 0 .u32 (aC n) rfl rfl (λX μ a w v' H hv'=>bZ H (by simp[hK]) hv') λf N cap hN hf cR=>?_;apply zN hc;cbv;refine aE rfl 100 (λh=>?_) (λh=>?_)
 ·have h:N=0:=by have:=of_decide_eq_true h;simp only[IE.den]at this;omega
  have hn:n=0:=by
   apply Classical.byContradiction;intro e;rw[bY e]at hN;simp at hN;omega
  cbv;refine aR hc hR rfl (λX μ a w v H hv=>?_);simp only[aD,aF,Option.some.injEq]at hv;rw[hRR,<-hv,hn];rfl
 ·have h:N≠0:=by have:=of_decide_eq_false h;simp only[IE.den]at this;omega
  cbv;refine aE rfl 100 (λh1=>?_) (λh1=>?_)
  ·have h1:N=1:=by have:=of_decide_eq_true h1;simp only[IE.den]at this;omega
   have f0:f 0=(n:Int)%1000000000:=(hf 0 _ (aEb zW)).trans zA
   have hlt:n<1000000000:=by have:=aT (n:=n) (k:=1) zW;simpa using this
   have hz:(n:Int)<1000000000:=Int.ofNat_lt.2 hlt
   have hz0:(0:Int)<=(n:Int):=Int.natCast_nonneg n
   cbv;refine aP hc ⟨?_,?_,?_,trivial⟩ ?_
   ·show _/\_;simp only[IE.den];omega
   ·show _<=_;simp only[IE.den,aV];omega
   ·show _/\_;simp only[lo,hi,IE.den,aV];simp only[Nat.zero_add,Int.toNat_zero,Nat.zero_mul];rw[f0];omega
   refine aR hc hR rfl (λX μ a w v H hv=>?_);simp only[aD,aF,Option.some.injEq]at hv;rw[hRR,<-hv];show _=_
   simp only[IE.den,aV,Nat.zero_add,Int.toNat_zero,Nat.zero_mul,BE.den,aCx];rw[f0,if_pos zW];congr 3
   ·congr 1;exact Int.emod_eq_of_lt hz0 hz
   ·simp;omega
  ·have h1:N≠1:=by have:=of_decide_eq_false h1;simp only[IE.den]at this;omega
   cbv;refine aE rfl 100 (λh2=>?_) (λh2=>?_)
   ·have h2:N=2:=by have:=of_decide_eq_true h2;simp only[IE.den]at this;omega
    have hd:=aRk (n:=n) zW
    have f0:f 0=(n:Int)%1000000000:=(hf 0 _ (by rw[hd];rfl)).trans zA
    have f1:f 1=(n:Int)/1000000000:=(hf 1 _ (by rw[hd];rfl)).trans zA
    have hlt:n<1000000000000000000:=by have:=aT (n:=n) (k:=2) zW;simpa using this
    have hz:(n:Int)<1000000000000000000:=Int.ofNat_lt.2 hlt
    have hz0:(0:Int)<=(n:Int):=Int.natCast_nonneg n
    cbv;refine aP hc ⟨?_,?_,?_,?_,?_,?_,?_,?_,trivial⟩ ?_
    ·show _/\_;simp only[IE.den];omega
    ·show _<=_;simp only[IE.den,aV];omega
    ·show _/\_;simp only[lo,hi,IE.den,aV];simp only[Nat.zero_add,Int.toNat_zero,Nat.zero_mul];rw[f0];omega
    ·show _/\_;simp only[IE.den];omega
    ·show _<=_;simp only[IE.den,aV];omega
    ·show _/\_;simp only[lo,hi,IE.den,aV];simp only[Nat.add_zero,Int.toNat_zero,Nat.zero_mul];rw[f1];omega
    ·show _/\_;simp only[lo,hi,IE.den,aV];simp only[Nat.add_zero,Int.toNat_zero,Nat.zero_mul];rw[f1];omega
    ·show _/\_;simp only[lo,hi,IE.den,aV];simp only[Nat.add_zero,Int.toNat_zero,Nat.zero_mul];rw[f0,f1];omega
    refine zE ?_;cbv;refine aR hc hR rfl (λX μ a w v H hv=>?_);simp only[aD,aF,Option.some.injEq]at hv;rw[hRR,<-hv];show _=_
    simp only[IE.den,aV,Nat.add_zero,Int.toNat_zero,Nat.zero_mul,BE.den,aCx];rw[f0,f1,if_pos hlt];congr 3
    ·congr 1;exact Int.emod_add_mul_ediv n 1000000000
    ·simp[hlt]
   ·have h2:N≠2:=by have:=of_decide_eq_false h2;simp only[IE.den]at this;omega
    have hge:¬n<1000000000000000000:=λhlt=>by
     have:=bM (n:=n) (k:=2) (by simpa using hlt)
     omega
    cbv;refine aR hc hR rfl (λX μ a w v H hv=>?_);simp only[aD,aF,Option.some.injEq]at hv;rw[hRR,<-hv];show _=_
    simp only[aCx,if_neg hge,hge,decide_false,IE.den,BE.den];rfl
theorem xQ:aB PP 266:=zK
theorem pY {v u:Value}{X:Nat->Prop}{w:World}{n m:Nat}(hbn:(aC n).length<=2^40)(hbm:(aC m).length<=2^40)(hX:∀b,X b->b<w.heap.size)(hv:(aJ n).p v X w)(hu:(aJ m).p u X w):
  Fn PP 266 [v,u] X w (dN (.int .i64 (bW n m))):=by
 obtain⟨R,hRR⟩:=nm (dN (.int .i64 (bW n m)));obtain⟨K,hK⟩:=nm ([KF.cst v (aJ n),KF.cst u (aJ m)]);rw[<-hRR];have kH:∀{av:AV} {z:Int} {X μ v w},aD μ av=some v->(aD μ av=some (.int .i64 z))->z=bW n m->R.p v X w:=by
  intro av z X μ v w h1 h2 h3;rw[h2]at h1;injection h1 with h1
  rw[hRR,<-h1,h3];rfl
 refine bE mixed tok [.q v,.q u] (K:=K) Tryz.func266 rfl rfl (lbl rfl) rfl hX (by subst hK;simp;exact⟨hv,hu⟩) λc hc hR=>?_;refine cV 0 .u32 (aC n) rfl rfl (λX μ a w v' H hv'=>bZ H (by simp[hK]) hv') λf N cap hN hf cR=>?_;refine cV 1 .u32 (aC m) rfl rfl (λX μ a w v' H hv'=>bZ H (by simp[hK]) hv') λf' M aS hM hf' gO=>?_;apply zN hc;cbv;refine aE rfl 100 (λh=>?_) (λh=>?_)
 ·have h:(N:Int)≠(M:Int):=BE.eq_f (BE.not_t h)
  have h:(aC n).length≠(aC m).length:=zW
  cbv;obtain⟨z,hz⟩:=nm (bW N M);have hp:=aVl N M;rw[<-hz]at hp;refine zC (.i .i64 (.v z)) hp aN9 ?_;cbv;refine aR hc hR rfl (λX μ a w v H hv=>kH hv rfl ?_);rw[hz,hN,hM];exact aHs h
 ·have h:(N:Int)=(M:Int):=BE.eq_t (BE.not_f h)
  have h:M=N:=zW
  subst h;cbv;refine aP hc ⟨?_,trivial⟩ ?_
  ·show _/\_;simp only[lo,hi,IE.den];omega
  let ι:={k:Nat//k<=M/\(aC n).drop k=(aC m).drop k}
  let I:ι->St:=λx=>⟨[(0,.sl 0 0 (.n M) cap),(1,.sl 1 0 (.n M) aS),(5,.i .i64 (.sub (.n x.1) (.l 1)))],[.xi .u32 M f,.xi .u32 M f'],[]⟩
  let x0:ι:=⟨M,lRf _,by rw[List.drop_of_length_le zW,List.drop_of_length_le zW]⟩
  refine zU 2 (S':=I x0) (K':=K) zL (by subst hK;exact⟨⟨.head _,KFr.cst _ _ _⟩,⟨.tail _ (.head _),KFr.cst _ _ _⟩,trivial⟩) trivial ?_;refine bQ hc I (λx=>x.1) x0 100 ?_;rintro p ⟨k,hk,hd⟩ hy;cbv;refine aE rfl 100 (λh=>?_) (λh=>?_)
  ·have h:(0:Int)<=(k:Int) - 1:=BE.le_t h
   obtain⟨q,rfl⟩:∃q,k=q+1:=⟨k - 1,zW⟩;have hq:q<(aC n).length:=zW;have hq':q<(aC m).length:=zW;have gq:=hf q (aC n)[q] zA;have gq':=hf' q (aC m)[q] zA;have hwn:=bF n (aC n)[q] (List.getElem_mem _);have hwm:=bF m (aC m)[q] (List.getElem_mem _);have hix:aV 0 ((IE.n (q+1)).sub (IE.l 1)).den 1 0=q:=by simp only[aV,IE.den];omega
   cbv;have o1:(Obl.ltE ((IE.n (q+1)).sub (IE.l 1)) (IE.n M)).ok:=by show _/\_;simp only[IE.den];omega
   have o2:(Obl.ix 0 ((IE.n (q+1)).sub (IE.l 1)) 1 0 1 M).ok:=by show _<=_;rw[hix];omega
   refine aP hc ⟨o1,o2,o1,o2,trivial⟩ ?_;refine zE ?_;cbv;refine aE rfl 100 (λh=>?_) (λh=>?_)
   ·have h:f (aV 0 ((IE.n (q+1)).sub (IE.l 1)).den 1 0)≠f' (aV 0 ((IE.n (q+1)).sub (IE.l 1)).den 1 0):=BE.eq_f (BE.not_t h)
    rw[hix,gq,gq']at h;cbv;refine aP hc ⟨o1,o2,o1,o2,trivial⟩ ?_;obtain⟨z,hz⟩:=nm (bW (f q) (f' q));have hp:=aVn (f q) (f' q);rw[<-hz]at hp;have e1:aF iN [.i .u32 (.fn f 0 ((IE.n (q+1)).sub (IE.l 1)) 1 0),.i .u32 (.fn f' 0 ((IE.n (q+1)).sub (IE.l 1)) 1 0)]=some [.int .u32 (f q),.int .u32 (f' q)]:=by
     show some [Value.int .u32 (f (aV 0 ((IE.n (q+1)).sub (IE.l 1)).den 1 0)),Value.int .u32 (f' (aV 0 ((IE.n (q+1)).sub (IE.l 1)).den 1 0))]=_
     rw[hix]
    refine eF hc (.i .i64 (.v z)) hp aOa e1 100 ?_;cbv;refine zE ?_;cbv;refine aR hc hR rfl (λX μ a w v H hv=>kH hv rfl ?_);rw[hz,gq,gq',aHt (bF n) (bF m) (List.getElem?_eq_getElem hq) (List.getElem?_eq_getElem hq') hd h,cQ,cQ];rfl
   ·have h:f (aV 0 ((IE.n (q+1)).sub (IE.l 1)).den 1 0)=f' (aV 0 ((IE.n (q+1)).sub (IE.l 1)).den 1 0):=BE.eq_t (BE.not_f h)
    rw[hix,gq,gq']at h;cbv;refine aP hc ⟨?_,trivial⟩ ?_
    ·show _/\_;simp only[lo,hi,IE.den];omega
    refine zU 2 (S':=I ⟨q,zW,by rw[List.drop_eq_getElem_cons hq,List.drop_eq_getElem_cons hq',hd,h]⟩) (K':=K) ⟨zS,zS,⟨_,rfl,rfl,λμ=>?_⟩,trivial⟩ (by subst hK;exact⟨⟨.head _,KFr.cst _ _ _⟩,⟨.tail _ (.head _),KFr.cst _ _ _⟩,trivial⟩) trivial (hy _ (Nat.lt_succ_self q));have e:(((IE.n (q+1)).sub (IE.l 1)).sub (IE.l 1)).den=((IE.n q).sub (IE.l 1)).den:=by simp only[IE.den];omega
    simp only[aD,e]
  ·have h:¬(0:Int)<=(k:Int) - 1:=BE.le_f h
   have h0:k=0:=zW
   subst h0;cbv;refine aR hc hR rfl (λX μ a w v H hv=>kH hv rfl ?_);have:n=m:=aH2 (by simpa using hd);subst this;simp[bW,IE.den]
theorem cF:(PP.info? 138).map (·.bytes)=some 4:=zG
theorem aMj:aB PP 282:=zK
def aGf (n m:Nat)(s:Int):VF where
 p v X w:=∃l,Wd l/\val l=n+s*m/\l.length<=max (aC n).length (aC m).length+1/\(s=1->l=aC (n+m))/\(lX .u32 l).p v X w
 st v X X' w w' h1 h2 h:=by
  obtain⟨l,q1,q2,q3,q4,q5⟩:=h;exact⟨l,q1,q2,q3,q4,(lX .u32 l).st v X X' w w' h1 h2 q5⟩
theorem aCg {v u:Value}{X:Nat->Prop}{w:World}{n m:Nat}{s:Int}(hs:s=1\/s=-1)(h0:0<=(n:Int)+s*m)(hbn:(aC n).length<=2^40)(hbm:(aC m).length<=2^40)(hX:∀b,X b->b<w.heap.size)(hv:(aJ n).p v X w)(hu:(aJ m).p u X w):
  Fn PP 282 [v,u,.int .i64 s] X w (aGf n m s):=by
 obtain⟨R,hRR⟩:=nm (aGf n m s);obtain⟨K,hK⟩:=nm ([KF.cst v (aJ n),KF.cst u (aJ m)]);rw[<-hRR];refine bE mixed tok [.q v,.q u,.i .i64 (.v s)] (K:=K) Tryz.func282 rfl rfl (lbl rfl) rfl hX (by subst hK;simp;exact⟨hv,hu⟩) λc hc hR=>?_;refine cV 0 .u32 (aC n) rfl rfl (λX μ a w v' H hv'=>bZ H (by simp[hK]) hv') λf N cap hN hf cR=>?_;refine cV 1 .u32 (aC m) rfl rfl (λX μ a w v' H hv'=>bZ H (by simp[hK]) hv') λf' M aS hM hf' gO=>?_;have hfw:∀i,i<N->f i=(aC n).getD i 0:=λi hi=>by
  have:=List.getElem?_eq_getElem (l:=aC n) (i:=i) zW
  rw[hf i _ this,List.getD_eq_getElem?_getD,this];rfl
 have aB6:∀i,i<M->f' i=(aC m).getD i 0:=λi hi=>by
  have:=List.getElem?_eq_getElem (l:=aC m) (i:=i) zW
  rw[hf' i _ this,List.getD_eq_getElem?_getD,this];rfl
 have hge:∀i,N<=i->(aC n).getD i 0=0:=λi hi=>by rw[List.getD_eq_getElem?_getD,List.getElem?_eq_none zW];rfl
 have aSc:∀i,M<=i->(aC m).getD i 0=0:=λi hi=>by rw[List.getD_eq_getElem?_getD,List.getElem?_eq_none zW];rfl
 apply zN hc;cbv;refine aP hc ⟨?_,trivial⟩ ?_
 ·show _/\_;simp only[lo,hi,IE.den];omega
 obtain⟨G,hG⟩:∃G:Option Addr->Nat->Nat->List Int->OF,∀a n cap l,G a n cap l=OF.row (.slice a n cap) c.B.heap.size 138 .u32 l:=⟨λa n cap l=>OF.row (.slice a n cap) c.B.heap.size 138 .u32 l,λ_ _ _ _=>rfl⟩;refine aW2 hc _ rfl rfl rfl (kd:=.u32) hG rfl rfl rfl rfl rfl rfl cF ?_ ?_ ?_ (λa0 cap0=>?_)
 ·simp only[IE.den];omega
 ·simp only[IE.den];omega
 ·simp only[IE.den];omega
 apply zN hc;cbv;obtain⟨L,hL⟩:=nm (max N M);have hL':L=max (aC n).length (aC m).length:=by rw[hL,hN,hM]
 have hLb:L<=2^40:=zW
 let ι:={x:Nat × Option Addr × Nat × List Int × Int//Mrg n m s x.1 x.2.2.2.1 x.2.2.2.2/\x.1<=L}
 let I:ι->St:=λx=>⟨[(0,.sl 0 0 (.n N) cap),(1,.sl 1 0 (.n M) aS),(2,.i .i64 (.v s)),(7,.xs x.1.2.1 x.1.1 x.1.2.2.1),(8,.i .i64 (.v x.1.2.2.2.2)),(19,.i .i64 (.n L)),(20,.i .i64 (.n x.1.1))],[.xi .u32 N f,.xi .u32 M f'],[G x.1.2.1 x.1.1 x.1.2.2.1 x.1.2.2.2.1]⟩
 let x0:ι:=⟨(0,a0,cap0,[],0),Mrg.init hs,Nat.zero_le _⟩
 refine zU 2 (S':=I x0) (K':=K) ⟨zS,zS,zS,zS,zS,⟨_,rfl,rfl,λμ=>?_⟩,zL⟩ (by subst hK;exact⟨⟨.head _,KFr.cst _ _ _⟩,⟨.tail _ (.head _),KFr.cst _ _ _⟩,trivial⟩) ⟨by rw[hG];exact OFr.row _ _ _ _ _ _,trivial⟩ ?_
 ·have e:((IE.n N).max (IE.n M)).den=(IE.n L).den:=by simp only[IE.den,hL];omega
  show some (Value.int .i64 ((IE.n N).max (IE.n M)).den)=some (Value.int .i64 (IE.n L).den)
  rw[e]
 refine bQ hc I (λx=>L - x.1.1) x0 100 ?_;rintro p ⟨⟨i,a,cp,out,cr⟩,hM',hi⟩ hy;have hcr:=hM'.c;have hlen:=hM'.len;simp only at hM' hi hcr hlen;cbv;refine aE rfl 100 (λh=>?_) (λh=>?_)
 ·have h:(i:Int)<(L:Int):=BE.lt_t h
  have hiL:i<L:=zW
  have hga:=bA (bF n) i
  have hgb:=bA (bF m) i
  obtain⟨ga,gW⟩:=nm ((aC n).getD i 0);obtain⟨gb,lQ⟩:=nm ((aC m).getD i 0);rw[<-gW]at hga;rw[<-lQ]at hgb;obtain⟨x1,hx1⟩:=nm (cr+ga);obtain⟨x2,hx2⟩:=nm (x1+s*gb);have hix:aV 0 (IE.n i).den 1 0=i:=by simp only[aV,IE.den];omega
  have aDj:x2=cr+(aC n).getD i 0+s*(aC m).getD i 0:=by rw[hx2,hx1,gW,lQ]
  have b1:-1<=x1/\x1<=1000000000:=zW
  have b2:-1000000000<=x2/\x2<=2000000000:=by rcases hs with e | e<;>subst e<;>omega
  have b3:-1000000000<=s*gb/\s*gb<=1000000000:=by rcases hs with e | e<;>subst e<;>omega
  let T:List (Nat × AV)->Int->St:=λl z=>⟨l++[(0,.sl 0 0 (.n N) cap),(1,.sl 1 0 (.n M) aS),(2,.i .i64 (.v s)),(7,.xs a i cp),(9,.i .i64 (.n i)),(8,.i .i64 (.v z)),(19,.i .i64 (.n L)),(20,.i .i64 (.n i))],[.xi .u32 N f,.xi .u32 M f'],[G a i cp out]⟩
  obtain⟨w0,hw0⟩:=nm (x2%1000000000);obtain⟨c0,hc0⟩:=nm (x2/1000000000);have kf:kQ 2 K K:=by subst hK;exact⟨⟨.head _,KFr.cst _ _ _⟩,⟨.tail _ (.head _),KFr.cst _ _ _⟩,trivial⟩
  have kof:∀a i cp out,aA9 2 [G a i cp out]:=λa i cp out=>⟨by rw[hG];exact OFr.row _ _ _ _ _ _,trivial⟩
  have bHo:cr+ga=x1:=hx1.symm
  have cJ:=hM'.step aDj
  rw[<-hw0,<-hc0]at cJ;have bHn:0<=w0/\w0<1000000000:=zW;have bHf:-1<=c0/\c0<=2:=zW;have o1:i<N->(Obl.ltE (IE.n i) (IE.n N)).ok:=λh=>by show _/\_;simp only[IE.den];omega
  have o2:i<N->(Obl.ix 0 (IE.n i) 1 0 1 N).ok:=λh=>by show _<=_;rw[hix];omega
  have o1':i<M->(Obl.ltE (IE.n i) (IE.n M)).ok:=λh=>by show _/\_;simp only[IE.den];omega
  have o2':i<M->(Obl.ix 0 (IE.n i) 1 0 1 M).ok:=λh=>by show _<=_;rw[hix];omega
  have g1:i<N->(IE.fn f 0 (IE.n i) 1 0).den=ga:=λh=>by show f (aV 0 (IE.n i).den 1 0)=ga;rw[hix,hfw i h,gW]
  have g2:i<M->(IE.fn f' 0 (IE.n i) 1 0).den=gb:=λh=>by show f' (aV 0 (IE.n i).den 1 0)=gb;rw[hix,aB6 i h,lQ]
  have cS:∀(e:IE) (z:Int),e.den=z->-9223372036854775808<=z/\z<=9223372036854775807->(Obl.inR .i64 e).ok:=λe z he hz=>by show _/\_;rw[he];exact hz
  have s1:i<N->(IE.add (IE.v cr) (IE.fn f 0 (IE.n i) 1 0)).den=x1:=λh=>by show cr+(IE.fn f 0 (IE.n i) 1 0).den=x1;rw[g1 h,hx1]
  have m1:i<M->(IE.mul (IE.v s) (IE.fn f' 0 (IE.n i) 1 0)).den=s*gb:=λh=>by show s*(IE.fn f' 0 (IE.n i) 1 0).den=_;rw[g2 h]
  have s2:i<M->(IE.add (IE.v x1) (IE.mul (IE.v s) (IE.fn f' 0 (IE.n i) 1 0))).den=x2:=λh=>by show x1+(IE.mul (IE.v s) (IE.fn f' 0 (IE.n i) 1 0)).den=x2;rw[m1 h,hx2]
  have z1:¬i<N->cr=x1:=λh=>by rw[hx1,gW,hge i zW];omega
  have z2:¬i<M->x1=x2:=λh=>by rw[hx2,lQ,aSc i zW];omega
  have q1:-9223372036854775808<=ga/\ga<=9223372036854775807:=zW
  have q2:-9223372036854775808<=gb/\gb<=9223372036854775807:=zW
  have q3:-9223372036854775808<=x1/\x1<=9223372036854775807:=zW
  have q4:-9223372036854775808<=x2/\x2<=9223372036854775807:=zW
  have q5:-9223372036854775808<=s*gb/\s*gb<=9223372036854775807:=zW
  have q6:-9223372036854775808<=(i:Int)+1/\(i:Int)+1<=9223372036854775807:=zW
  have q7:-9223372036854775808<=x2.tdiv 1000000000/\x2.tdiv 1000000000<=9223372036854775807/\-9223372036854775808<=x2.tmod 1000000000+1000000000/\x2.tmod 1000000000+1000000000<=9223372036854775807/\-9223372036854775808<=x2.tdiv 1000000000 - 1/\x2.tdiv 1000000000 - 1<=9223372036854775807:=by
   by_cases hq:x2.tmod 1000000000<0
   ·have:=tmod_neg hq;omega
   ·have:=aJq hq;omega
  have q8:(0:Int)<=w0/\w0<=4294967295:=zW
  have hlb:(out.length+1)*4<=140737488355328:=zW
  have pI:out.length+1<=9223372036854775807:=zW
  have aF8:out.length+1<=L:=zW
  have hms:∀n',n'=out.length+1->L - n'<L - i:=λn' h=>zW
  have hin:∀n',n'=out.length+1->(i:Int)+1=(n':Int):=λn' h=>zW
  have hni:out.length+1=i+1:=zW
  cbv;refine bBc hc (T [] x1) rfl rfl 100 (λr h hr=>?_) (λr h hr=>?_) ?_
  ·have h:(i:Int)<(N:Int):=BE.lt_t h
   have h:i<N:=Int.ofNat_lt.1 h
   have e1:=s1 h
   have e2:=cS _ _ (g1 h) q1
   have e3:=cS _ _ e1 q3
   have e4:=o1 h
   have e5:=o2 h
   cbv;refine aP hc ⟨e4,e5,e2,e3,trivial⟩ ?_;refine zU 2 (S':=T [] x1) (K':=K) ⟨zS,zS,zS,zS,zS,zI rfl rfl e1,zL⟩ kf (kof _ _ _ _) hr
  ·have h:¬(i:Int)<(N:Int):=BE.lt_f h
   have h:¬i<N:=λh'=>h (Int.ofNat_lt.2 h')
   have e1:=z1 h
   cbv;refine zU 2 (S':=T [] x1) (K':=K) ⟨zS,zS,zS,zS,zS,zI rfl rfl e1,zL⟩ kf (kof _ _ _ _) hr
  apply zN hc;cbv;refine bBc hc (T [] x2) rfl rfl 100 (λr h hr=>?_) (λr h hr=>?_) ?_
  ·have h:(i:Int)<(M:Int):=BE.lt_t h
   have h:i<M:=Int.ofNat_lt.1 h
   have e1:=s2 h
   have e2:=cS _ _ (g2 h) q2
   have e3:=cS _ _ e1 q4
   have e4:=o1' h
   have e5:=o2' h
   have e6:=cS _ _ (m1 h) q5
   cbv;refine aP hc ⟨e4,e5,e2,e6,e3,trivial⟩ ?_;refine zU 2 (S':=T [] x2) (K':=K) ⟨zS,zS,zS,zS,zS,zI rfl rfl e1,zL⟩ kf (kof _ _ _ _) hr
  ·have h:¬(i:Int)<(M:Int):=BE.lt_f h
   have h:¬i<M:=λh'=>h (Int.ofNat_lt.2 h')
   have e1:=z2 h
   cbv;refine zU 2 (S':=T [] x2) (K':=K) ⟨zS,zS,zS,zS,zS,zI rfl rfl e1,zL⟩ kf (kof _ _ _ _) hr
  apply zN hc;cbv;have nz:(Obl.nz (IE.l 1000000000)).ok:=by show _≠_;simp[IE.den]
  refine aP hc ⟨nz,nz,⟨q7.1,q7.2.1⟩,trivial⟩ ?_;refine bBc hc (T [(10,.i .i64 (.v w0))] c0) rfl rfl 100 (λr h hr=>?_) (λr h hr=>?_) ?_
  ·have h:x2.tmod 1000000000<0:=BE.lt_t h
   obtain⟨h1,h2⟩:=tmod_neg h;rw[<-hw0]at h1;rw[<-hc0]at h2;cbv;refine aP hc ⟨⟨q7.2.2.1,q7.2.2.2.1⟩,⟨q7.2.2.2.2.1,q7.2.2.2.2.2⟩,trivial⟩ ?_;refine zU 2 (S':=T [(10,.i .i64 (.v w0))] c0) (K':=K) ⟨zI rfl rfl h1,zS,zS,zS,zS,zS,zI rfl rfl h2,zL⟩ kf (kof _ _ _ _) hr
  ·have h:¬x2.tmod 1000000000<0:=BE.lt_f h
   obtain⟨h1,h2⟩:=aJq h;rw[<-hw0]at h1;rw[<-hc0]at h2;cbv;refine zU 2 (S':=T [(10,.i .i64 (.v w0))] c0) (K':=K) ⟨zI rfl rfl h1,zS,zS,zS,zS,zS,zI rfl rfl h2,zL⟩ kf (kof _ _ _ _) hr
  apply zN hc;cbv;refine aP hc ⟨q8,trivial⟩ ?_;refine eX hc _ rfl rfl rfl hG rfl rfl rfl rfl rfl rfl rfl rfl rfl cF hlb pI (λa' n' aS l' hn' hl'=>?_);apply zN hc;cbv;refine aP hc ⟨q6,trivial⟩ ?_;refine eO 2 (S':=I ⟨(n',a',aS,l',c0),by rw[hn',hl',hni];exact cJ,by rw[hn'];exact aF8⟩) (K':=K) rfl rfl (Nat.le_succ 2) rfl rfl ⟨zS,zS,zS,zS,zS,zS,zI rfl rfl (hin n' hn'),trivial⟩ kf (kof _ _ _ _) (hy _ (hms n' hn'))
 ·have h:¬(i:Int)<(L:Int):=BE.lt_f h
  have hiL:i=L:=zW
  obtain⟨d1,d2,d3,d4⟩:=hM'.done (hiL.trans hL') h0;have hlb:(out.length+1)*4<=140737488355328:=zW;have pI:out.length+1<=9223372036854775807:=zW;have q8:0<cr->(0:Int)<=cr/\cr<=4294967295:=λh=>by have:=(d3 h).1;omega
  have hw1:0<cr->Wd (out++[cr]):=λh=>hM'.wd.append (Wd.mk ⟨d1,(d3 h).1⟩ Wd.nil)
  have bDh:out.length<=max (aC n).length (aC m).length+1:=zW
  have aSk:(out++[cr]).length<=max (aC n).length (aC m).length+1:=by simp;omega
  cbv;refine aE rfl 100 (λh=>?_) (λh=>?_)
  ·have h:0<cr:=BE.lt_t h
   have h8:=q8 h
   cbv;refine aP hc ⟨h8,trivial⟩ ?_;refine eX hc _ rfl rfl rfl hG rfl rfl rfl rfl rfl rfl rfl rfl rfl cF hlb pI (λa' n' aS l' hn' hl'=>?_);apply zN hc;cbv;refine mZ (hG _ _ _ _) ?_;refine aR hc hR rfl (λX μ a w v H hv=>?_);injection hv with hv
   have hl':l'=out++[cr]:=hl'
   rw[hRR,<-hv];refine⟨l',by rw[hl'];exact hw1 h,by rw[hl'];exact(d3 h).2,by rw[hl'];exact aSk,λe=>by rw[hl'];exact(d4 e).2 h,H.toP.cst (.head _)⟩
  ·have h:¬0<cr:=BE.lt_f h
   have h:cr=0:=zW
   cbv;refine mZ (hG _ _ _ _) ?_;refine aR hc hR rfl (λX μ a w v H hv=>?_);injection hv with hv
   rw[hRR,<-hv];exact⟨out,hM'.wd,d2 h,bDh,λe=>(d4 e).1 h,H.toP.cst (.head _)⟩
theorem aY0:aB PP 265:=zK
theorem aVa:aB PP 267:=zK
theorem aPd {v u:Value}{X:Nat->Prop}{w:World}{n m:Nat}(hbn:(aC n).length<=2^40)(hbm:(aC m).length<=2^40)(hX:∀b,X b->b<w.heap.size)(hv:(aJ n).p v X w)(hu:(aJ m).p u X w):
  Fn PP 265 [v,u] X w (aJ (n+m)):=by
 obtain⟨R,hRR⟩:=nm (aJ (n+m));obtain⟨R1,hR1⟩:∃R,R=aGf n m 1:=⟨_,rfl⟩;obtain⟨K,hK⟩:=nm ([KF.cst v (aJ n),KF.cst u (aJ m)]);rw[<-hRR];refine bE mixed tok [.q v,.q u] (K:=K) Tryz.func265 rfl rfl (lbl rfl) rfl hX (by subst hK;simp;exact⟨hv,hu⟩) λc hc hR=>?_;apply zN hc;cbv;refine dO (R:=R1) hc aMj (λn0 D X μ a w aK H aI=>?_) 100 ?_
 ·obtain⟨v1,v2,v3,rfl,h1,h2,h3⟩:=eS aI;injection h1 with h1;injection h2 with h2;injection h3 with h3
  subst h1;subst h2;subst h3;rw[hR1];exact aCg (s:=1) (.inl rfl) zW hbn hbm H.xlt (H.cst (by simp[hK])) (H.cst (by simp[hK]))
 cbv;refine aR hc hR rfl (λX μ a w v H hv=>?_);have:=H.toP.val (k:=0) (R:=R1) (.head _) hv;rw[hR1]at this;obtain⟨l,q1,q2,q3,q4,q5⟩:=this;rw[hRR,<-q4 rfl];exact q5
theorem aK8 {v u:Value}{X:Nat->Prop}{w:World}{n m:Nat}(hnm:m<=n)(hbn:(aC n).length<2^40)(hbm:(aC m).length<2^40)(hX:∀b,X b->b<w.heap.size)(hv:(aJ n).p v X w)(hu:(aJ m).p u X w):
  Fn PP 267 [v,u] X w (aJ (n - m)):=by
 obtain⟨R,hRR⟩:=nm (aJ (n - m));obtain⟨R1,hR1⟩:∃R,R=aGf n m (-1):=⟨_,rfl⟩;obtain⟨K,hK⟩:=nm ([KF.cst v (aJ n),KF.cst u (aJ m)]);rw[<-hRR];refine bE mixed tok [.q v,.q u] (K:=K) Tryz.func267 rfl rfl (lbl rfl) rfl hX (by subst hK;simp;exact⟨hv,hu⟩) λc hc hR=>?_;apply zN hc;cbv;refine dO (R:=R1) hc aMj (λn0 D X μ a w aK H aI=>?_) 100 ?_
 ·obtain⟨v1,v2,v3,rfl,h1,h2,h3⟩:=eS aI;injection h1 with h1;injection h2 with h2;injection h3 with h3
  subst h1;subst h2;subst h3;rw[hR1];exact aCg (s:=-1) (.inr rfl) zW zW zW H.xlt (H.cst (by simp[hK])) (H.cst (by simp[hK]))
 cbv;refine dO (R:=R) hc rV (λn0 D X μ a w aK H aI=>?_) 100 ?_
 ·obtain⟨v1,rfl,h1⟩:=aX aI;have:=H.val (k:=0) (R:=R1) (.head _) h1;rw[hR1]at this;obtain⟨l,q1,q2,q3,q4,q5⟩:=this;have e:(val l).toNat=n - m:=zW;rw[hRR,<-e];exact lF q1 zW H.xlt q5
 cbv;exact aR hc hR rfl (λX μ a w v H hv=>H.toP.val (k:=1) (R:=R) (.head _) hv)
end Go.Ai
