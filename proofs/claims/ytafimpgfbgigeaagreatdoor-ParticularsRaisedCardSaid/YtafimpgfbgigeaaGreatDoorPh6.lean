/- Part 7: lemmas for the particulars laws -/
import Derived.Test.YtafimpgfbgigeaaGreatDoorPh5
set_option linter.all false
namespace Go.Num
def aC (n:Nat):List Int:=if n=0 then []else((n%1000000000:Nat):Int)::aC (n/1000000000)
decreasing_by omega
def val:List Int->Int
 | []=>0
 | x::l=>x+1000000000*val l
def Wd (l:List Int):Prop:=∀x,x∈l->0<=x/\x<1000000000
def fA:List Int->List Int
 | []=>[]
 | x::l=>match fA l with
  | []=>if x=0 then []else [x]
  | y::ys=>x::y::ys
theorem wQ:∀(l:List Int),fA (l++[0])=fA l
 | []=>rfl
 | x::l=>by simp only[List.cons_append,fA,wQ l]
theorem aEi {x:Int}(hx:x≠0):∀(l:List Int),fA (l++[x])=l++[x]
 | []=>by simp[fA,hx]
 | y::l=>by
  simp only[List.cons_append,fA,aEi hx l];cases l<;>rfl
theorem Wd.cons {x:Int}{l:List Int}(h:Wd (x::l)):(0<=x/\x<1000000000)/\Wd l:=⟨h x (.head _),λy hy=>h y (.tail _ hy)⟩
theorem Wd.nil:Wd []:=λx h=>by cases h
theorem Wd.mk {x:Int}{l:List Int}(h:0<=x/\x<1000000000)(hl:Wd l):Wd (x::l):=λy hy=>by
 rcases List.mem_cons.1 hy with e | e
 ·subst e;exact h
 ·exact hl y e
theorem Wd.append {l m:List Int}(h:Wd l)(h':Wd m):Wd (l++m):=λx hx=>(List.mem_append.1 hx).elim (h x) (h' x)
theorem cL:∀{l:List Int},Wd l->0<=val l
 | [],_=>Int.le_refl _
 | x::l,h=>by have:=cL h.cons.2;have:=h.cons.1.1;simp only[val];omega
theorem bV:aC 0=[]:=by rw[aC];rfl
theorem bZ {n:Nat}(h:n≠0):aC n=((n%1000000000:Nat):Int)::aC (n/1000000000):=by rw[aC];simp[h]
theorem oV:∀{l:List Int},Wd l->fA l=aC (val l).toNat
 | [],_=>by simp[fA,val,bV]
 | x::l,h=>by
  obtain⟨hx,hl⟩:=h.cons;have hv:=cL hl;have ih:=oV hl;simp only[fA,val,ih];by_cases h0:val l=0
  ·rw[h0];simp only[Int.toNat_zero,bV];by_cases hx0:x=0
   ·simp[hx0,bV]
   ·rw[if_neg hx0,bZ zW];have e1:(x+1000000000*0).toNat%1000000000=x.toNat:=zW;have e2:(x+1000000000*0).toNat/1000000000=0:=zW;rw[e1,e2,bV];congr 1;omega
  ·have h1:(val l).toNat≠0:=zW
   have e:aC (val l).toNat=(((val l).toNat%1000000000:Nat):Int)::aC ((val l).toNat/1000000000):=bZ h1
   rw[e,bZ (n:=(x+1000000000*val l).toNat) zW];have e1:(x+1000000000*val l).toNat%1000000000=x.toNat:=zW;have e2:(x+1000000000*val l).toNat/1000000000=(val l).toNat:=zW;rw[e1,e2,e];simp only;congr 1;omega
theorem bG:∀(n:Nat),Wd (aC n):=by
 intro n;induction n using Nat.strongRecOn with
 | _ n ih=>
  by_cases h:n=0
  ·subst h;rw[bV];exact Wd.nil
  ·rw[bZ h];exact Wd.mk zW (ih _ zW)
theorem cS:∀(n:Nat),val (aC n)=n:=by
 intro n;induction n using Nat.strongRecOn with
 | _ n ih=>
  by_cases h:n=0
  ·subst h;rw[bV];rfl
  ·rw[bZ h];simp only[val,ih (n/1000000000) zW];omega
theorem aJo {n m:Nat}(h:aC n=aC m):n=m:=by
 have:=cS n
 rw[h,cS m]at this;omega
theorem val_append:∀(l m:List Int),val (l++m)=val l+1000000000^l.length*val m
 | [],m=>by simp[val]
 | x::l,m=>by
  simp only[List.cons_append,val,val_append l m,List.length_cons,Int.pow_succ];grind
theorem kG:∀{l:List Int},Wd l->val l<1000000000^l.length
 | [],_=>by simp[val]
 | x::l,h=>by
  have:=kG h.cons.2
  have:=h.cons.1
  simp only[val,List.length_cons,Int.pow_succ];omega
theorem aEx {l:List Int}{i:Nat}{x:Int}(h:l[i]?=some x):val (l.take (i+1))=val (l.take i)+1000000000^i*x:=by
 have hi:=(List.getElem?_eq_some_iff.1 h).1
 rw[List.take_add_one,h,val_append];simp only[Option.toList_some,val,List.length_take];rw[Nat.min_eq_left zW];grind
theorem oX {l:List Int}{i:Nat}{x:Int}(h:l[i]?=some x):val (l.drop i)=x+1000000000*val (l.drop (i+1)):=by
 have hi:=(List.getElem?_eq_some_iff.1 h).1
 rw[List.drop_eq_getElem_cons hi];have:l[i]=x:=by have:=List.getElem?_eq_getElem hi;rw[this]at h;injection h
 simp only[val,this]
theorem bP {n k : Nat} (h : n < 1000000000 ^ k) : (aC n).length <= k := by
  induction k generalizing n with
  | zero => have : n = 0 := by simpa using h
            subst this; simp [bV]
  | succ k ih =>
    by_cases hn : n = 0
    · subst hn; simp [bV]
    · rw [bZ hn, List.length_cons]
      have := ih (n := n / 1000000000) (by rw [Nat.pow_succ] at h; omega)
      omega
theorem aT {n k:Nat}(h:(aC n).length<=k):n<1000000000^k:=by
 have h1:=kG (bG n)
 rw[cS]at h1;have h2:(1000000000:Nat)^(aC n).length<=1000000000^k:=Nat.pow_le_pow_right zW h;have h3:((1000000000:Nat)^(aC n).length:Nat)=((1000000000:Int)^(aC n).length):=zA;omega
theorem tD {n m:Nat}(h:(aC n).length<(aC m).length):n<m:=by
 rcases Nat.lt_or_ge n m with h' | h'
 ·exact h'
 ·have:=bP (Nat.lt_of_le_of_lt h' (aT (lRf _)));omega
theorem kN {l:List Int}{q:Nat}(h:q<=l.length):val l=val (l.take q)+1000000000^q*val (l.drop q):=by
 have:=val_append (l.take q) (l.drop q)
 rw[List.take_append_drop,List.length_take,Nat.min_eq_left h]at this;exact this
theorem Wd.take {l:List Int}(h:Wd l)(q:Nat):Wd (l.take q):=λx hx=>h x (List.mem_of_mem_take hx)
theorem Wd.drop {l:List Int}(h:Wd l)(q:Nat):Wd (l.drop q):=λx hx=>h x (List.mem_of_mem_drop hx)
theorem aGp {l m:List Int}(hl:Wd l)(hm:Wd m){q:Nat}{x y:Int}(hx:l[q]?=some x)(hy:m[q]?=some y)(hd:l.drop (q+1)=m.drop (q+1))(hxy:x<y):val l<val m:=by
 have h1:=(List.getElem?_eq_some_iff.1 hx).1
 have h2:=(List.getElem?_eq_some_iff.1 hy).1
 rw[kN (q:=q) (l:=l) zW,kN (q:=q) (l:=m) zW,oX hx,oX hy,hd];have h3:=kG (hl.take q);rw[List.length_take,Nat.min_eq_left zW]at h3;have h4:=cL (hm.take q);have hp:(0:Int)<1000000000^q:=Int.pow_pos zW;generalize val (List.drop (q+1) m)=D;generalize val (List.take q l)=a,val (List.take q m)=b,(1000000000:Int)^q=B at *;have h5:B*(x+1000000000*D+1)<=B*(y+1000000000*D):=Int.mul_le_mul_of_nonneg_left zW zW;rw[Int.mul_add B (x+1000000000*D) 1]at h5;omega
def bD (x y:Int):Int:=if x<y then -1 else if y<x then 1 else 0
theorem aJh {l m:List Int}(hl:Wd l)(hm:Wd m){q:Nat}{x y:Int}(hx:l[q]?=some x)(hy:m[q]?=some y)(hd:l.drop (q+1)=m.drop (q+1))(hxy:x≠y):bD x y=bD (val l) (val m):=by
 rcases Int.lt_or_gt_of_ne hxy with h | h
 ·have:=aGp hl hm hx hy hd h
  simp only[bD];rw[if_pos h,if_pos this]
 ·have:=aGp hm hl hy hx hd.symm h
  simp only[bD];rw[if_neg zW,if_pos h,if_neg zW,if_pos this]
theorem aJg {n m:Nat}(h:(aC n).length≠(aC m).length):bD (aC n).length (aC m).length=bD n m:=by
 rcases Nat.lt_or_gt_of_ne h with h | h
 ·have:=tD h
  simp only[bD];rw[if_pos zW,if_pos zW]
 ·have:=tD h
  simp only[bD];rw[if_neg zW,if_pos zW,if_neg zW,if_pos zW]
theorem bO {l:List Int}(i:Nat):val (l.take (i+1))=val (l.take i)+1000000000^i*l.getD i 0:=by
 rcases Nat.lt_or_ge i l.length with h | h
 ·have hx:=List.getElem?_eq_getElem h
  rw[aEx hx,List.getD_eq_getElem?_getD,hx];rfl
 ·rw[List.take_of_length_le zW,List.take_of_length_le h,List.getD_eq_getElem?_getD,List.getElem?_eq_none h];simp
theorem bS {n m:Nat}(h:n<=m):(aC n).length<=(aC m).length:=
 bP (Nat.lt_of_le_of_lt h (aT (lRf _)))
theorem bA {l:List Int}(h:Wd l)(i:Nat):0<=l.getD i 0/\l.getD i 0<1000000000:=by
 rcases Nat.lt_or_ge i l.length with hi | hi
 ·rw[List.getD_eq_getElem?_getD,List.getElem?_eq_getElem hi];exact h _ (List.getElem_mem _)
 ·rw[List.getD_eq_getElem?_getD,List.getElem?_eq_none hi];simp
theorem sD:∀(l:List Int),(fA l).length<=l.length/\((fA l).length=l.length->fA l=l)
 | []=>by simp[fA]
 | x::l=>by
  have ih:=sD l
  simp only[fA];cases ht:fA l with
  | nil=>
   rw[ht]at ih;by_cases hx:x=0
   ·simp[hx]
   ·simp only[hx,if_false,List.length_cons,List.length_nil];refine⟨zW,λh=>?_⟩;have:l=[]:=List.eq_nil_of_length_eq_zero zW;rw[this]
  | cons y ys=>
   rw[ht]at ih;simp only[List.length_cons]at ih |-;refine⟨zW,λh=>?_⟩;rw[ih.2 zW]
theorem aOu {l:List Int}(h:Wd l)(hl:l.length<=(aC (val l).toNat).length):l=aC (val l).toNat:=by
 have h1:=oV h
 have h2:=sD l
 rw[h1]at h2;exact(h2.2 zW).symm
structure Mrg (n m:Nat)(s:Int)(i:Nat)(out:List Int)(cr:Int):Prop where
 wd:Wd out
 len:out.length=i
 v:val out+1000000000^i*cr=val ((aC n).take i)+s*val ((aC m).take i)
 c:(s=1/\0<=cr/\cr<=1)\/(s=-1/\-1<=cr/\cr<=0)
theorem Mrg.init {n m:Nat}{s:Int}(hs:s=1\/s=-1):Mrg n m s 0 [] 0:=⟨Wd.nil,rfl,by simp[val],zW⟩
theorem Mrg.step {n m:Nat}{s:Int}{i:Nat}{out:List Int}{cr x:Int}(h:Mrg n m s i out cr)(hx:x=cr+(aC n).getD i 0+s*(aC m).getD i 0):Mrg n m s (i+1) (out++[x%1000000000]) (x/1000000000):=by
 have h1:=bA (bG n) i
 have h2:=bA (bG m) i
 refine⟨h.wd.append (Wd.mk zW Wd.nil),by simp[h.len],?_,?_⟩
 ·rw[val_append,bO,bO,h.len];have hv:=h.v;have hd:x%1000000000+1000000000*(x/1000000000)=x:=Int.emod_add_mul_ediv x 1000000000;simp only[val,Int.pow_succ];grind
 ·rcases h.c with⟨e,h3,h4⟩ | ⟨e,h3,h4⟩
  ·subst e;left;omega
  ·subst e;right;omega
theorem Mrg.last {n m:Nat}{s:Int}{i:Nat}{out:List Int}{cr:Int}(h:Mrg n m s i out cr)(hn:(aC n).length<=i)(hm:(aC m).length<=i):val out+1000000000^i*cr=n+s*m:=by
 have:=h.v
 rwa [List.take_of_length_le hn,List.take_of_length_le hm,cS,cS]at this
theorem Mrg.done {n m:Nat}{s:Int}{i:Nat}{out:List Int}{cr:Int}(h:Mrg n m s i out cr)(hi:i=max (aC n).length (aC m).length)(h0:0<=(n:Int)+s*m):
  0<=cr/\(cr=0->val out=n+s*m)/\(0<cr->cr<1000000000/\val (out++[cr])=n+s*m)/\(s=1->(cr=0->out=aC (n+m))/\(0<cr->out++[cr]=aC (n+m))):=by
 have hl:=h.last zW zW
 have hv:=kG h.wd
 rw[h.len]at hv;have hp:(0:Int)<1000000000^i:=Int.pow_pos zW;have hc:=h.c;have h1:0<=cr:=by
  rcases Int.lt_or_le cr 0 with hlt | hle
  ·exfalso
   have:cr=-1:=zW
   subst this;omega
  ·exact hle
 have h2:0<cr->val (out++[cr])=n+s*m:=λ_=>by
  rw[val_append,h.len];simp only[val];rw[<-hl];grind
 have h3:cr=0->val out=n+s*m:=λe=>by rw[e]at hl;simpa using hl
 refine⟨h1,h3,λhc0=>⟨zW,h2 hc0⟩,λhs=>⟨λe=>?_,λe=>?_⟩⟩
 ·have hv':=h3 e
  rw[hs,Int.one_mul]at hv';have e2:(val out).toNat=n+m:=zW;have:=aOu h.wd (by
   rw[e2,h.len,hi];have h4:=bS (n:=n) (m:=n+m) zW;have h5:=bS (n:=m) (m:=n+m) zW;omega)
  rw[e2]at this;exact this
 ·have hv':=h2 e
  rw[hs,Int.one_mul]at hv';have hw:Wd (out++[cr]):=h.wd.append (Wd.mk zW Wd.nil);have e2:(val (out++[cr])).toNat=n+m:=zW;have:=aOu hw (by
   rw[e2,List.length_append,h.len];apply Classical.byContradiction;intro hlt;have h4:n+m<1000000000^i:=aT (by simp at hlt;omega);have h5:((1000000000^i:Nat):Int)=(1000000000:Int)^i:=zA;have h6:(1000000000:Int)^i*1<=1000000000^i*cr:=Int.mul_le_mul_of_nonneg_left zW zW;have h7:=cL h.wd;rw[hs,Int.one_mul]at hl;omega)
  rw[e2]at this;exact this
theorem tmod_neg {x:Int}(h:x.tmod 1000000000<0):x.tmod 1000000000+1000000000=x%1000000000/\x.tdiv 1000000000 - 1=x/1000000000:=by
 have h1:=Int.tmod_eq_emod (a:=x) (b:=1000000000)
 have h2:=Int.tdiv_eq_ediv (a:=x) (b:=1000000000)
 split at h1
 ·have:=Int.emod_nonneg x (b:=1000000000) zW;omega
 ·rename_i hn;rw[if_neg hn,show Int.sign 1000000000=1 from rfl]at h2;have h3:((1000000000:Int).natAbs:Int)=1000000000:=rfl;omega
theorem aLf {x:Int}(h:¬x.tmod 1000000000<0):x.tmod 1000000000=x%1000000000/\x.tdiv 1000000000=x/1000000000:=by
 have h1:=Int.tmod_eq_emod (a:=x) (b:=1000000000)
 have h2:=Int.tdiv_eq_ediv (a:=x) (b:=1000000000)
 split at h1
 ·rename_i hn;rw[if_pos hn]at h2;omega
 ·have:=Int.emod_lt_of_pos x (b:=1000000000) zW
  simp at h1;omega
theorem vO:∀(k:Nat),val (List.replicate k 0)=0
 | 0=>rfl
 | k+1=>by simp[List.replicate_succ,val,vO k]
theorem nP (k:Nat):Wd (List.replicate k 0):=λx hx=>by
 have:=List.eq_of_mem_replicate hx;omega
theorem aIf:∀{l:List Int} {i:Nat} (x:Int),i<l.length->val (l.set i x)=val l+1000000000^i*(x - l.getD i 0)
 | y::l,0,x,_=>by simp[val];omega
 | y::l,i+1,x,h=>by
  simp only[List.set_cons_succ,val,aIf x (show i<l.length by simpa using h),List.getD_cons_succ,Int.pow_succ];grind
theorem Wd.set {l:List Int}(h:Wd l){i:Nat}{x:Int}(hx:0<=x/\x<1000000000):Wd (l.set i x):=λy hy=>by
 rcases List.mem_or_eq_of_mem_set hy with h' | h'
 ·exact h y h'
 ·subst h';exact hx
structure Mul (n m i k:Nat)(out:List Int)(cr:Int):Prop where
 wd:Wd out
 len:out.length=(aC n).length+(aC m).length
 v:val out+1000000000^(i+k)*cr=val ((aC n).take i)*m+1000000000^i*((aC n).getD i 0*val ((aC m).take k))
 c:0<=cr/\cr<1000000000
 z:∀j,i+(aC m).length<=j->out.getD j 0=0
theorem kJ {l:List Int}{i:Nat}(x:Int)(h:i<l.length):(l.set i x).getD i 0=x:=by
 simp[List.getD_eq_getElem?_getD,h]
theorem eJ {l:List Int}{i j:Nat}(x:Int)(h:i≠j):(l.set i x).getD j 0=l.getD j 0:=by
 simp[List.getD_eq_getElem?_getD,List.getElem?_set_ne h]
theorem Mul.init {n m:Nat}:Mul n m 0 0 (List.replicate ((aC n).length+(aC m).length) 0) 0:=by
 refine⟨nP _,zA,by simp[vO,val],zW,λj _=>?_⟩;rw[List.getD_eq_getElem?_getD];cases h:(List.replicate ((aC n).length+(aC m).length) (0:Int))[j]? with
 | none=>rfl
 | some y=>have:=List.eq_of_mem_replicate (List.mem_of_getElem? h);subst this;rfl
theorem Mul.step {n m i k:Nat}{out:List Int}{cr x:Int}(h:Mul n m i k out cr)(hi:i<(aC n).length)(hk:k<(aC m).length)(hx:x=cr+((aC n).getD i 0*(aC m).getD k 0+out.getD (i+k) 0)):
  Mul n m i (k+1) (out.set (i+k) (x%1000000000)) (x/1000000000):=by
 have h1:=bA (bG n) i
 have h2:=bA (bG m) k
 have h3:=bA h.wd (i+k)
 have hp:0<=(aC n).getD i 0*(aC m).getD k 0/\(aC n).getD i 0*(aC m).getD k 0<=999999999*999999999:=
  ⟨Int.mul_nonneg h1.1 h2.1,Int.mul_le_mul zW zW h2.1 zW⟩
 have hc:=h.c
 have hlt:i+k<out.length:=by rw[h.len];omega
 refine⟨h.wd.set zW,by simp[h.len],?_,zW,λj hj=>?_⟩
 ·rw[aIf _ hlt,bO];have hv:=h.v;have hd:x%1000000000+1000000000*(x/1000000000)=x:=Int.emod_add_mul_ediv x 1000000000;have e1:(1000000000:Int)^(i+(k+1))=1000000000^(i+k)*1000000000:=by rw[<-Nat.add_assoc,Int.pow_succ]
  have e2:(1000000000:Int)^(i+k)=1000000000^i*1000000000^k:=Int.pow_add _ _ _
  rw[e1];generalize x/1000000000=q,x%1000000000=r at *;rw[e2]at hv |-;generalize val (List.take k (aC m))=A,val (List.take i (aC n))=C,val out=V,(aC n).getD i 0=a,(aC m).getD k 0=b,out.getD (i+k) 0=o at *;grind
 ·rw[eJ _ zW];exact h.z j hj
theorem Mul.row {n m i:Nat}{out:List Int}{cr:Int}(h:Mul n m i (aC m).length out cr)(hi:i<(aC n).length):Mul n m (i+1) 0 (out.set (i+(aC m).length) cr) 0:=by
 have hlt:i+(aC m).length<out.length:=by rw[h.len];omega
 refine⟨h.wd.set h.c,by simp[h.len],?_,zW,λj hj=>?_⟩
 ·rw[aIf _ hlt,h.z _ (lRf _),bO];have hv:=h.v;rw[List.take_length,cS]at hv;simp only[List.take_zero,val,Int.mul_zero,Int.add_zero,Int.sub_zero];rw[hv];grind
 ·rw[eJ _ zW];exact h.z j zW
theorem Mul.done {n m:Nat}{out:List Int}(h:Mul n m (aC n).length 0 out 0):(val out).toNat=n*m:=by
 have hv:=h.v
 simp only[List.take_length,cS,List.take_zero,val,Int.mul_zero,Int.add_zero]at hv;rw[hv];omega
structure Dv (n:Nat)(w:Int)(k:Nat)(out:List Int)(rest:Int):Prop where
 wd:Wd out
 len:out.length=(aC n).length
 v:val (out.drop k)*w+rest=val ((aC n).drop k)
 r:0<=rest/\rest<w
theorem Dv.init {n:Nat}{w:Int}(hw:0<w):Dv n w (aC n).length (List.replicate (aC n).length 0) 0:=by
 refine⟨nP _,zA,?_,zW⟩;rw[List.drop_of_length_le zA,List.drop_of_length_le (lRf _)];simp[val]
theorem Dv.step {n:Nat}{w:Int}{q:Nat}{out:List Int}{rest x:Int}(h:Dv n w (q+1) out rest)(hw:w<1000000000)(hq:q<(aC n).length)(hx:x=rest*1000000000+(aC n).getD q 0):
  Dv n w q (out.set q (x/w)) (x%w)/\0<=x/w/\x/w<1000000000:=by
 have h1:=bA (bG n) q
 have hr:=h.r
 have hw0:0<w:=zW
 have hb:0<=x/w/\x/w<1000000000:=by
  refine⟨Int.ediv_nonneg zW zW,Int.ediv_lt_of_lt_mul hw0 ?_⟩;have:rest+1<=w:=zW;have:=Int.mul_le_mul_of_nonneg_right this (show(0:Int)<=1000000000 by omega);omega
 have hlt:q<out.length:=by rw[h.len];exact hq
 refine⟨⟨h.wd.set hb,by simp[h.len],?_,Int.emod_nonneg _ zW,Int.emod_lt_of_pos _ hw0⟩,hb⟩;have e1:(aC n)[q]?=some ((aC n).getD q 0):=by rw[List.getD_eq_getElem?_getD,List.getElem?_eq_getElem hq];rfl
 rw[oX e1];have e2:(out.set q (x/w))[q]?=some (x/w):=by simp[hlt]
 rw[oX e2,List.drop_set_of_lt zW];have hv:=h.v;have hd:x%w+w*(x/w)=x:=Int.emod_add_mul_ediv x w;generalize x/w=y,x%w=r',val (List.drop (q+1) out)=Q,val (List.drop (q+1) (aC n))=D,(aC n).getD q 0=a at *;grind
theorem Dv.done {n:Nat}{m:Nat}{out:List Int}{rest:Int}(h:Dv n m 0 out rest):(val out).toNat=n/m/\rest.toNat=n%m:=by
 have hv:=h.v
 rw[List.drop_zero,List.drop_zero,cS]at hv;have h0:=cL h.wd;obtain⟨q,hq⟩:∃q:Nat,val out=q:=⟨(val out).toNat,zW⟩;obtain⟨r,hr⟩:∃r:Nat,rest=r:=⟨rest.toNat,by have:=h.r;omega⟩;have hrm:r<m:=by have:=h.r;omega
 rw[hq,hr]at hv |-;have hn:n=q*m+r:=by
  have:((q*m+r:Nat):Int)=(n:Int):=by rw[<-hv];simp
  omega
 have hm:0<m:=zW
 simp only[Int.toNat_natCast];constructor
 ·rw[hn,Nat.add_comm,Nat.add_mul_div_right _ _ hm,Nat.div_eq_of_lt hrm];omega
 ·rw[hn,Nat.add_comm,Nat.add_mul_mod_self_right,Nat.mod_eq_of_lt hrm]
theorem wP:∀(l:List Int),l.take (fA l).length=fA l
 | []=>rfl
 | x::l=>by
  have ih:=wP l
  simp only[fA];cases ht:fA l with
  | nil=>
   by_cases hx:x=0
   ·simp[hx]
   ·simp[hx]
  | cons y ys=>
   rw[ht]at ih;simp only[List.length_cons,List.take_succ_cons]at ih |-;rw[ih]
end Go.Num
namespace Go.Ai
open Go Go.Proofs Go.Num
noncomputable abbrev PP:=Tryz.prog
theorem zF{g:Nat}{fn:Func}{code:Code}{args:List Value}{r:Value}(avs:List AV)(hf:Go.Proofs.Tryz.prog.funcs[g]?=some fn)(h:∀c:Cx,Ctx c Go.Proofs.Tryz.prog ty fn.ntmps->(aB9 c fn λv w'=>v=r/\Go.RowKit.Below c.B.heap.size c.B w')->Goal c [] (run ty fn.ntmps [] 100 [.code code] ⟨oY 0 avs,[],[]⟩ []))(hb:fn.body=some code:=by exact rfl)(ha:aF hJ avs=some args:=by exact rfl)(hn:args.length<=fn.ntmps:=by exact lbl rfl):Pure Go.Proofs.Tryz.prog g args r:=aOt mixed tok avs hf hb ha hn rfl λc hc hR=>zN hc (h c hc hR)
abbrev aI (n:Nat):VF:=mY .u32 (aC n)
def aQz:Value->Nat->Value
 | .slice a _ cap,n=>.slice a n cap
 | v,_=>v
def trimF (v0:Value)(l:List Int):VF where
 p v X w:=(mY .u32 (fA l)).p v X w/\v=aQz v0 (fA l).length
 st v X X' w w' h1 h2 h:=⟨(mY .u32 (fA l)).st v X X' w w' h1 h2 h.1,h.2⟩
theorem aLg {v:Value}{X:Nat->Prop}{w:World}{l:List Int}(hb:l.length<=2^40)(hX:∀b,X b->b<w.heap.size)(hv:(mY .u32 l).p v X w):Fn PP 288 [v] X w (trimF v l):=by
 obtain⟨R,hRR⟩:=nm (trimF v l);obtain⟨K,hK⟩:=nm ([KF.cst v (mY .u32 l)]);rw[<-hRR];refine bJ mixed tok [.q v] (K:=K) Tryz.func288 rfl rfl (lbl rfl) rfl hX (by subst hK;simp;exact hv) λc hc hR=>?_;refine aVg 0 .u32 l rfl rfl (λX μ a w H=>H.toP.cst (by simp[hK])) λf N cap ad hN hf dJ hv0=>?_;obtain⟨K1,hK1⟩:=nm (KF.ext 0 ad::K);show Goal c (KF.ext 0 ad::K) _
 rw[<-hK1];have kfo:lT 1 K1 K1:=by subst hK1;subst hK;exact⟨⟨.head _,KFr.ext zW _⟩,⟨.tail _ (.head _),KFr.cst _ _ _⟩,trivial⟩
 apply zN hc;cbv;let ι:={m:Nat//m<=N/\fA (l.take m)=fA l};let I:ι->St:=λx=>⟨[(0,.sl 0 0 (.n x.1) cap)],[.xi .u32 N f],[]⟩
 let x0:ι:=⟨N,lRf _,by rw[hN,List.take_length]⟩
 refine zU 1 (S':=I x0) (K':=K1) zL kfo trivial ?_;refine bW hc I (λx=>x.1) x0 100 ?_;rintro p ⟨m,hm,ht⟩ hy;have done:l.take m=fA l->∀X μ a w v S,Sim c K1 S X μ a w->S.hp[0]?=some (.xi .u32 N f)->aD μ (.sl 0 0 (.n m) cap)=some v->R.p v X w:=by
  intro h2 X μ a w v S H hk hv;rw[hRR];refine⟨?_,?_⟩
  rotate_left
  ·have h3:μ 0=some (.ext ad):=H.toP.kf (KF.ext 0 ad) (by rw[hK1];exact .head _)
   obtain⟨a',q1,q2,_⟩:=pH hv;simp only[atS,h3,Option.bind_some,MV.atS,Option.some.injEq]at q1;subst q1;rw[q2,hv0,<-h2];have hm':(IE.n m).den.toNat=(l.take m).length:=by simp[IE.den];omega
   rw[hm'];simp[aQz]
  rw[<-h2];exact H.toP.row hk hv (by simp[IE.den];omega) (λi x hx=>by
   rw[List.getElem?_take]at hx;split at hx
   ·simpa using hf i x hx
   ·cases hx) (by simp;omega) (by simp;omega)
 cbv;refine cG 6 rfl rfl 100 (λh=>?_) (λh=>?_)
 ·have h:0<m:=by simpa[BE.den,IE.den]using h
  obtain⟨q,rfl⟩:∃q,m=q+1:=⟨m - 1,zW⟩;have hq:l[q]?=some l[q]:=zA;have hfq:=hf q _ hq;have htk:l.take (q+1)=l.take q++[l[q]]:=by rw[List.take_add_one,hq];rfl
  cbv;refine aP hc ⟨?_,?_,?_,trivial⟩ ?_
  ·show _/\_;simp only[lo,hi,IE.den];omega
  ·show _/\_;simp only[IE.den];omega
  ·show _<=_;simp only[IE.den,aY];omega
  refine aE rfl 100 (λh3=>?_) (λh3=>?_)
  ·have h3:l[q]=0:=by
    have:=of_decide_eq_true h3
    simp only[IE.den,aY]at this;rw[<-hfq,<-this];congr 1;omega
   cbv;refine aP hc ⟨?_,?_,trivial⟩ ?_
   ·show _/\_;simp only[lo,hi,IE.den];omega
   ·show _/\_;simp only[IE.den];omega
   refine zU 1 (S':=I ⟨q,zW,by rw[<-ht,htk,h3,wQ]⟩) (K':=K1) ⟨⟨_,rfl,rfl,λμ=>?_⟩,trivial⟩ kfo trivial (hy _ (Nat.lt_succ_self q));have e:((IE.n (q+1)).sub (IE.l 1)).den=(IE.n q).den:=by simp only[IE.den];omega
   simp only[aD,e]
  ·have h3:l[q]≠0:=by
    intro e;have h4:=of_decide_eq_false h3;refine h4 ?_;simp only[IE.den,aY];rw[<-e,<-hfq];congr 1;omega
   cbv;refine bB hc hR rfl (λX μ a w v H hv=>done ?_ X μ a w v _ H rfl hv);rw[<-ht,htk,aEi h3]
 ·have h:m=0:=by
   have:=of_decide_eq_false h
   simp only[IE.den]at this;omega
  cbv;refine bB hc hR rfl (λX μ a w v H hv=>done ?_ X μ a w v _ H rfl hv);rw[<-ht,h];rfl
theorem aVs {v:Value}{X:Nat->Prop}{w:World}{l:List Int}(hb:l.length<=2^40)(hX:∀b,X b->b<w.heap.size)(hv:(mY .u32 l).p v X w):Fn PP 288 [v] X w (mY .u32 (fA l)):=
 (aLg hb hX hv).mono λ_ _ _ h=>h.1
theorem aVt {v:Value}{X:Nat->Prop}{w:World}{l:List Int}(hb:l.length<=2^40)(hX:∀b,X b->b<w.heap.size)(hv:(mY .u32 l).p v X w):Fn PP 288 [v] X w (eE (aQz v (fA l).length)):=
 (aLg hb hX hv).mono λ_ _ _ h=>h.2
theorem mD {v:Value}{X:Nat->Prop}{w:World}{l:List Int}(hl:Wd l)(hb:l.length<=2^40)(hX:∀b,X b->b<w.heap.size)(hv:(mY .u32 l).p v X w):Fn PP 288 [v] X w (aI (val l).toNat):=by
 have:=aVs hb hX hv
 rwa [oV hl]at this
theorem sW:aB PP 288:=zK
theorem aO6 (x:Int):Pure PP 326 [.int .u32 x] (.bool false):=by
 refine aTg mixed tok Tryz.func326 rfl (lbl rfl) rfl λc hc hR=>?_;apply zN hc;cbv;exact bR hc hR rfl (by simp[aD,BE.den])
theorem aO5 (x:Int):Pure PP 325 [.int .i64 x] (.bool false):=by
 refine aTg mixed tok Tryz.func325 rfl (lbl rfl) rfl λc hc hR=>?_;apply zN hc;cbv;exact bR hc hR rfl (by simp[aD,BE.den])
theorem aFc:aB PP 326:=zK
theorem aFb:aB PP 325:=zK
theorem aPv:aB PP 308:=zK
theorem aPu:aB PP 307:=zK
theorem aWx (x y:Int):Pure PP 308 [.int .u32 x,.int .u32 y] (.int .i64 (bD x y)):=by
 obtain⟨r,hr⟩:=nm (bD x y);rw[<-hr];refine zF [.i .u32 (.v x),.i .u32 (.v y)] Tryz.func308 λc hc hR=>?_;cbv;refine aR hc (aO6 x) aFc rfl 100 ?_;cbv;refine aR hc (aO6 y) aFc rfl 100 ?_;cbv;refine aE rfl 100 (λh=>?_) (λh=>?_)<;>cbv
 ·have h:x<y:=of_decide_eq_true h
  exact bR hc hR rfl (by rw[hr];simp[aD,bD,h,IE.den])
 ·have h:¬x<y:=of_decide_eq_false h
  refine aE rfl 100 (λh'=>?_) (λh'=>?_)<;>cbv
  ·have h':y<x:=of_decide_eq_true h'
   exact bR hc hR rfl (by rw[hr];simp[aD,bD,h,h',IE.den])
  ·have h':¬y<x:=of_decide_eq_false h'
   exact bR hc hR rfl (by rw[hr];simp[aD,bD,h,h',IE.den])
theorem aWv (x y:Int):Pure PP 307 [.int .i64 x,.int .i64 y] (.int .i64 (bD x y)):=by
 obtain⟨r,hr⟩:=nm (bD x y);rw[<-hr];refine zF [.i .i64 (.v x),.i .i64 (.v y)] Tryz.func307 λc hc hR=>?_;cbv;refine aR hc (aO5 x) aFb rfl 100 ?_;cbv;refine aR hc (aO5 y) aFb rfl 100 ?_;cbv;refine aE rfl 100 (λh=>?_) (λh=>?_)<;>cbv
 ·have h:x<y:=of_decide_eq_true h
  exact bR hc hR rfl (by rw[hr];simp[aD,bD,h,IE.den])
 ·have h:¬x<y:=of_decide_eq_false h
  refine aE rfl 100 (λh'=>?_) (λh'=>?_)<;>cbv
  ·have h':y<x:=of_decide_eq_true h'
   exact bR hc hR rfl (by rw[hr];simp[aD,bD,h,h',IE.den])
  ·have h':¬y<x:=of_decide_eq_false h'
   exact bR hc hR rfl (by rw[hr];simp[aD,bD,h,h',IE.den])
theorem yF {X:Nat->Prop}{w:World}{x:Int}(hX:∀b,X b->b<w.heap.size)(h0:0<=x)(h1:x<1000000000000000000):Fn PP 286 [.int .u64 x] X w (aI x.toNat):=by
 obtain⟨R,hRR⟩:=nm (aI x.toNat);rw[<-hRR];refine bJ mixed tok [.i .u64 (.v x)] (K:=[]) Tryz.func286 rfl rfl (lbl rfl) rfl hX (λf hf=>by cases hf) λc hc hR=>?_;apply zN hc;cbv;refine aP hc ⟨?_,?_,?_,?_,?_,trivial⟩ ?_
 ·show _≠_;simp[IE.den]
 ·show _/\_;simp only[lo,hi,IE.den,Int.tmod_eq_emod_of_nonneg h0];omega
 ·show _≠_;simp[IE.den]
 ·show _/\_;simp only[lo,hi,IE.den,Int.tdiv_eq_ediv_of_nonneg h0];omega
 ·show _/\_;simp only[lo,hi,IE.den,Int.tdiv_eq_ediv_of_nonneg h0];omega
 refine aAl 0 .u32 rfl rfl rfl λf hf=>?_;have f0:=hf 0 _ rfl;have f1:=hf 1 _ rfl;have e1:x.tmod 1000000000=x%1000000000:=Int.tmod_eq_emod_of_nonneg h0;have e2:x.tdiv 1000000000=x/1000000000:=Int.tdiv_eq_ediv_of_nonneg h0;simp only[IE.den,e1,e2]at f0 f1;have hl:Wd [x%1000000000,x/1000000000]:=Wd.mk zW (Wd.mk zW Wd.nil);have hv:val [x%1000000000,x/1000000000]=x:=by simp only[val];omega
 cbv;refine eB (R:=R) hc sW (λn0 D X μ a w aK H aG=>?_) 100 ?_
 ·obtain⟨v,rfl,hv'⟩:=bN aG;have h3:=H.row (l:=[x%1000000000,x/1000000000]) rfl hv' rfl (λi y hy=>by
   match i,hy with
   | 0,hy=>simp at hy;subst hy;exact f0
   | 1,hy=>simp at hy;subst hy;exact f1) (lRf _) (lRf _)
  have:=mD hl zA H.xlt h3
  rw[hv]at this;rw[hRR];exact this
 cbv;exact bB hc hR rfl (λX μ a w v H hv=>H.toP.val (k:=1) (.head _) hv)
theorem aSc:aB PP 286:=zK
theorem aFn {n:Nat}(h:0<(aC n).length):(aC n)[0]?=some ((n%1000000000:Nat):Int):=by
 have:n≠0:=λe=>by subst e;simp[bV]at h
 rw[bZ this];rfl
theorem aS7 {n:Nat}(h:(aC n).length=2):aC n=[((n%1000000000:Nat):Int),((n/1000000000:Nat):Int)]:=by
 have h0:n≠0:=λe=>by subst e;simp[bV]at h
 rw[bZ h0,List.length_cons]at h;have h1:n/1000000000≠0:=λe=>by rw[e]at h;simp[bV]at h
 rw[bZ h1,List.length_cons]at h;have h2:n/1000000000/1000000000=0:=by
  apply Classical.byContradiction;intro h3;rw[bZ h3]at h;simp at h
 rw[bZ h0,bZ h1,h2,bV];congr 2;omega
def aEa (n:Nat):Value:=.tuple #[.int .u64 (if n<1000000000000000000 then(n:Int)else 0),.bool (decide (n<1000000000000000000))]
theorem xE:aB PP 285:=zK
theorem oS {v:Value}{X:Nat->Prop}{w:World}{n:Nat}(hX:∀b,X b->b<w.heap.size)(hv:(aI n).p v X w):Fn PP 285 [v] X w (eE (aEa n)):=by
 obtain⟨R,hRR⟩:=nm (eE (aEa n));obtain⟨K,hK⟩:=nm ([KF.cst v (aI n)]);rw[<-hRR];refine bJ mixed tok [.q v] (K:=K) Tryz.func285 rfl rfl (lbl rfl) rfl hX (by subst hK;simp;exact hv) λc hc hR=>?_;refine dE 0 .u32 (aC n) rfl rfl (λX μ a w v' H hv'=>cD H (by simp[hK]) hv') λf N cap hN hf dJ=>?_;apply zN hc;cbv;refine aE rfl 100 (λh=>?_) (λh=>?_)
 ·have h:N=0:=by have:=of_decide_eq_true h;simp only[IE.den]at this;omega
  have hn:n=0:=by
   apply Classical.byContradiction;intro e;rw[bZ e]at hN;simp at hN;omega
  cbv;refine bB hc hR rfl (λX μ a w v H hv=>?_);simp only[aD,aF,Option.some.injEq]at hv;rw[hRR,<-hv,hn];rfl
 ·have h:N≠0:=by have:=of_decide_eq_false h;simp only[IE.den]at this;omega
  cbv;refine aE rfl 100 (λh1=>?_) (λh1=>?_)
  ·have h1:N=1:=by have:=of_decide_eq_true h1;simp only[IE.den]at this;omega
   have f0:f 0=(n:Int)%1000000000:=(hf 0 _ (aFn zW)).trans zA
   have hlt:n<1000000000:=by have:=aT (n:=n) (k:=1) zW;simpa using this
   have hz:(n:Int)<1000000000:=Int.ofNat_lt.2 hlt
   have hz0:(0:Int)<=(n:Int):=Int.natCast_nonneg n
   cbv;refine aP hc ⟨?_,?_,?_,trivial⟩ ?_
   ·show _/\_;simp only[IE.den];omega
   ·show _<=_;simp only[IE.den,aY];omega
   ·show _/\_;simp only[lo,hi,IE.den,aY];simp only[Nat.zero_add,Int.toNat_zero,Nat.zero_mul];rw[f0];omega
   refine bB hc hR rfl (λX μ a w v H hv=>?_);simp only[aD,aF,Option.some.injEq]at hv;rw[hRR,<-hv];show _=_
   simp only[IE.den,aY,Nat.zero_add,Int.toNat_zero,Nat.zero_mul,BE.den,aEa];rw[f0,if_pos zW];congr 3
   ·congr 1;exact Int.emod_eq_of_lt hz0 hz
   ·simp;omega
  ·have h1:N≠1:=by have:=of_decide_eq_false h1;simp only[IE.den]at this;omega
   cbv;refine aE rfl 100 (λh2=>?_) (λh2=>?_)
   ·have h2:N=2:=by have:=of_decide_eq_true h2;simp only[IE.den]at this;omega
    have hd:=aS7 (n:=n) zW
    have f0:f 0=(n:Int)%1000000000:=(hf 0 _ (by rw[hd];rfl)).trans zA
    have f1:f 1=(n:Int)/1000000000:=(hf 1 _ (by rw[hd];rfl)).trans zA
    have hlt:n<1000000000000000000:=by have:=aT (n:=n) (k:=2) zW;simpa using this
    have hz:(n:Int)<1000000000000000000:=Int.ofNat_lt.2 hlt
    have hz0:(0:Int)<=(n:Int):=Int.natCast_nonneg n
    cbv;refine aP hc ⟨?_,?_,?_,?_,?_,?_,?_,?_,trivial⟩ ?_
    ·show _/\_;simp only[IE.den];omega
    ·show _<=_;simp only[IE.den,aY];omega
    ·show _/\_;simp only[lo,hi,IE.den,aY];simp only[Nat.zero_add,Int.toNat_zero,Nat.zero_mul];rw[f0];omega
    ·show _/\_;simp only[IE.den];omega
    ·show _<=_;simp only[IE.den,aY];omega
    ·show _/\_;simp only[lo,hi,IE.den,aY];simp only[Nat.add_zero,Int.toNat_zero,Nat.zero_mul];rw[f1];omega
    ·show _/\_;simp only[lo,hi,IE.den,aY];simp only[Nat.add_zero,Int.toNat_zero,Nat.zero_mul];rw[f1];omega
    ·show _/\_;simp only[lo,hi,IE.den,aY];simp only[Nat.add_zero,Int.toNat_zero,Nat.zero_mul];rw[f0,f1];omega
    refine zE ?_;cbv;refine bB hc hR rfl (λX μ a w v H hv=>?_);simp only[aD,aF,Option.some.injEq]at hv;rw[hRR,<-hv];show _=_
    simp only[IE.den,aY,Nat.add_zero,Int.toNat_zero,Nat.zero_mul,BE.den,aEa];rw[f0,f1,if_pos hlt];congr 3
    ·congr 1;exact Int.emod_add_mul_ediv n 1000000000
    ·simp[hlt]
   ·have h2:N≠2:=by have:=of_decide_eq_false h2;simp only[IE.den]at this;omega
    have hge:¬n<1000000000000000000:=λhlt=>by
     have:=bP (n:=n) (k:=2) (by simpa using hlt)
     omega
    cbv;refine bB hc hR rfl (λX μ a w v H hv=>?_);simp only[aD,aF,Option.some.injEq]at hv;rw[hRR,<-hv];show _=_
    simp only[aEa,if_neg hge,hge,decide_false,IE.den,BE.den];rfl
theorem zP:aB PP 290:=zK
theorem rF {v u:Value}{X:Nat->Prop}{w:World}{n m:Nat}(hbn:(aC n).length<=2^40)(hbm:(aC m).length<=2^40)(hX:∀b,X b->b<w.heap.size)(hv:(aI n).p v X w)(hu:(aI m).p u X w):
  Fn PP 290 [v,u] X w (eE (.int .i64 (bD n m))):=by
 obtain⟨R,hRR⟩:=nm (eE (.int .i64 (bD n m)));obtain⟨K,hK⟩:=nm ([KF.cst v (aI n),KF.cst u (aI m)]);rw[<-hRR];have lO:∀{av:AV} {z:Int} {X μ v w},aD μ av=some v->(aD μ av=some (.int .i64 z))->z=bD n m->R.p v X w:=by
  intro av z X μ v w h1 h2 h3;rw[h2]at h1;injection h1 with h1
  rw[hRR,<-h1,h3];rfl
 refine bJ mixed tok [.q v,.q u] (K:=K) Tryz.func290 rfl rfl (lbl rfl) rfl hX (by subst hK;simp;exact⟨hv,hu⟩) λc hc hR=>?_;refine dE 0 .u32 (aC n) rfl rfl (λX μ a w v' H hv'=>cD H (by simp[hK]) hv') λf N cap hN hf dJ=>?_;refine dE 1 .u32 (aC m) rfl rfl (λX μ a w v' H hv'=>cD H (by simp[hK]) hv') λf' M aU hM hf' gY=>?_;apply zN hc;cbv;refine aE rfl 100 (λh=>?_) (λh=>?_)
 ·have h:(N:Int)≠(M:Int):=BE.eq_f (BE.not_t h)
  have h:(aC n).length≠(aC m).length:=zW
  cbv;obtain⟨z,hz⟩:=nm (bD N M);have hp:=aWv N M;rw[<-hz]at hp;refine zC (.i .i64 (.v z)) hp aPu ?_;cbv;refine bB hc hR rfl (λX μ a w v H hv=>lO hv rfl ?_);rw[hz,hN,hM];exact aJg h
 ·have h:(N:Int)=(M:Int):=BE.eq_t (BE.not_f h)
  have h:M=N:=zW
  subst h;cbv;refine aP hc ⟨?_,trivial⟩ ?_
  ·show _/\_;simp only[lo,hi,IE.den];omega
  let ι:={k:Nat//k<=M/\(aC n).drop k=(aC m).drop k}
  let I:ι->St:=λx=>⟨[(0,.sl 0 0 (.n M) cap),(1,.sl 1 0 (.n M) aU),(5,.i .i64 (.sub (.n x.1) (.l 1)))],[.xi .u32 M f,.xi .u32 M f'],[]⟩
  let x0:ι:=⟨M,lRf _,by rw[List.drop_of_length_le zW,List.drop_of_length_le zW]⟩
  refine zU 2 (S':=I x0) (K':=K) zL (by subst hK;exact⟨⟨.head _,KFr.cst _ _ _⟩,⟨.tail _ (.head _),KFr.cst _ _ _⟩,trivial⟩) trivial ?_;refine bW hc I (λx=>x.1) x0 100 ?_;rintro p ⟨k,hk,hd⟩ hy;cbv;refine aE rfl 100 (λh=>?_) (λh=>?_)
  ·have h:(0:Int)<=(k:Int) - 1:=BE.le_t h
   obtain⟨q,rfl⟩:∃q,k=q+1:=⟨k - 1,zW⟩;have hq:q<(aC n).length:=zW;have hq':q<(aC m).length:=zW;have gq:=hf q (aC n)[q] zA;have gq':=hf' q (aC m)[q] zA;have hwn:=bG n (aC n)[q] (List.getElem_mem _);have hwm:=bG m (aC m)[q] (List.getElem_mem _);have hix:aY 0 ((IE.n (q+1)).sub (IE.l 1)).den 1 0=q:=by simp only[aY,IE.den];omega
   cbv;have o1:(Obl.ltE ((IE.n (q+1)).sub (IE.l 1)) (IE.n M)).ok:=by show _/\_;simp only[IE.den];omega
   have o2:(Obl.ix 0 ((IE.n (q+1)).sub (IE.l 1)) 1 0 1 M).ok:=by show _<=_;rw[hix];omega
   refine aP hc ⟨o1,o2,o1,o2,trivial⟩ ?_;refine zE ?_;cbv;refine aE rfl 100 (λh=>?_) (λh=>?_)
   ·have h:f (aY 0 ((IE.n (q+1)).sub (IE.l 1)).den 1 0)≠f' (aY 0 ((IE.n (q+1)).sub (IE.l 1)).den 1 0):=BE.eq_f (BE.not_t h)
    rw[hix,gq,gq']at h;cbv;refine aP hc ⟨o1,o2,o1,o2,trivial⟩ ?_;obtain⟨z,hz⟩:=nm (bD (f q) (f' q));have hp:=aWx (f q) (f' q);rw[<-hz]at hp;have e1:aF hJ [.i .u32 (.fn f 0 ((IE.n (q+1)).sub (IE.l 1)) 1 0),.i .u32 (.fn f' 0 ((IE.n (q+1)).sub (IE.l 1)) 1 0)]=some [.int .u32 (f q),.int .u32 (f' q)]:=by
     show some [Value.int .u32 (f (aY 0 ((IE.n (q+1)).sub (IE.l 1)).den 1 0)),Value.int .u32 (f' (aY 0 ((IE.n (q+1)).sub (IE.l 1)).den 1 0))]=_
     rw[hix]
    refine eO hc (.i .i64 (.v z)) hp aPv e1 100 ?_;cbv;refine zE ?_;cbv;refine bB hc hR rfl (λX μ a w v H hv=>lO hv rfl ?_);rw[hz,gq,gq',aJh (bG n) (bG m) (List.getElem?_eq_getElem hq) (List.getElem?_eq_getElem hq') hd h,cS,cS];rfl
   ·have h:f (aY 0 ((IE.n (q+1)).sub (IE.l 1)).den 1 0)=f' (aY 0 ((IE.n (q+1)).sub (IE.l 1)).den 1 0):=BE.eq_t (BE.not_f h)
    rw[hix,gq,gq']at h;cbv;refine aP hc ⟨?_,trivial⟩ ?_
    ·show _/\_;simp only[lo,hi,IE.den];omega
    refine zU 2 (S':=I ⟨q,zW,by rw[List.drop_eq_getElem_cons hq,List.drop_eq_getElem_cons hq',hd,h]⟩) (K':=K) ⟨zS,zS,⟨_,rfl,rfl,λμ=>?_⟩,trivial⟩ (by subst hK;exact⟨⟨.head _,KFr.cst _ _ _⟩,⟨.tail _ (.head _),KFr.cst _ _ _⟩,trivial⟩) trivial (hy _ (Nat.lt_succ_self q));have e:(((IE.n (q+1)).sub (IE.l 1)).sub (IE.l 1)).den=((IE.n q).sub (IE.l 1)).den:=by simp only[IE.den];omega
    simp only[aD,e]
  ·have h:¬(0:Int)<=(k:Int) - 1:=BE.le_f h
   have h0:k=0:=zW
   subst h0;cbv;refine bB hc hR rfl (λX μ a w v H hv=>lO hv rfl ?_);have:n=m:=aJo (by simpa using hd);subst this;simp[bD,IE.den]
theorem cJ:(PP.info? 145).map (·.bytes)=some 4:=zG
theorem aN9:aB PP 306:=zK
def aHz (n m:Nat)(s:Int):VF where
 p v X w:=∃l,Wd l/\val l=n+s*m/\l.length<=max (aC n).length (aC m).length+1/\(s=1->l=aC (n+m))/\(mY .u32 l).p v X w
 st v X X' w w' h1 h2 h:=by
  obtain⟨l,q1,q2,q3,q4,q5⟩:=h;exact⟨l,q1,q2,q3,q4,(mY .u32 l).st v X X' w w' h1 h2 q5⟩
theorem aDs {v u:Value}{X:Nat->Prop}{w:World}{n m:Nat}{s:Int}(hs:s=1\/s=-1)(h0:0<=(n:Int)+s*m)(hbn:(aC n).length<=2^40)(hbm:(aC m).length<=2^40)(hX:∀b,X b->b<w.heap.size)(hv:(aI n).p v X w)(hu:(aI m).p u X w):
  Fn PP 306 [v,u,.int .i64 s] X w (aHz n m s):=by
 obtain⟨R,hRR⟩:=nm (aHz n m s);obtain⟨K,hK⟩:=nm ([KF.cst v (aI n),KF.cst u (aI m)]);rw[<-hRR];refine bJ mixed tok [.q v,.q u,.i .i64 (.v s)] (K:=K) Tryz.func306 rfl rfl (lbl rfl) rfl hX (by subst hK;simp;exact⟨hv,hu⟩) λc hc hR=>?_;refine dE 0 .u32 (aC n) rfl rfl (λX μ a w v' H hv'=>cD H (by simp[hK]) hv') λf N cap hN hf dJ=>?_;refine dE 1 .u32 (aC m) rfl rfl (λX μ a w v' H hv'=>cD H (by simp[hK]) hv') λf' M aU hM hf' gY=>?_;have hfw:∀i,i<N->f i=(aC n).getD i 0:=λi hi=>by
  have:=List.getElem?_eq_getElem (l:=aC n) (i:=i) zW
  rw[hf i _ this,List.getD_eq_getElem?_getD,this];rfl
 have aDg:∀i,i<M->f' i=(aC m).getD i 0:=λi hi=>by
  have:=List.getElem?_eq_getElem (l:=aC m) (i:=i) zW
  rw[hf' i _ this,List.getD_eq_getElem?_getD,this];rfl
 have hge:∀i,N<=i->(aC n).getD i 0=0:=λi hi=>by rw[List.getD_eq_getElem?_getD,List.getElem?_eq_none zW];rfl
 have aTs:∀i,M<=i->(aC m).getD i 0=0:=λi hi=>by rw[List.getD_eq_getElem?_getD,List.getElem?_eq_none zW];rfl
 apply zN hc;cbv;refine aP hc ⟨?_,trivial⟩ ?_
 ·show _/\_;simp only[lo,hi,IE.den];omega
 obtain⟨G,hG⟩:∃G:Option Addr->Nat->Nat->List Int->OF,∀a n cap l,G a n cap l=OF.row (.slice a n cap) c.B.heap.size 145 .u32 l:=⟨λa n cap l=>OF.row (.slice a n cap) c.B.heap.size 145 .u32 l,λ_ _ _ _=>rfl⟩;refine aYf hc _ rfl rfl rfl (kd:=.u32) hG rfl rfl rfl rfl rfl rfl cJ ?_ ?_ ?_ (λa0 cap0=>?_)
 ·simp only[IE.den];omega
 ·simp only[IE.den];omega
 ·simp only[IE.den];omega
 apply zN hc;cbv;obtain⟨L,hL⟩:=nm (max N M);have hL':L=max (aC n).length (aC m).length:=by rw[hL,hN,hM]
 have hLb:L<=2^40:=zW
 let ι:={x:Nat × Option Addr × Nat × List Int × Int//Mrg n m s x.1 x.2.2.2.1 x.2.2.2.2/\x.1<=L}
 let I:ι->St:=λx=>⟨[(0,.sl 0 0 (.n N) cap),(1,.sl 1 0 (.n M) aU),(2,.i .i64 (.v s)),(7,.xs x.1.2.1 x.1.1 x.1.2.2.1),(8,.i .i64 (.v x.1.2.2.2.2)),(19,.i .i64 (.n L)),(20,.i .i64 (.n x.1.1))],[.xi .u32 N f,.xi .u32 M f'],[G x.1.2.1 x.1.1 x.1.2.2.1 x.1.2.2.2.1]⟩
 let x0:ι:=⟨(0,a0,cap0,[],0),Mrg.init hs,Nat.zero_le _⟩
 refine zU 2 (S':=I x0) (K':=K) ⟨zS,zS,zS,zS,zS,⟨_,rfl,rfl,λμ=>?_⟩,zL⟩ (by subst hK;exact⟨⟨.head _,KFr.cst _ _ _⟩,⟨.tail _ (.head _),KFr.cst _ _ _⟩,trivial⟩) ⟨by rw[hG];exact OFr.row _ _ _ _ _ _,trivial⟩ ?_
 ·have e:((IE.n N).max (IE.n M)).den=(IE.n L).den:=by simp only[IE.den,hL];omega
  show some (Value.int .i64 ((IE.n N).max (IE.n M)).den)=some (Value.int .i64 (IE.n L).den)
  rw[e]
 refine bW hc I (λx=>L - x.1.1) x0 100 ?_;rintro p ⟨⟨i,a,cp,out,cr⟩,hM',hi⟩ hy;have hcr:=hM'.c;have hlen:=hM'.len;simp only at hM' hi hcr hlen;cbv;refine aE rfl 100 (λh=>?_) (λh=>?_)
 ·have h:(i:Int)<(L:Int):=BE.lt_t h
  have hiL:i<L:=zW
  have hga:=bA (bG n) i
  have hgb:=bA (bG m) i
  obtain⟨ga,iM⟩:=nm ((aC n).getD i 0);obtain⟨gb,mN⟩:=nm ((aC m).getD i 0);rw[<-iM]at hga;rw[<-mN]at hgb;obtain⟨x1,hx1⟩:=nm (cr+ga);obtain⟨x2,hx2⟩:=nm (x1+s*gb);have hix:aY 0 (IE.n i).den 1 0=i:=by simp only[aY,IE.den];omega
  have aEs:x2=cr+(aC n).getD i 0+s*(aC m).getD i 0:=by rw[hx2,hx1,iM,mN]
  have b1:-1<=x1/\x1<=1000000000:=zW
  have b2:-1000000000<=x2/\x2<=2000000000:=by rcases hs with e | e<;>subst e<;>omega
  have b3:-1000000000<=s*gb/\s*gb<=1000000000:=by rcases hs with e | e<;>subst e<;>omega
  let T:List (Nat × AV)->Int->St:=λl z=>⟨l++[(0,.sl 0 0 (.n N) cap),(1,.sl 1 0 (.n M) aU),(2,.i .i64 (.v s)),(7,.xs a i cp),(9,.i .i64 (.n i)),(8,.i .i64 (.v z)),(19,.i .i64 (.n L)),(20,.i .i64 (.n i))],[.xi .u32 N f,.xi .u32 M f'],[G a i cp out]⟩
  obtain⟨w0,hw0⟩:=nm (x2%1000000000);obtain⟨c0,hc0⟩:=nm (x2/1000000000);have kf:lT 2 K K:=by subst hK;exact⟨⟨.head _,KFr.cst _ _ _⟩,⟨.tail _ (.head _),KFr.cst _ _ _⟩,trivial⟩
  have kof:∀a i cp out,aCb 2 [G a i cp out]:=λa i cp out=>⟨by rw[hG];exact OFr.row _ _ _ _ _ _,trivial⟩
  have bJl:cr+ga=x1:=hx1.symm
  have cQ:=hM'.step aEs
  rw[<-hw0,<-hc0]at cQ;have bJk:0<=w0/\w0<1000000000:=zW;have bJe:-1<=c0/\c0<=2:=zW;have o1:i<N->(Obl.ltE (IE.n i) (IE.n N)).ok:=λh=>by show _/\_;simp only[IE.den];omega
  have o2:i<N->(Obl.ix 0 (IE.n i) 1 0 1 N).ok:=λh=>by show _<=_;rw[hix];omega
  have o1':i<M->(Obl.ltE (IE.n i) (IE.n M)).ok:=λh=>by show _/\_;simp only[IE.den];omega
  have o2':i<M->(Obl.ix 0 (IE.n i) 1 0 1 M).ok:=λh=>by show _<=_;rw[hix];omega
  have g1:i<N->(IE.fn f 0 (IE.n i) 1 0).den=ga:=λh=>by show f (aY 0 (IE.n i).den 1 0)=ga;rw[hix,hfw i h,iM]
  have g2:i<M->(IE.fn f' 0 (IE.n i) 1 0).den=gb:=λh=>by show f' (aY 0 (IE.n i).den 1 0)=gb;rw[hix,aDg i h,mN]
  have cU:∀(e:IE) (z:Int),e.den=z->-9223372036854775808<=z/\z<=9223372036854775807->(Obl.inR .i64 e).ok:=λe z he hz=>by show _/\_;rw[he];exact hz
  have s1:i<N->(IE.add (IE.v cr) (IE.fn f 0 (IE.n i) 1 0)).den=x1:=λh=>by show cr+(IE.fn f 0 (IE.n i) 1 0).den=x1;rw[g1 h,hx1]
  have m1:i<M->(IE.mul (IE.v s) (IE.fn f' 0 (IE.n i) 1 0)).den=s*gb:=λh=>by show s*(IE.fn f' 0 (IE.n i) 1 0).den=_;rw[g2 h]
  have s2:i<M->(IE.add (IE.v x1) (IE.mul (IE.v s) (IE.fn f' 0 (IE.n i) 1 0))).den=x2:=λh=>by show x1+(IE.mul (IE.v s) (IE.fn f' 0 (IE.n i) 1 0)).den=x2;rw[m1 h,hx2]
  have z1:¬i<N->cr=x1:=λh=>by rw[hx1,iM,hge i zW];omega
  have z2:¬i<M->x1=x2:=λh=>by rw[hx2,mN,aTs i zW];omega
  have q1:-9223372036854775808<=ga/\ga<=9223372036854775807:=zW
  have q2:-9223372036854775808<=gb/\gb<=9223372036854775807:=zW
  have q3:-9223372036854775808<=x1/\x1<=9223372036854775807:=zW
  have q4:-9223372036854775808<=x2/\x2<=9223372036854775807:=zW
  have q5:-9223372036854775808<=s*gb/\s*gb<=9223372036854775807:=zW
  have q6:-9223372036854775808<=(i:Int)+1/\(i:Int)+1<=9223372036854775807:=zW
  have q7:-9223372036854775808<=x2.tdiv 1000000000/\x2.tdiv 1000000000<=9223372036854775807/\-9223372036854775808<=x2.tmod 1000000000+1000000000/\x2.tmod 1000000000+1000000000<=9223372036854775807/\-9223372036854775808<=x2.tdiv 1000000000 - 1/\x2.tdiv 1000000000 - 1<=9223372036854775807:=by
   by_cases hq:x2.tmod 1000000000<0
   ·have:=tmod_neg hq;omega
   ·have:=aLf hq;omega
  have q8:(0:Int)<=w0/\w0<=4294967295:=zW
  have hlb:(out.length+1)*4<=140737488355328:=zW
  have qO:out.length+1<=9223372036854775807:=zW
  have aHr:out.length+1<=L:=zW
  have hms:∀n',n'=out.length+1->L - n'<L - i:=λn' h=>zW
  have hin:∀n',n'=out.length+1->(i:Int)+1=(n':Int):=λn' h=>zW
  have hni:out.length+1=i+1:=zW
  cbv;refine bCs hc (T [] x1) rfl rfl 100 (λr h hr=>?_) (λr h hr=>?_) ?_
  ·have h:(i:Int)<(N:Int):=BE.lt_t h
   have h:i<N:=Int.ofNat_lt.1 h
   have e1:=s1 h
   have e2:=cU _ _ (g1 h) q1
   have e3:=cU _ _ e1 q3
   have e4:=o1 h
   have e5:=o2 h
   cbv;refine aP hc ⟨e4,e5,e2,e3,trivial⟩ ?_;refine zU 2 (S':=T [] x1) (K':=K) ⟨zS,zS,zS,zS,zS,zI rfl rfl e1,zL⟩ kf (kof _ _ _ _) hr
  ·have h:¬(i:Int)<(N:Int):=BE.lt_f h
   have h:¬i<N:=λh'=>h (Int.ofNat_lt.2 h')
   have e1:=z1 h
   cbv;refine zU 2 (S':=T [] x1) (K':=K) ⟨zS,zS,zS,zS,zS,zI rfl rfl e1,zL⟩ kf (kof _ _ _ _) hr
  apply zN hc;cbv;refine bCs hc (T [] x2) rfl rfl 100 (λr h hr=>?_) (λr h hr=>?_) ?_
  ·have h:(i:Int)<(M:Int):=BE.lt_t h
   have h:i<M:=Int.ofNat_lt.1 h
   have e1:=s2 h
   have e2:=cU _ _ (g2 h) q2
   have e3:=cU _ _ e1 q4
   have e4:=o1' h
   have e5:=o2' h
   have e6:=cU _ _ (m1 h) q5
   cbv;refine aP hc ⟨e4,e5,e2,e6,e3,trivial⟩ ?_;refine zU 2 (S':=T [] x2) (K':=K) ⟨zS,zS,zS,zS,zS,zI rfl rfl e1,zL⟩ kf (kof _ _ _ _) hr
  ·have h:¬(i:Int)<(M:Int):=BE.lt_f h
   have h:¬i<M:=λh'=>h (Int.ofNat_lt.2 h')
   have e1:=z2 h
   cbv;refine zU 2 (S':=T [] x2) (K':=K) ⟨zS,zS,zS,zS,zS,zI rfl rfl e1,zL⟩ kf (kof _ _ _ _) hr
  apply zN hc;cbv;have nz:(Obl.nz (IE.l 1000000000)).ok:=by show _≠_;simp[IE.den]
  refine aP hc ⟨nz,nz,⟨q7.1,q7.2.1⟩,trivial⟩ ?_;refine bCs hc (T [(10,.i .i64 (.v w0))] c0) rfl rfl 100 (λr h hr=>?_) (λr h hr=>?_) ?_
  ·have h:x2.tmod 1000000000<0:=BE.lt_t h
   obtain⟨h1,h2⟩:=tmod_neg h;rw[<-hw0]at h1;rw[<-hc0]at h2;cbv;refine aP hc ⟨⟨q7.2.2.1,q7.2.2.2.1⟩,⟨q7.2.2.2.2.1,q7.2.2.2.2.2⟩,trivial⟩ ?_;refine zU 2 (S':=T [(10,.i .i64 (.v w0))] c0) (K':=K) ⟨zI rfl rfl h1,zS,zS,zS,zS,zS,zI rfl rfl h2,zL⟩ kf (kof _ _ _ _) hr
  ·have h:¬x2.tmod 1000000000<0:=BE.lt_f h
   obtain⟨h1,h2⟩:=aLf h;rw[<-hw0]at h1;rw[<-hc0]at h2;cbv;refine zU 2 (S':=T [(10,.i .i64 (.v w0))] c0) (K':=K) ⟨zI rfl rfl h1,zS,zS,zS,zS,zS,zI rfl rfl h2,zL⟩ kf (kof _ _ _ _) hr
  apply zN hc;cbv;refine aP hc ⟨q8,trivial⟩ ?_;refine fK hc _ rfl rfl rfl hG rfl rfl rfl rfl rfl rfl rfl rfl rfl cJ hlb qO (λa' n' aU l' hn' hl'=>?_);apply zN hc;cbv;refine aP hc ⟨q6,trivial⟩ ?_;refine iX 2 (S':=I ⟨(n',a',aU,l',c0),by rw[hn',hl',hni];exact cQ,by rw[hn'];exact aHr⟩) (K':=K) rfl rfl (Nat.le_succ 2) rfl rfl ⟨zS,zS,zS,zS,zS,zS,zI rfl rfl (hin n' hn'),trivial⟩ kf (kof _ _ _ _) (hy _ (hms n' hn'))
 ·have h:¬(i:Int)<(L:Int):=BE.lt_f h
  have hiL:i=L:=zW
  obtain⟨d1,d2,d3,d4⟩:=hM'.done (hiL.trans hL') h0;have hlb:(out.length+1)*4<=140737488355328:=zW;have qO:out.length+1<=9223372036854775807:=zW;have q8:0<cr->(0:Int)<=cr/\cr<=4294967295:=λh=>by have:=(d3 h).1;omega
  have hw1:0<cr->Wd (out++[cr]):=λh=>hM'.wd.append (Wd.mk ⟨d1,(d3 h).1⟩ Wd.nil)
  have bE3:out.length<=max (aC n).length (aC m).length+1:=zW
  have aT1:(out++[cr]).length<=max (aC n).length (aC m).length+1:=by simp;omega
  cbv;refine aE rfl 100 (λh=>?_) (λh=>?_)
  ·have h:0<cr:=BE.lt_t h
   have h8:=q8 h
   cbv;refine aP hc ⟨h8,trivial⟩ ?_;refine fK hc _ rfl rfl rfl hG rfl rfl rfl rfl rfl rfl rfl rfl rfl cJ hlb qO (λa' n' aU l' hn' hl'=>?_);apply zN hc;cbv;refine oA (hG _ _ _ _) ?_;refine bB hc hR rfl (λX μ a w v H hv=>?_);injection hv with hv
   have hl':l'=out++[cr]:=hl'
   rw[hRR,<-hv];refine⟨l',by rw[hl'];exact hw1 h,by rw[hl'];exact(d3 h).2,by rw[hl'];exact aT1,λe=>by rw[hl'];exact(d4 e).2 h,H.toP.cst (.head _)⟩
  ·have h:¬0<cr:=BE.lt_f h
   have h:cr=0:=zW
   cbv;refine oA (hG _ _ _ _) ?_;refine bB hc hR rfl (λX μ a w v H hv=>?_);injection hv with hv
   rw[hRR,<-hv];exact⟨out,hM'.wd,d2 h,bE3,λe=>(d4 e).1 h,H.toP.cst (.head _)⟩
theorem bAg:aB PP 289:=zK
theorem aWl:aB PP 291:=zK
theorem aQt {v u:Value}{X:Nat->Prop}{w:World}{n m:Nat}(hbn:(aC n).length<=2^40)(hbm:(aC m).length<=2^40)(hX:∀b,X b->b<w.heap.size)(hv:(aI n).p v X w)(hu:(aI m).p u X w):
  Fn PP 289 [v,u] X w (aI (n+m)):=by
 obtain⟨R,hRR⟩:=nm (aI (n+m));obtain⟨R1,hR1⟩:=nm (aHz n m 1);obtain⟨K,hK⟩:=nm ([KF.cst v (aI n),KF.cst u (aI m)]);rw[<-hRR];refine bJ mixed tok [.q v,.q u] (K:=K) Tryz.func289 rfl rfl (lbl rfl) rfl hX (by subst hK;simp;exact⟨hv,hu⟩) λc hc hR=>?_;apply zN hc;cbv;refine eB (R:=R1) hc aN9 (λn0 D X μ a w aK H aG=>?_) 100 ?_
 ·obtain⟨v1,v2,v3,rfl,h1,h2,h3⟩:=mS aG;injection h1 with h1;injection h2 with h2;injection h3 with h3
  subst h1;subst h2;subst h3;rw[hR1];exact aDs (s:=1) (.inl rfl) zW hbn hbm H.xlt (H.cst (by simp[hK])) (H.cst (by simp[hK]))
 cbv;refine bB hc hR rfl (λX μ a w v H hv=>?_);have:=H.toP.val (k:=0) (R:=R1) (.head _) hv;rw[hR1]at this;obtain⟨l,q1,q2,q3,q4,q5⟩:=this;rw[hRR,<-q4 rfl];exact q5
theorem aMy {v u:Value}{X:Nat->Prop}{w:World}{n m:Nat}(hnm:m<=n)(hbn:(aC n).length<2^40)(hbm:(aC m).length<2^40)(hX:∀b,X b->b<w.heap.size)(hv:(aI n).p v X w)(hu:(aI m).p u X w):
  Fn PP 291 [v,u] X w (aI (n - m)):=by
 obtain⟨R,hRR⟩:=nm (aI (n - m));obtain⟨R1,hR1⟩:=nm (aHz n m (-1));obtain⟨K,hK⟩:=nm ([KF.cst v (aI n),KF.cst u (aI m)]);rw[<-hRR];refine bJ mixed tok [.q v,.q u] (K:=K) Tryz.func291 rfl rfl (lbl rfl) rfl hX (by subst hK;simp;exact⟨hv,hu⟩) λc hc hR=>?_;apply zN hc;cbv;refine eB (R:=R1) hc aN9 (λn0 D X μ a w aK H aG=>?_) 100 ?_
 ·obtain⟨v1,v2,v3,rfl,h1,h2,h3⟩:=mS aG;injection h1 with h1;injection h2 with h2;injection h3 with h3
  subst h1;subst h2;subst h3;rw[hR1];exact aDs (s:=-1) (.inr rfl) zW zW zW H.xlt (H.cst (by simp[hK])) (H.cst (by simp[hK]))
 cbv;refine eB (R:=R) hc sW (λn0 D X μ a w aK H aG=>?_) 100 ?_
 ·obtain⟨v1,rfl,h1⟩:=bN aG;have:=H.val (k:=0) (R:=R1) (.head _) h1;rw[hR1]at this;obtain⟨l,q1,q2,q3,q4,q5⟩:=this;have e:(val l).toNat=n - m:=zW;rw[hRR,<-e];exact mD q1 zW H.xlt q5
 cbv;exact bB hc hR rfl (λX μ a w v H hv=>H.toP.val (k:=1) (R:=R) (.head _) hv)
end Go.Ai
