/- Part 12 of the proof: garboardlaw17.FloatMirrors returns true, where what it reads is of bulk at most 1048576. -/
import Derived.Test.YtmnancfboococaaGreatDoorPm6
import Derived.Test.YtmnancfboococaaGreatDoorPm10
set_option linter.all false
namespace Go.Ai
open Go Go.Proofs Go.Num
theorem aGe:aB PP 263:=zK
theorem aE1 {n m:Nat}{z:Int}(hz:z=bS n m)(h:z<0):n<m:=by
 rw[hz]at h;unfold bS at h;split at h
 ·omega
 ·split at h<;>omega
theorem aAp {n m:Nat}{z:Int}(hz:z=bS n m)(h:¬z<0):m≤n:=by
 rw[hz]at h;unfold bS at h;split at h
 ·omega
 ·omega
theorem aH0 {X:Nat→Prop}{w:World}:(aP 0).p (.slice none 0 0) X w:=
 ⟨none,0,by rw[bO];rfl,by rw[bO];exact lRf _,by rw[bO];exact⟨rfl,rfl⟩⟩
theorem bC (kd:IntKind)(e:IE)(z:Int)(he:e.den=z)(hz:lo kd≤z∧z≤hi kd):(Obl.inR kd e).ok:=by show _∧_;rw[he];exact hz
theorem bA5 {U0:Int}{m k j:Nat}{u qs v:List Int}{v1 v2 top u0 u2 q P g rs:Int}(rd:Rd U0 m k j u qs v v1 v2 top u0 u2 q P)(hg:Gs v1 v2 top u2 q g rs)(hr:rs<1000000000){e1 e2 e3:IE}(h1:e1.den=v1)(h2:e2.den=v2)(h3:e3.den=u2):
  ((IE.mul (.v g) e2).den=g*v2∧((IE.mul (.v rs) (.l 1000000000)).add e3).den=rs*1000000000+u2∧(IE.add (.v rs) e1).den=rs+v1)∧
  (Obl.inR .u64 (IE.mul (.v g) e2)).ok∧(Obl.inR .u64 (IE.mul (.v rs) (.l 1000000000))).ok∧(Obl.inR .u64 ((IE.mul (.v rs) (.l 1000000000)).add e3)).ok∧(Obl.inR .u64 (IE.add (.v rs) e1)).ok∧(1≤g→(Obl.inR .u64 (IE.sub (.v g) (.l 1))).ok):=by
 have hb:=rd.gbd hg
 have b1:=rd.b1
 have b4:=rd.b4
 have q1:(IE.mul (.v g) e2).den=g*v2:=by show g*e2.den=_;rw[h2]
 have q2:(IE.mul (.v rs) (.l 1000000000)).den=rs*1000000000:=rfl
 have q3:((IE.mul (.v rs) (.l 1000000000)).add e3).den=rs*1000000000+u2:=by show rs*1000000000+e3.den=_;rw[h3]
 have q4:(IE.add (.v rs) e1).den=rs+v1:=by show rs+e1.den=_;rw[h1]
 refine⟨⟨q1,q3,q4⟩,bC _ _ _ q1 ?_,bC _ _ _ q2 ?_,bC _ _ _ q3 ?_,bC _ _ _ q4 ?_,fun h=>bC _ _ (g - 1) rfl ?_⟩<;>simp only[lo,hi]<;>omega
theorem bDk {u0 u v:List Int}{j i NU L:Nat}{g carry borrow p d:Int}{fv:Nat→Int}(hs:Sm u0 u v j i g carry borrow)(hv:Wd v)(hg:0≤g∧g<1000000000)(hjN:j+L<NU)(hL:i<L)(hNU:NU≤2^38+2)(hul:u0.length=NU)
  (hp:p=g*v.getD i 0+carry) (hd:d=u.getD (j+i) 0 - p%1000000000 - borrow) (hfv:fv i=v.getD i 0) {P Dd:IE} (hP:P=(IE.mul (.v g) (.fn fv 0 (.n i) 1 0)).add (.v carry)) (hD:Dd=IE.sub (IE.sub (.nth u 0 (.add (.n i) (.n j)) 1 0) (.rem P (.l 1000000000))) (.v borrow)):
  (Dd.den=d∧(IE.quo P (.l 1000000000)).den=p/1000000000∧(IE.add Dd (.l 1000000000)).den=d+1000000000∧aX 0 (IE.add (.n i) (.n j)).den 1 0=j+i)∧
  ((Obl.inR .i64 (.v g)).ok∧(Obl.ltE (.n i) (.n L)).ok∧(Obl.ix 0 (.n i) 1 0 1 L).ok∧(Obl.inR .i64 (.fn fv 0 (.n i) 1 0)).ok∧(Obl.inR .i64 (IE.mul (.v g) (.fn fv 0 (.n i) 1 0))).ok∧(Obl.inR .i64 P).ok∧(Obl.nz (.l 1000000000)).ok∧(Obl.inR .i64 (.quo P (.l 1000000000))).ok)∧
  ((Obl.inR .i64 (.add (.n i) (.n j))).ok∧(Obl.ltE (.add (.n i) (.n j)) (.n NU)).ok∧(Obl.ixL 0 (.add (.n i) (.n j)) 1 0 u).ok∧(Obl.inR .i64 (.nth u 0 (.add (.n i) (.n j)) 1 0)).ok∧(Obl.inR .i64 (IE.sub (.nth u 0 (.add (.n i) (.n j)) 1 0) (.rem P (.l 1000000000)))).ok∧(Obl.inR .i64 Dd).ok∧(Obl.inR .i64 (.add Dd (.l 1000000000))).ok)∧
  (d<0→(Obl.inR .u32 (.add Dd (.l 1000000000))).ok)∧(¬d<0→(Obl.inR .u32 Dd).ok)∧(Obl.inR .i64 (.add (.n i) (.l 1))).ok:=by
 obtain⟨s1,s2,s3,s4⟩:=hs.step hv hg (by omega) hp hd;have hc:=hs.c
 have hb:=hs.b
 have hlen:=hs.len
 have wv:=bB hv i
 have wu:=bB hs.wd (j+i)
 obtain⟨x,hx⟩:=nm (v.getD i 0);obtain⟨y,hy⟩:=nm (u.getD (j+i) 0);rw[←hx]at hfv hp wv;rw[←hy]at hd wu;have iv:aX 0 (IE.n i).den 1 0=i:=by simp only[aX,IE.den];omega
 have iu:aX 0 (IE.add (.n i) (.n j)).den 1 0=j+i:=by simp only[aX,IE.den];omega
 have e1:(IE.fn fv 0 (.n i) 1 0).den=x:=by show fv (aX 0 (IE.n i).den 1 0)=x;rw[iv,hfv]
 have e2:(IE.nth u 0 (.add (.n i) (.n j)) 1 0).den=y:=by show u.getD (aX 0 (IE.add (.n i) (.n j)).den 1 0) 0=y;rw[iu,hy]
 obtain⟨z,hz⟩:=nm (g*x);have zb:0≤z∧z≤999999999*999999999:=by rw[hz];exact⟨Int.mul_nonneg hg.1 wv.1,Int.mul_le_mul (by omega) (by omega) wv.1 (by omega)⟩
 rw[←hz]at hp;have e3:(IE.mul (.v g) (.fn fv 0 (.n i) 1 0)).den=z:=by show g*(IE.fn fv 0 (.n i) 1 0).den=z;rw[e1,hz]
 have eP:P.den=p:=by rw[hP];show(IE.mul (.v g) (.fn fv 0 (.n i) 1 0)).den+carry=p;rw[e3,hp]
 have e4:(IE.rem P (.l 1000000000)).den=p%1000000000:=by show P.den.tmod 1000000000=_;rw[eP,Int.tmod_eq_emod_of_nonneg s1.1]
 have e5:(IE.quo P (.l 1000000000)).den=p/1000000000:=by show P.den.tdiv 1000000000=_;rw[eP,Int.tdiv_eq_ediv_of_nonneg s1.1]
 obtain⟨t,ht⟩:=nm (y - p%1000000000);have e6:(IE.sub (.nth u 0 (.add (.n i) (.n j)) 1 0) (.rem P (.l 1000000000))).den=t:=by
  show(IE.nth u 0 (.add (.n i) (.n j)) 1 0).den - (IE.rem P (.l 1000000000)).den=t;rw[e2,e4,ht]
 have eD:Dd.den=d:=by rw[hD];show(IE.sub (.nth u 0 (.add (.n i) (.n j)) 1 0) (.rem P (.l 1000000000))).den - borrow=d;rw[e6,ht,hd]
 have e7:(IE.add Dd (.l 1000000000)).den=d+1000000000:=by show Dd.den+1000000000=_;rw[eD]
 refine⟨⟨eD,e5,e7,iu⟩,⟨bC _ (IE.v g) g rfl ?_,?_,?_,bC _ _ _ e1 ?_,bC _ _ _ e3 ?_,bC _ _ _ eP ?_,?_,bC _ _ _ e5 ?_⟩,⟨?_,?_,?_,bC _ _ _ e2 ?_,bC _ _ _ e6 ?_,bC _ _ _ eD ?_,bC _ _ _ e7 ?_⟩,fun h=>bC _ _ _ e7 ?_,fun h=>bC _ _ _ eD ?_,?_⟩
 case refine_2=>show _∧_;simp only[IE.den];omega
 case refine_3=>show _≤_;rw[iv];omega
 case refine_7=>show _≠_;simp[IE.den]
 case refine_9=>show lo _≤_∧_≤hi _;simp only[lo,hi,IE.den];omega
 case refine_10=>show _∧_;simp only[IE.den];omega
 case refine_11=>show _<_;rw[iu];omega
 case refine_18=>show lo _≤_∧_≤hi _;simp only[lo,hi,IE.den];omega
 all_goals simp only[lo,hi];omega
theorem bDj {u0 u v:List Int}{j i NU L:Nat}{up x:Int}{fv:Nat→Int}(hs:Ad u0 u v j i up)(hv:Wd v)(hjN:j+L<NU)(hL:i<L)(hNU:NU≤2^38+2)(hul:u0.length=NU)
  (hx:x=up+(u.getD (j+i) 0+v.getD i 0)) (hfv:fv i=v.getD i 0) {Y Z:IE} (hY:Y=IE.add (.nth u 0 (.add (.n i) (.n j)) 1 0) (.fn fv 0 (.n i) 1 0)) (hZ:Z=IE.add (.v up) Y):
  ((IE.rem Z (.l 1000000000)).den=x%1000000000∧(IE.quo Z (.l 1000000000)).den=x/1000000000∧aX 0 (IE.add (.n i) (.n j)).den 1 0=j+i)∧
  ((Obl.inR .i64 (.add (.n i) (.n j))).ok∧(Obl.ltE (.add (.n i) (.n j)) (.n NU)).ok∧(Obl.ixL 0 (.add (.n i) (.n j)) 1 0 u).ok∧(Obl.inR .u64 (.nth u 0 (.add (.n i) (.n j)) 1 0)).ok∧(Obl.ltE (.n i) (.n L)).ok∧(Obl.ix 0 (.n i) 1 0 1 L).ok∧(Obl.inR .u64 (.fn fv 0 (.n i) 1 0)).ok)∧
  ((Obl.inR .u64 Y).ok∧(Obl.inR .u64 Z).ok∧(Obl.nz (.l 1000000000)).ok∧(Obl.inR .u32 (.rem Z (.l 1000000000))).ok∧(Obl.inR .u64 (.quo Z (.l 1000000000))).ok∧(Obl.inR .i64 (.add (.n i) (.l 1))).ok):=by
 obtain⟨s1,s2⟩:=hs.step hv (by omega) hx;have hc:=hs.c
 have hlen:=hs.len
 have wv:=bB hv i
 have wu:=bB hs.wd (j+i)
 obtain⟨a,ha⟩:=nm (v.getD i 0);obtain⟨b,hb⟩:=nm (u.getD (j+i) 0);rw[←ha]at hfv hx wv;rw[←hb]at hx wu;have iv:aX 0 (IE.n i).den 1 0=i:=by simp only[aX,IE.den];omega
 have iu:aX 0 (IE.add (.n i) (.n j)).den 1 0=j+i:=by simp only[aX,IE.den];omega
 have e1:(IE.fn fv 0 (.n i) 1 0).den=a:=by show fv (aX 0 (IE.n i).den 1 0)=a;rw[iv,hfv]
 have e2:(IE.nth u 0 (.add (.n i) (.n j)) 1 0).den=b:=by show u.getD (aX 0 (IE.add (.n i) (.n j)).den 1 0) 0=b;rw[iu,hb]
 have eY:Y.den=b+a:=by rw[hY];show(IE.nth u 0 (.add (.n i) (.n j)) 1 0).den+(IE.fn fv 0 (.n i) 1 0).den=_;rw[e1,e2]
 have eZ:Z.den=x:=by rw[hZ];show up+Y.den=x;rw[eY,hx]
 have e4:(IE.rem Z (.l 1000000000)).den=x%1000000000:=by show Z.den.tmod 1000000000=_;rw[eZ,Int.tmod_eq_emod_of_nonneg s1.1]
 have e5:(IE.quo Z (.l 1000000000)).den=x/1000000000:=by show Z.den.tdiv 1000000000=_;rw[eZ,Int.tdiv_eq_ediv_of_nonneg s1.1]
 refine⟨⟨e4,e5,iu⟩,⟨?_,?_,?_,bC _ _ _ e2 ?_,?_,?_,bC _ _ _ e1 ?_⟩,⟨bC _ _ _ eY ?_,bC _ _ _ eZ ?_,?_,bC _ _ _ e4 ?_,bC _ _ _ e5 ?_,?_⟩⟩
 case refine_1=>show lo _≤_∧_≤hi _;simp only[lo,hi,IE.den];omega
 case refine_2=>show _∧_;simp only[IE.den];omega
 case refine_3=>show _<_;rw[iu];omega
 case refine_5=>show _∧_;simp only[IE.den];omega
 case refine_6=>show _≤_;rw[iv];omega
 case refine_10=>show _≠_;simp[IE.den]
 case refine_13=>show lo _≤_∧_≤hi _;simp only[lo,hi,IE.den];omega
 all_goals simp only[lo,hi];omega
theorem aL9 {n m k:Nat}{UI:Int}{u qs:List Int}(h:Kn UI m k 0 u qs)(hU:UI=n)(hm:0<m):(val qs).toNat=n/m∧(val u).toNat=n%m:=by
 obtain⟨h1,h2⟩:=h.done (by omega);rw[h1,h2,hU];exact⟨rfl,rfl⟩
theorem aQx {n m fc mV:Nat}{q:List Int}(h:(val q).toNat=n*fc/mV)(hm:mV=m*fc)(f1:1≤fc):(val q).toNat=n/m:=by
 rw[h,hm,Nat.mul_div_mul_right _ _ (by omega)]
theorem aQy {n m fc k mV:Nat}{UI:Int}{u qs:List Int}(h:Kn UI mV k 0 u qs)(hU:UI=(n*fc:Nat))(hmV:mV=m*fc)(hm0:0<m)(f1:1≤fc)(hk:k≤2^38)(hku:k<u.length)(hkl:k=(aF (m*fc)).length):
  (u.take k).length=k∧(∀(i:Nat) (y:Int),(u.take k)[i]?=some y→u[i]?=some y)∧(val (u.take k)).toNat=n%m*fc∧Wd (u.take k)∧(aF (n%m*fc)).length≤2^39:=by
 have hV0:0<mV:=by rw[hmV];exact Nat.mul_pos hm0 (by omega)
 obtain⟨d1,d2⟩:=h.done (by omega);have h1:=kW (bK mV)
 rw[cN,hmV,←hkl]at h1;have h2:=jD (l:=u) (q:=k) (by omega)
 have h3:=cH (h.wu.take k)
 have h4:=cH (h.wu.drop k)
 have h5:val u<1000000000^k:=by
  rw[d2];have:=Int.emod_lt_of_pos UI (show(0:Int)<mV by omega)
  rw[hmV]at this ⊢;omega
 have h6:val (u.drop k)=0:=by
  apply Classical.byContradiction;intro hne;have h7:(1000000000:Int)^k*1≤1000000000^k*val (u.drop k):=Int.mul_le_mul_of_nonneg_left (by omega) (by have:=aBq k;omega)
  omega
 rw[h6,Int.mul_zero,Int.add_zero]at h2;have h8:(val (u.take k)).toNat=n%m*fc:=by
  rw[←h2,d2,hU,hmV];show(((n*fc%(m*fc):Nat):Int)).toNat=_
  rw[Int.toNat_natCast,Nat.mul_mod_mul_right]
 have hl:(u.take k).length=k:=by rw[List.length_take];omega
 refine⟨hl,fun i y hy=>?_,h8,h.wu.take k,?_⟩
 ·rw[List.getElem?_take]at hy;split at hy
  ·exact hy
  ·cases hy
 ·refine lTr (bR (k:=k) ?_) (by omega);have:val u<1000000000^k:=h5
  rw[h2]at this;have hc:((1000000000^k:Nat):Int)=(1000000000:Int)^k:=by simp
  omega
theorem PSim.numRow {c:Cx}{K:List KF}{n0:Nat}{D:Nat→Prop}{S:St}{X:Nat→Prop}{μ:Mu}{a:Act}{w:World}(H:PSim c K n0 D S X μ a w){k N cap n:Nat}{f:Nat→Int}{v:Value}(hk:S.hp[k]?=some (.xi .u32 N f))(hv:aC μ (.sl k 0 (.n N) cap)=some v)
  (hN:N=(aF n).length) (hf:∀i x,(aF n)[i]?=some x→f i=x) (hc:N≤cap):(aP n).p v X w:=
 H.row hk hv (by rw[hN];rfl) (fun j y hj=>by rw[Nat.zero_add];exact hf j y hj) (by omega) (by omega)
theorem jR {l:List Int}{f:Nat→Int}(hf:∀i x,l[i]?=some x→f i=x){i:Nat}(hi:i<l.length):f i=l.getD i 0:=by
 have:=List.getElem?_eq_getElem (l:=l) (i:=i) hi
 rw[hf i _ this,List.getD_eq_getElem?_getD,this];rfl
theorem sP {n:Nat}{b:Bool}(h:b=decide (n<1000000000000000000)):(b=true→n<1000000000000000000)∧(b=false→2<(aF n).length):=by
 constructor
 ·intro e;rw[e]at h;exact of_decide_eq_true h.symm
 ·intro e;rw[e]at h;have h1:=of_decide_eq_false h.symm
  apply Classical.byContradiction;intro h2;have:=bG (n:=n) (k:=2) (by omega)
  simp at this;omega
theorem aH1 {m M:Nat}(h1:M=1)(hM:M=(aF m).length):aF m=[(m:Int)]∧m<1000000000:=by
 have hlt:=bG (n:=m) (k:=1) (by omega)
 have hlt:m<1000000000:=by simpa using hlt
 refine⟨?_,hlt⟩;have h0:m≠0:=fun e=>by subst e;rw[bO]at hM;simp at hM;omega
 rw[bY h0,Nat.mod_eq_of_lt hlt,Nat.div_eq_of_lt hlt,bO]
theorem aQv {m M:Nat}(hM:M=(aF m).length)(h2:2≤M){t:Int}(ht:t=(aF m).getD (M - 1) 0):
  ∃fc:Nat,1000000000/(t+1)=(fc:Int)∧1≤t∧t<1000000000∧(aF (m*fc)).length=M∧500000000≤(aF (m*fc)).getD (M - 1) 0∧1≤fc∧fc<1000000000:=by
 obtain⟨k,rfl⟩:∃k,M=k+1:=⟨M - 1,by omega⟩;rw[Nat.add_sub_cancel]at ht ⊢;have ht1:=wL hM.symm
 have ht2:=bB (bK m) k
 rw[←ht]at ht1 ht2;obtain⟨q1,q2,q3,q4⟩:=aDm ⟨ht1,ht2.2⟩ rfl;obtain⟨fc,hfc⟩:∃fc:Nat,1000000000/(t+1)=(fc:Int):=⟨(1000000000/(t+1)).toNat,by omega⟩;obtain⟨r1,r2,r3,r4⟩:=aU8 (f:=fc) hM.symm (by rw[←ht,hfc]);exact⟨fc,hfc,ht1,ht2.2,r1,r2,r3,r4⟩
theorem aQw {n N fc:Nat}{U0:List Int}(hN:N=(aF n).length)(hU:U0=aF (n*fc))(hb:(aF n).length≤2^38)(f1:1≤fc)(f2:fc<1000000000):N≤U0.length∧U0.length≤2^38+1:=by
 rw[hU,hN];constructor
 ·exact bU (Nat.le_mul_of_pos_right _ f1)
 ·refine lTr (bR (k:=(aF n).length+1) ?_) (by omega);have h1:=bG (n:=n) (k:=(aF n).length) (lRf _)
  rw[Nat.pow_succ];exact Nat.mul_lt_mul_of_lt_of_le h1 (Nat.le_of_lt f2) (by decide)
theorem aUn {n m k T:Nat}{U z:List Int}(hU:U=aF n++[0])(hz:z=List.replicate T 0)(hk:k=(aF m).length)(h1:1≤k)(ht:500000000≤(aF m).getD (k - 1) 0)(hT:T+k=U.length):∃UI:Int,UI=n∧Kn UI m k T U z:=
 ⟨_,rfl,Kn.init hU hz hk.symm h1 ht hT⟩
theorem aQz {n m:Nat}{xs ys:Int}(hn:n<1000000000000000000)(hm:m<1000000000000000000)(hm0:0<m)(hxs:xs=if n<1000000000000000000 then(n:Int)else 0)(hys:ys=if m<1000000000000000000 then(m:Int)else 0):
  ys≠0∧(0≤xs.tdiv ys∧xs.tdiv ys<1000000000000000000∧(xs.tdiv ys).toNat=n/m)∧(0≤xs.tmod ys∧xs.tmod ys<1000000000000000000∧(xs.tmod ys).toNat=n%m):=by
 rw[if_pos hn]at hxs;rw[if_pos hm]at hys;subst hxs;subst hys;have e1:((n:Int)).tdiv m=((n/m:Nat):Int):=by rw[Int.tdiv_eq_ediv_of_nonneg (by omega)];rfl
 have e2:((n:Int)).tmod m=((n%m:Nat):Int):=by rw[Int.tmod_eq_emod_of_nonneg (by omega)];rfl
 rw[e1,e2];have h1:n/m≤n:=Nat.div_le_self _ _
 have h2:n%m<m:=Nat.mod_lt _ hm0
 generalize n/m=q at *;generalize n%m=r at *;omega
set_option maxHeartbeats 0 in
theorem yH {v u:Value}{X:Nat→Prop}{w:World}{n m:Nat}(hm0:0<m)(hbn:(aF n).length≤2^38)(hbm:(aF m).length≤2^38)(hX:∀b,X b→b<w.heap.size)(hv:(aP n).p v X w)(hu:(aP m).p u X w):
  Fn PP 263 [v,u] X w (kB (aP (n/m)) (aP (n%m))):=by
 obtain⟨R1,hR1⟩:∃R,R=aP (n/m):=⟨_,rfl⟩;obtain⟨R2,hR2⟩:∃R,R=aP (n%m):=⟨_,rfl⟩;obtain⟨R,hRR⟩:=nm (kB R1 R2);obtain⟨K,hK⟩:=nm ([KF.cst v (aP n),KF.cst u (aP m)]);have aN3:R=kB (aP (n/m)) (aP (n%m)):=by rw[hRR,hR1,hR2]
 rw[←aN3];refine bE mixed tok [.q v,.q u] (K:=K) Tryz.func263 rfl rfl (lbl rfl) rfl hX (by subst hK;simp;exact⟨hv,hu⟩) fun c hc hR=>?_
 refine dQ 0 .u32 (aF n) rfl rfl (fun X μ a w v' H hv'=>cE H (by simp[hK]) hv') fun f N cap hN hf dI=>?_
 refine dQ 1 .u32 (aF m) rfl rfl (fun X μ a w v' H hv'=>cE H (by simp[hK]) hv') fun f' M aZ hM hf' gW=>?_
 have kf:∀q,lC q K K:=fun q=>by subst hK;exact⟨⟨.head _,KFr.cst _ _ _⟩,⟨.tail _ (.head _),KFr.cst _ _ _⟩,trivial⟩
 have dA:∀(kd:IntKind) (e:IE) (z:Int),e.den=z→lo kd≤z∧z≤hi kd→(Obl.inR kd e).ok:=fun kd e z he hz=>by show _∧_;rw[he];exact hz
 have hM0:0<M:=by rw[hM,bY (by omega)];simp
 refine zN hc ?_;cbv;obtain⟨z,hz⟩:=nm (bS n m);refine bL hc (.i .i64 (.v z)) (r:=.int .i64 z) wT (fun n0 D X μ a w aL H aJ=>?_) rfl 100 ?_
 ·obtain⟨v1,v2,rfl,h1,h2⟩:=bX aJ;rw[hz];exact pF (by omega) (by omega) H.xlt (H.numRow rfl h1 hN hf dI) (H.numRow rfl h2 hM hf' gW)
 cbv;refine aE hc rfl 100 (fun h=>?_) (fun h=>?_)
 ·have h:z<0:=BE.lt_t h
  have hlt:n<m:=aE1 hz h
  cbv;refine aS hc hR rfl (fun X μ a w x H hx=>?_);obtain⟨vs,hvs,rfl⟩:=mH hx;obtain⟨v1,v2,rfl,h1,h2⟩:=bX hvs;rw[aN3];refine⟨_,_,rfl,?_,?_⟩
  ·have h1:=lI h1
   rw[h1,Nat.div_eq_of_lt hlt];exact aH0
  ·rw[Nat.mod_eq_of_lt hlt];exact H.toP.numRow rfl h2 hN hf dI
 ·have h:¬z<0:=BE.lt_f h
  have hle:m≤n:=aAp hz h
  have hNM:M≤N:=by rw[hN,hM];exact bU hle
  cbv;obtain⟨xs,hxs⟩:∃xs:Int,xs=if n<1000000000000000000 then(n:Int)else 0:=⟨_,rfl⟩
  obtain⟨xb,hxb⟩:∃xb:Bool,xb=decide (n<1000000000000000000):=⟨_,rfl⟩;obtain⟨ys,hys⟩:∃ys:Int,ys=if m<1000000000000000000 then(m:Int)else 0:=⟨_,rfl⟩
  obtain⟨yb,hyb⟩:∃yb:Bool,yb=decide (m<1000000000000000000):=⟨_,rfl⟩;refine bL hc (.t [.i .u64 (.v xs),.b (.v xb)]) (r:=.tuple #[.int .u64 xs,.bool xb]) uQ (fun n0 D X μ a w aL H aJ=>?_) rfl 100 ?_
  ·obtain⟨v1,rfl,h1⟩:=aV aJ;rw[hxs,hxb];exact nA H.xlt (H.numRow rfl h1 hN hf dI)
  cbv;refine bL hc (.t [.i .u64 (.v ys),.b (.v yb)]) (r:=.tuple #[.int .u64 ys,.bool yb]) uQ (fun n0 D X μ a w aL H aJ=>?_) rfl 100 ?_
  ·obtain⟨v1,rfl,h1⟩:=aV aJ;rw[hys,hyb];exact nA H.xlt (H.numRow rfl h1 hM hf' gW)
  cbv;have aDs:∀(k1 k2:Nat) (K':List KF) (S:St) (X:Nat→Prop) (μ:Mu) (a:Act) (w:World) (v:Value),Sim c K' S X μ a w→KF.at k1 R1∈K'→KF.at k2 R2∈K'→aC μ (.t [.e k1,.e k2])=some v→R.p v X w:=by
   intro k1 k2 K' S X μ a w v H m1 m2 hv;obtain⟨vs,hvs,rfl⟩:=mH hv;obtain⟨v1,v2,rfl,h1,h2⟩:=bX hvs;rw[hRR];exact⟨v1,v2,rfl,H.toP.val m1 h1,H.toP.val m2 h2⟩
  apply aQp (c:=c) (K:=K) (S':=⟨[(0,.sl 0 0 (.n N) cap),(1,.sl 1 0 (.n M) aZ),(59,.b (.eq (.n M) (.l 1)))],[.xi .u32 N f,.xi .u32 M f'],[]⟩) (fun gen=>?_)
  rotate_left 2
  refine bT hc 48 rfl rfl 100 (fun h=>?_) (fun h=>?_);have h:xb=true:=h
  cbv;refine aE hc rfl 100 (fun h2=>?_) (fun h2=>?_);have h2:yb=true:=h2
  obtain⟨d0,⟨d1,d2,d3⟩,⟨d4,d5,d6⟩⟩:=aQz ((sP hxb).1 h) ((sP hyb).1 h2) hm0 hxs hys;obtain⟨qq,hqq⟩:=nm (xs.tdiv ys);obtain⟨rr,hrr⟩:=nm (xs.tmod ys);rw[←hqq]at d1 d2 d3;rw[←hrr]at d4 d5 d6;have nz:(Obl.nz (IE.v ys)).ok:=d0
  have q1:(Obl.inR .u64 ((IE.v xs).quo (IE.v ys))).ok:=by show lo _≤xs.tdiv ys∧xs.tdiv ys≤hi _;rw[←hqq];simp only[lo,hi];omega
  cbv;refine aQ hc ⟨nz,q1,trivial⟩ ?_;refine mY (R:=R1) hc aP1 (fun D X μ a w aL H aJ=>?_) 100 ?_
  ·obtain⟨v1,rfl,h1⟩:=aV aJ;have h1:v1=.int .u64 qq:=by rw[bQ h1,hqq];rfl
   rw[h1,hR1,←d3];exact vU H.xlt d1 d2
  cbv;refine aQ hc ⟨nz,trivial⟩ ?_;refine mY (R:=R2) hc aP1 (fun D X μ a w aL H aJ=>?_) 100 ?_
  ·obtain⟨v1,rfl,h1⟩:=aV aJ;have h1:v1=.int .u64 rr:=by rw[bQ h1,hrr];rfl
   rw[h1,hR2,←d6];exact vU H.xlt d4 d5
  cbv;refine zE hc ?_;cbv;exact aS hc hR rfl (fun X μ a w x H hx=>aDs _ _ _ _ _ _ _ _ _ H (.tail _ (.head _)) (.head _) hx);cbv;exact zU 2 (S':=⟨[(0,.sl 0 0 (.n N) cap),(1,.sl 1 0 (.n M) aZ),(59,.b (.eq (.n M) (.l 1)))],[.xi .u32 N f,.xi .u32 M f'],[]⟩) (K':=K) ⟨zS rfl rfl,zS rfl rfl,zS rfl rfl,trivial⟩ (kf _) trivial gen;cbv;exact zU 2 (S':=⟨[(0,.sl 0 0 (.n N) cap),(1,.sl 1 0 (.n M) aZ),(59,.b (.eq (.n M) (.l 1)))],[.xi .u32 N f,.xi .u32 M f'],[]⟩) (K':=K) ⟨zS rfl rfl,zS rfl rfl,zS rfl rfl,trivial⟩ (kf _) trivial gen;refine aE hc rfl 100 (fun h=>?_) (fun h=>?_)
  ·have hM1:M=1:=BE.eqnl_t (k:=1) h
   obtain⟨hd,hlt⟩:=aH1 hM1 hM;have hg:f' 0=m:=hf' 0 _ (by rw[hd];rfl)
   have o1:(Obl.ltE (IE.l 0) (IE.n M)).ok:=by show _∧_;simp only[IE.den];omega
   have o2:(Obl.ix 0 (IE.l 0) 0 0 1 M).ok:=by show _≤_;simp only[aX,IE.den];omega
   have o3:(Obl.inR .u64 (IE.fn f' 0 (IE.l 0) 0 0)).ok:=by
    show lo _≤f' 0∧f' 0≤hi _
    rw[hg];simp only[lo,hi];omega
   cbv;refine aQ hc ⟨o1,o2,o3,trivial⟩ ?_;refine eE (R:=R) hc bAv (fun n0 D X μ a w aL H aJ=>?_) 100 ?_
   ·obtain⟨v1,v2,rfl,h1,h2⟩:=bX aJ;have h2:v2=.int .u64 (f' 0):=bQ h2
    rw[h2,hg,aN3];exact aLg hm0 hlt (by omega) H.xlt (H.numRow rfl h1 hN hf dI)
   cbv;refine rP 68 2 rfl rfl (R1:=R1) (R2:=R2) (by rw[←hRR];exact .head _) ?_;refine zN hc ?_;cbv;exact aS hc hR rfl (fun X μ a w x H hx=>aDs 3 4 _ _ _ _ _ _ _ H (.head _) (.tail _ (.head _)) hx)
  ·have hM2:M≠1:=BE.eqnl_f (k:=1) h
   obtain⟨t,ht⟩:=nm ((aF m).getD (M - 1) 0);obtain⟨fc,hfc,t1,t2,hvl,hvt,f1,f2⟩:=aQv hM (by omega) ht;have hix:aX 0 ((IE.n M).sub (IE.l 1)).den 1 0=M - 1:=by simp only[aX,IE.den];omega
   have hg:f' (aX 0 ((IE.n M).sub (IE.l 1)).den 1 0)=t:=by rw[hix,ht];exact jR hf' (by omega)
   have o1:(Obl.inR .i64 ((IE.n M).sub (IE.l 1))).ok:=by show lo _≤_∧_≤hi _;simp only[lo,hi,IE.den];omega
   have o2:(Obl.ltE ((IE.n M).sub (IE.l 1)) (IE.n M)).ok:=by show _∧_;simp only[IE.den];omega
   have o3:(Obl.ix 0 ((IE.n M).sub (IE.l 1)) 1 0 1 M).ok:=by show _≤_;rw[hix];omega
   have e1:(IE.fn f' 0 ((IE.n M).sub (IE.l 1)) 1 0).den=t:=hg
   have e2:((IE.fn f' 0 ((IE.n M).sub (IE.l 1)) 1 0).add (IE.l 1)).den=t+1:=by rw[←e1];rfl
   have e3:((IE.l 1000000000).quo ((IE.fn f' 0 ((IE.n M).sub (IE.l 1)) 1 0).add (IE.l 1))).den=fc:=by
    show(1000000000:Int).tdiv ((IE.fn f' 0 ((IE.n M).sub (IE.l 1)) 1 0).add (IE.l 1)).den=_
    rw[e2,Int.tdiv_eq_ediv_of_nonneg (by omega),hfc]
   have o4:=dA .u64 _ _ e1 (by simp only[lo,hi];omega)
   have o5:=dA .u64 _ _ e2 (by simp only[lo,hi];omega)
   have o6:(Obl.nz ((IE.fn f' 0 ((IE.n M).sub (IE.l 1)) 1 0).add (IE.l 1))).ok:=by show _≠_;rw[e2];omega
   have o7:=dA .u64 _ _ e3 (by simp only[lo,hi];omega)
   obtain⟨Ff,hFf⟩:∃R,R=aP fc:=⟨_,rfl⟩;cbv;refine aQ hc ⟨o1,o2,o3,o4,o5,o6,o7,trivial⟩ ?_;refine eE (R:=Ff) hc aP1 (fun n0 D X μ a w aL H aJ=>?_) 100 ?_
   ·obtain⟨v1,rfl,h1⟩:=aV aJ;have h1:v1=.int .u64 fc:=by rw[bQ h1,e3]
    have h2:=vU (x:=(fc:Int)) H.xlt (by omega) (by omega)
    rw[h1,hFf,←Int.toNat_natCast fc];exact h2
   cbv;obtain⟨K1,hK1⟩:=nm (KF.at 2 Ff::K);have kf1:∀q,2<q→lC q K1 K1:=fun q hq=>by subst hK1;subst hK;exact⟨⟨.head _,KFr.at hq _⟩,⟨.tail _ (.head _),KFr.cst _ _ _⟩,⟨.tail _ (.tail _ (.head _)),KFr.cst _ _ _⟩,trivial⟩
   have mF:KF.at 2 Ff∈K1:=by rw[hK1];exact .head _
   obtain⟨U0,hU0⟩:=nm (aF (n*fc));have hfl:(aF fc).length≤1:=bR (by simpa using f2)
   obtain⟨G,hG⟩:∃G:Option Addr→Nat→Nat→List Int→OF,∀a n cap l,G a n cap l=OF.row (.slice a n cap) c.B.heap.size 138 .u32 l:=⟨fun a n cap l=>OF.row (.slice a n cap) c.B.heap.size 138 .u32 l,fun _ _ _ _=>rfl⟩;have hU1:N≤U0.length∧U0.length≤2^38+1:=aQw hN hU0 hbn f1 f2
   obtain⟨Fv,hFv⟩:∃R,R=aP (m*fc):=⟨_,rfl⟩;refine Goal.k hK1 ?_;refine aVq hc aEv hG (fun X μ a w aL H aJ=>?_) (fun a1 n1 cap1 hn1=>?_) (e:=138) (kd:=.u32) (l:=U0)
   ·obtain⟨v1,v2,rfl,h1,h2⟩:=bX aJ;have k2:=H.toP.val mF h2
    rw[hFf]at k2;rw[hU0];exact aO5 (by omega) (by omega) H.toP.xlt (H.toP.numRow rfl h1 hN hf dI) k2
   refine zN hc ?_;cbv;refine mX hc _ rfl rfl rfl (kd:=.u32) hG rfl rfl rfl rfl rfl rfl rfl rfl rfl dL (by omega) (by omega) (fun a2 n2 sT U hn2 hU=>?_);have hU:U=U0++[0]:=hU
   refine zN hc ?_;cbv;refine eE (R:=Fv) hc aEv (fun n0 D X μ a w aL H aJ=>?_) 100 ?_
   ·obtain⟨v1,v2,rfl,h1,h2⟩:=bX aJ;have k2:=H.val mF h2
    rw[hFf]at k2;rw[hFv];exact aCb (by omega) (by omega) H.xlt (H.numRow rfl h1 hM hf' gW) k2
   cbv;refine aE hc rfl 0 (fun h=>?_) (fun h=>?_)
   ·exact absurd (BE.eqn_t h) (by omega)
   obtain⟨K2,hK2⟩:=nm (KF.at 4 Fv::K1);refine Goal.k hK2 ?_;have mV:KF.at 4 Fv∈K2:=by rw[hK2];exact .head _
   have mF2:KF.at 2 Ff∈K2:=by rw[hK2];exact .tail _ mF
   have kf2:∀q,4<q→lC q K2 K2:=fun q hq=>by subst hK2;subst hK1;subst hK;exact⟨⟨.head _,KFr.at hq _⟩,⟨.tail _ (.head _),KFr.at (by omega) _⟩,⟨.tail _ (.tail _ (.head _)),KFr.cst _ _ _⟩,⟨.tail _ (.tail _ (.tail _ (.head _))),KFr.cst _ _ _⟩,trivial⟩
   obtain⟨V,hV⟩:=nm (aF (m*fc));refine dQ 12 .u32 V rfl rfl (fun X μ a w v' H hv'=>by have:=H.toP.val mV hv';rw[hFv,←hV]at this;exact this) fun fv L aEy hL hfv bBs=>?_
   have aYk:U≠[]:=by rw[hU];simp
   refine aKt 11 rfl rfl (hG _ _ _ _) rfl aYk (fun NU hNU bDr=>?_);have hLM:L=M:=by rw[hL,hV,hvl]
   have bFy:NU=U0.length+1:=by rw[hNU,hU];simp
   have o1:(Obl.inR .i64 ((IE.n NU).sub (IE.n L))).ok:=by show lo _≤_∧_≤hi _;simp only[lo,hi,IE.den];omega
   refine zN hc ?_;cbv;refine aQ hc ⟨o1,trivial⟩ ?_;refine pW hc _ rfl rfl rfl .u32 rfl rfl rfl rfl rfl rfl rfl dL ?_ ?_ ?_ (fun T zs hT hzs=>?_)
   ·simp only[IE.den];omega
   ·simp only[IE.den];omega
   ·simp only[IE.den];omega
   have hT:T+L=NU:=by simp only[IE.den]at hT;omega
   obtain⟨mV,hmV⟩:=nm (m*fc);obtain⟨UI,hUI,kn0⟩:=aUn (n:=n*fc) (m:=mV) (k:=L) (T:=T) (U:=U) (z:=zs) (by rw[hU,hU0]) (by rw[hzs];first | done | (simp only[IE.den];first | done | (congr 1;omega))) (by rw[hL,hV,hmV]) (by omega) (by rw[hLM,hmV];exact hvt) (by omega);have hvV:V=aF mV:=by rw[hV,hmV]
   have aZb:500000000≤V.getD (L - 1) 0:=by rw[hLM,hV];exact hvt
   cbv;let HP:List Int→List Int→List Blk:=fun u q=>[.xi .u32 N f,.xi .u32 M f',.e,.c 138 [.i .u32 (.l 0)],.e,.xi .u32 L fv,.w 138 .u32 u,.r 138 .u32 q]
   let ι:={x:Nat × List Int × List Int//Kn UI mV L x.1 x.2.1 x.2.2∧x.1≤T∧x.2.1.length=NU∧x.2.2.length=T}
   let I:ι→St:=fun x=>⟨[(10,.e 2),(11,.sl 6 0 (.n NU) sT),(12,.sl 5 0 (.n L) aEy),(13,.i .i64 (.n L)),(14,.sl 7 0 (.n T) T),(15,.i .i64 (.sub (.n x.1.1) (.l 1)))],HP x.1.2.1 x.1.2.2,[]⟩
   have hzl:zs.length=T:=kn0.qlen (by omega)
   let x0:ι:=⟨(T,U,zs),kn0,lRf _,hNU.symm,hzl⟩
   have o1:(Obl.inR .i64 ((IE.n T).sub (IE.l 1))).ok:=by show lo _≤_∧_≤hi _;simp only[lo,hi,IE.den];omega
   refine zN hc ?_;cbv;refine zO hc ?_;refine zU 8 (S':=I x0) (K':=K2) ⟨zS rfl rfl,zS rfl rfl,zS rfl rfl,zS rfl rfl,zS rfl rfl,zS rfl rfl,trivial⟩ (kf2 _ (by decide)) trivial ?_;refine bP hc I (fun x=>x.1.1) x0 100 ?_;rintro p ⟨⟨cnt,u,qs⟩,hkn,hcT,hul,hql⟩ hy;simp only at hkn hcT hul hql;cbv;refine aE hc rfl 0 (fun h=>?_) (fun h=>?_)
   ·have h:=BE.pre_t h
    obtain⟨j,hj⟩:∃j,j+1=cnt:=⟨cnt - 1,by omega⟩;obtain⟨v1,v2,top,u0,u2,q,P,rd⟩:=Rd.mk' (j:=j) (v:=V) (by rw[hj];exact hkn) (by omega) hvV (by omega) (by omega) aZb;have ej:((IE.n cnt).sub (IE.l 1)).den=(IE.n j).den:=by simp only[IE.den];omega
    refine zU 8 (S':=⟨[(10,.e 2),(11,.sl 6 0 (.n NU) sT),(12,.sl 5 0 (.n L) aEy),(13,.i .i64 (.n L)),(14,.sl 7 0 (.n T) T),(15,.i .i64 (.n j))],HP u qs,[]⟩) (K':=K2) ⟨zS rfl rfl,zS rfl rfl,zS rfl rfl,zS rfl rfl,zS rfl rfl,zI rfl rfl ej,trivial⟩ (kf2 _ (by decide)) trivial ?_;have L2:2≤L:=by omega
    have hjT:j<T:=by omega
    have hLb:L≤2^38:=by omega
    have bBd:NU≤2^38+2:=by omega
    obtain⟨ua,hua⟩:=nm (u.getD (j+L - 1) 0);have wua:=bB rd.kn.wu (j+L - 1)
    have wu0:=bB rd.kn.wu (j+L)
    rw[←hua]at wua;rw[←rd.e0]at wu0;have b1:=rd.b1
    have b2:=rd.b2
    have b3:=rd.b3
    have b4:=rd.b4
    have etop:u0*1000000000+ua=top:=by rw[rd.e3,rd.e0,hua]
    have ix0:aX 0 ((IE.n j).add (IE.n L)).den 1 0=j+L:=by simp only[aX,IE.den];omega
    have ix1:aX 0 (((IE.n j).add (IE.n L)).sub (IE.l 1)).den 1 0=j+L - 1:=by simp only[aX,IE.den];omega
    have ix2:aX 0 (((IE.n j).add (IE.n L)).sub (IE.l 2)).den 1 0=j+L - 2:=by simp only[aX,IE.den];omega
    have iv1:aX 0 ((IE.n L).sub (IE.l 1)).den 1 0=L - 1:=by simp only[aX,IE.den];omega
    have iv2:aX 0 ((IE.n L).sub (IE.l 2)).den 1 0=L - 2:=by simp only[aX,IE.den];omega
    have g0:(IE.nth u 0 ((IE.n j).add (IE.n L)) 1 0).den=u0:=by show u.getD (aX 0 ((IE.n j).add (IE.n L)).den 1 0) 0=_;rw[ix0,rd.e0]
    have g1:(IE.nth u 0 (((IE.n j).add (IE.n L)).sub (IE.l 1)) 1 0).den=ua:=by show u.getD (aX 0 (((IE.n j).add (IE.n L)).sub (IE.l 1)).den 1 0) 0=_;rw[ix1,hua]
    have g2:(IE.nth u 0 (((IE.n j).add (IE.n L)).sub (IE.l 2)) 1 0).den=u2:=by show u.getD (aX 0 (((IE.n j).add (IE.n L)).sub (IE.l 2)).den 1 0) 0=_;rw[ix2,rd.e4]
    have gv1:(IE.fn fv 0 ((IE.n L).sub (IE.l 1)) 1 0).den=v1:=by show fv (aX 0 ((IE.n L).sub (IE.l 1)).den 1 0)=_;rw[iv1,rd.e1];exact jR hfv (by omega)
    have gv2:(IE.fn fv 0 ((IE.n L).sub (IE.l 2)) 1 0).den=v2:=by show fv (aX 0 ((IE.n L).sub (IE.l 2)).den 1 0)=_;rw[iv2,rd.e2];exact jR hfv (by omega)
    obtain⟨tm,htm⟩:=nm (u0*1000000000);have m0:((IE.nth u 0 ((IE.n j).add (IE.n L)) 1 0).mul (IE.l 1000000000)).den=tm:=by show(IE.nth u 0 ((IE.n j).add (IE.n L)) 1 0).den*1000000000=_;rw[g0,htm]
    have a0:(((IE.nth u 0 ((IE.n j).add (IE.n L)) 1 0).mul (IE.l 1000000000)).add (IE.nth u 0 (((IE.n j).add (IE.n L)).sub (IE.l 1)) 1 0)).den=top:=by show((IE.nth u 0 ((IE.n j).add (IE.n L)) 1 0).mul (IE.l 1000000000)).den+(IE.nth u 0 (((IE.n j).add (IE.n L)).sub (IE.l 1)) 1 0).den=_;rw[m0,g1,htm,etop]
    have p1:(Obl.inR .i64 ((IE.n j).add (IE.n L))).ok:=by show lo _≤_∧_≤hi _;simp only[lo,hi,IE.den];omega
    have p2:(Obl.inR .i64 (((IE.n j).add (IE.n L)).sub (IE.l 1))).ok:=by show lo _≤_∧_≤hi _;simp only[lo,hi,IE.den];omega
    have p3:(Obl.inR .i64 (((IE.n j).add (IE.n L)).sub (IE.l 2))).ok:=by show lo _≤_∧_≤hi _;simp only[lo,hi,IE.den];omega
    have p4:(Obl.ltE ((IE.n j).add (IE.n L)) (IE.n NU)).ok:=by show _∧_;simp only[IE.den];omega
    have p5:(Obl.ltE (((IE.n j).add (IE.n L)).sub (IE.l 1)) (IE.n NU)).ok:=by show _∧_;simp only[IE.den];omega
    have p6:(Obl.ltE (((IE.n j).add (IE.n L)).sub (IE.l 2)) (IE.n NU)).ok:=by show _∧_;simp only[IE.den];omega
    have p7:(Obl.ixL 0 ((IE.n j).add (IE.n L)) 1 0 u).ok:=by show _<_;rw[ix0];omega
    have p8:(Obl.ixL 0 (((IE.n j).add (IE.n L)).sub (IE.l 1)) 1 0 u).ok:=by show _<_;rw[ix1];omega
    have p9:(Obl.ixL 0 (((IE.n j).add (IE.n L)).sub (IE.l 2)) 1 0 u).ok:=by show _<_;rw[ix2];omega
    have p10:=dA .u64 _ _ g0 (by simp only[lo,hi];omega)
    have p11:=dA .u64 _ _ g1 (by simp only[lo,hi];omega)
    have p12:=dA .u64 _ _ g2 (by simp only[lo,hi];omega)
    have p13:=dA .u64 _ _ m0 (by simp only[lo,hi];omega)
    have p14:=dA .u64 _ _ a0 (by simp only[lo,hi];omega)
    have p15:(Obl.inR .i64 ((IE.n L).sub (IE.l 1))).ok:=by show lo _≤_∧_≤hi _;simp only[lo,hi,IE.den];omega
    have p16:(Obl.inR .i64 ((IE.n L).sub (IE.l 2))).ok:=by show lo _≤_∧_≤hi _;simp only[lo,hi,IE.den];omega
    have p17:(Obl.ltE ((IE.n L).sub (IE.l 1)) (IE.n L)).ok:=by show _∧_;simp only[IE.den];omega
    have p18:(Obl.ltE ((IE.n L).sub (IE.l 2)) (IE.n L)).ok:=by show _∧_;simp only[IE.den];omega
    have p19:(Obl.ix 0 ((IE.n L).sub (IE.l 1)) 1 0 1 L).ok:=by show _≤_;rw[iv1];omega
    have p20:(Obl.ix 0 ((IE.n L).sub (IE.l 2)) 1 0 1 L).ok:=by show _≤_;rw[iv2];omega
    have p21:=dA .u64 _ _ gv1 (by simp only[lo,hi];omega)
    have p22:=dA .u64 _ _ gv2 (by simp only[lo,hi];omega)
    have p23:(Obl.nz (IE.fn fv 0 ((IE.n L).sub (IE.l 1)) 1 0)).ok:=by show _≠_;rw[gv1];omega
    have gs0:=rd.gs
    obtain⟨gq,hgq⟩:=nm (top/v1);obtain⟨gr,hgr⟩:=nm (top%v1);rw[←hgq,←hgr]at gs0;have gb0:=rd.gbd gs0
    have d0:((((IE.nth u 0 ((IE.n j).add (IE.n L)) 1 0).mul (IE.l 1000000000)).add (IE.nth u 0 (((IE.n j).add (IE.n L)).sub (IE.l 1)) 1 0)).quo (IE.fn fv 0 ((IE.n L).sub (IE.l 1)) 1 0)).den=gq:=by
     show(((IE.nth u 0 ((IE.n j).add (IE.n L)) 1 0).mul (IE.l 1000000000)).add (IE.nth u 0 (((IE.n j).add (IE.n L)).sub (IE.l 1)) 1 0)).den.tdiv (IE.fn fv 0 ((IE.n L).sub (IE.l 1)) 1 0).den=_
     rw[a0,gv1,hgq,Int.tdiv_eq_ediv_of_nonneg b3.1]
    have r0:((((IE.nth u 0 ((IE.n j).add (IE.n L)) 1 0).mul (IE.l 1000000000)).add (IE.nth u 0 (((IE.n j).add (IE.n L)).sub (IE.l 1)) 1 0)).rem (IE.fn fv 0 ((IE.n L).sub (IE.l 1)) 1 0)).den=gr:=by
     show(((IE.nth u 0 ((IE.n j).add (IE.n L)) 1 0).mul (IE.l 1000000000)).add (IE.nth u 0 (((IE.n j).add (IE.n L)).sub (IE.l 1)) 1 0)).den.tmod (IE.fn fv 0 ((IE.n L).sub (IE.l 1)) 1 0).den=_
     rw[a0,gv1,hgr,Int.tmod_eq_emod_of_nonneg b3.1]
    have p24:=dA .u64 _ _ d0 (by simp only[lo,hi];omega)
    refine zN hc ?_;cbv;refine zO hc ?_;refine zE hc ?_;cbv;refine zO hc ?_;refine cP hc _ rfl rfl rfl rfl rfl 0 ?_;refine zE hc ?_;cbv;have bEd:gr<1000000000:=by have:=Int.emod_lt_of_pos top (show 0<v1 by omega);omega
    let BB:List (Nat × AV):=[(10,.e 2),(11,.sl 6 0 (.n NU) sT),(12,.sl 5 0 (.n L) aEy),(13,.i .i64 (.n L)),(14,.sl 7 0 (.n T) T),(15,.i .i64 (.n j))]
    let ιg:={x:Int × Int//Gs v1 v2 top u2 q x.1 x.2∧x.2<1000000000}
    let Ig:ιg→St:=fun x=>⟨(17,.i .u64 (.v x.1.1))::(18,.i .u64 (.v x.1.2))::BB,HP u qs,[]⟩
    let xg:ιg:=⟨(gq,gr),gs0,bEd⟩
    refine zU 8 (S':=Ig xg) (K':=K2) ⟨zI rfl rfl d0,zI rfl rfl r0,zS rfl rfl,zS rfl rfl,zS rfl rfl,zS rfl rfl,zS rfl rfl,zS rfl rfl,trivial⟩ (kf2 _ (by decide)) trivial ?_;refine aBw (fun z:Int=>q≤z∧z≤q+1∧0≤z∧z<1000000000) (fun z=>⟨(17,.i .u64 (.v z))::BB,HP u qs,[]⟩) rfl (fun r hr=>?_) (fun g hg=>?_)
    ·refine bP hc Ig (fun x=>x.1.1.toNat) xg 100 ?_;rintro p' ⟨⟨g,rs⟩,hgs,hrs⟩ hyg;simp only at hgs hrs;obtain⟨⟨e1,e2,e3⟩,w1,w2,w3,w4,w5⟩:=bA5 rd hgs hrs gv1 gv2 g2;have egs:(IE.sub (.v g) (.l 1)).den=g - 1:=rfl
     have hbk:(1000000000≤g∨rs*1000000000+u2<g*v2)→Gs v1 v2 top u2 q (g - 1) (rs+v1)∧1≤g:=fun h=>rd.gstep hgs h
     have w6:(1000000000≤g∨rs*1000000000+u2<g*v2)→(Obl.inR .u64 (IE.sub (.v g) (.l 1))).ok:=fun h=>w5 (hbk h).2
     have hmg:1≤g→(g - 1).toNat<g.toNat:=fun h=>by omega
     have hdn:∀z rs',Gs v1 v2 top u2 q z rs'→((z<1000000000∧z*v2≤rs'*1000000000+u2)∨1000000000≤rs')→q≤z∧z≤q+1∧0≤z∧z<1000000000:=fun z rs' h h'=>rd.gdone h h'
     by_cases hcc:1000000000≤g∨rs*1000000000+u2<g*v2
     ·obtain⟨aCi,g1⟩:=hbk hcc;have w7:=w5 g1
      obtain⟨g',hg'⟩:=nm (g - 1);obtain⟨rs',aRq⟩:=nm (rs+v1);have hmg:=hmg g1
      rw[←hg',←aRq]at aCi;rw[←hg']at hmg egs;rw[←aRq]at e3;apply aQp (c:=c) (K:=K2) (S':=⟨(17,.i .u64 (.v g'))::(18,.i .u64 (.v rs'))::(179,.b (.le (.l 1000000000) (.v rs')))::BB,HP u qs,[]⟩) (fun gen=>?_)
      rotate_left 2
      ·cbv;have fin:∀(μ:Mu),aC μ (.b (.le (.l 1000000000) (.add (.v rs) (.fn fv 0 ((IE.n L).sub (IE.l 1)) 1 0))))=aC μ (.b (.le (.l 1000000000) (.v rs'))):=fun μ=>by simp only[aC,BE.den,e3];rfl
       refine bT hc 146 rfl rfl 100 (fun h=>?_) (fun h=>?_)
       ·cbv;refine zE hc ?_;cbv;refine zO hc ?_;exact zU 8 (S':=⟨(17,.i .u64 (.v g'))::(18,.i .u64 (.v rs'))::(179,.b (.le (.l 1000000000) (.v rs')))::BB,HP u qs,[]⟩) (K':=K2) ⟨zI rfl rfl egs,zI rfl rfl e3,⟨_,rfl,rfl,fin⟩,zS rfl rfl,zS rfl rfl,zS rfl rfl,zS rfl rfl,zS rfl rfl,zS rfl rfl,trivial⟩ (kf2 _ (by decide)) trivial gen
       ·have h:¬1000000000≤g:=BE.le_f h
        cbv;refine zO hc ?_;refine zE hc ?_;cbv;refine aE hc rfl 100 (fun h2=>?_) (fun h2=>?_)
        ·cbv;refine zO hc ?_;exact zU 8 (S':=⟨(17,.i .u64 (.v g'))::(18,.i .u64 (.v rs'))::(179,.b (.le (.l 1000000000) (.v rs')))::BB,HP u qs,[]⟩) (K':=K2) ⟨zI rfl rfl egs,zI rfl rfl e3,⟨_,rfl,rfl,fin⟩,zS rfl rfl,zS rfl rfl,zS rfl rfl,zS rfl rfl,zS rfl rfl,zS rfl rfl,trivial⟩ (kf2 _ (by decide)) trivial gen
        ·have h2:=BE.lt_f h2
         rw[e1,e2]at h2;exact absurd hcc (by omega)
      ·refine aE hc rfl 100 (fun h2=>?_) (fun h2=>?_)
       ·have h2:1000000000≤rs':=BE.le_t h2
        cbv;exact zU 8 (S':=⟨(17,.i .u64 (.v g'))::BB,HP u qs,[]⟩) (K':=K2) ⟨zS rfl rfl,zS rfl rfl,zS rfl rfl,zS rfl rfl,zS rfl rfl,zS rfl rfl,zS rfl rfl,trivial⟩ (kf2 _ (by decide)) trivial (hr g' (hdn _ _ aCi (.inr h2)))
       ·have h2:¬1000000000≤rs':=BE.le_f h2
        cbv;exact zU 8 (S':=Ig ⟨(g',rs'),aCi,by omega⟩) (K':=K2) ⟨zS rfl rfl,zS rfl rfl,zS rfl rfl,zS rfl rfl,zS rfl rfl,zS rfl rfl,zS rfl rfl,zS rfl rfl,trivial⟩ (kf2 _ (by decide)) trivial (hyg ⟨(g',rs'),aCi,by omega⟩ hmg)
     ·have hne:¬1000000000≤g:=fun h=>hcc (.inl h)
      have aY5:¬rs*1000000000+u2<g*v2:=fun h=>hcc (.inr h)
      cbv;refine bT hc 146 rfl rfl 100 (fun h=>?_) (fun h=>?_)
      ·exact absurd (BE.le_t h) hne
      ·cbv;refine zO hc ?_;refine zE hc ?_;cbv;refine aE hc rfl 100 (fun h2=>?_) (fun h2=>?_)
       ·have h2:=BE.lt_t h2
        rw[e1,e2]at h2;exact absurd h2 aY5
       ·cbv;exact zU 8 (S':=⟨(17,.i .u64 (.v g))::BB,HP u qs,[]⟩) (K':=K2) ⟨zS rfl rfl,zS rfl rfl,zS rfl rfl,zS rfl rfl,zS rfl rfl,zS rfl rfl,zS rfl rfl,trivial⟩ (kf2 _ (by decide)) trivial (hr g (hdn _ _ hgs (.inl ⟨by omega,by omega⟩)))
    ·obtain⟨hq1,hq2,hg0,hgB⟩:=hg;let ιs:={x:Nat × List Int × Int × Int//Sm u x.2.1 V j x.1 g x.2.2.1 x.2.2.2∧x.1≤L}
     let Is:ιs→St:=fun x=>⟨(181,.i .i64 (.n x.1.1))::(180,.i .i64 (.n L))::(20,.i .i64 (.v x.1.2.2.2))::(19,.i .i64 (.v x.1.2.2.1))::(17,.i .u64 (.v g))::BB,HP x.1.2.1 qs,[]⟩
     have hVL:V.length=L:=hL.symm
     have wV:Wd V:=by rw[hV];exact bK _
     let xs0:ιs:=⟨(0,u,0,0),Sm.init rd.kn.wu j g,Nat.zero_le _⟩
     refine zN hc ?_;cbv;refine zU 8 (S':=Is xs0) (K':=K2) ⟨zS rfl rfl,zS rfl rfl,zS rfl rfl,zS rfl rfl,zS rfl rfl,zS rfl rfl,zS rfl rfl,zS rfl rfl,zS rfl rfl,zS rfl rfl,zS rfl rfl,trivial⟩ (kf2 _ (by decide)) trivial ?_;refine bP hc Is (fun x=>L - x.1.1) xs0 100 ?_;rintro p' ⟨⟨i,ut,cr,bw⟩,hSm,aJw⟩ hys;simp only at hSm aJw;cbv;refine aE hc rfl 100 (fun h=>?_) (fun h=>?_)
     ·have hiL:i<L:=BE.ltn_t h
      obtain⟨pp,hpp⟩:=nm (g*V.getD i 0+cr);obtain⟨dd,hdd⟩:=nm (ut.getD (j+i) 0 - pp%1000000000 - bw);obtain⟨⟨f1,f2,f3,f4⟩,⟨k1,k2,k3,k4,k5,k6,k7,k8⟩,⟨k9,k10,k11,k12,k13,k14,k15⟩,k16,k17,k18⟩:=bDk (NU:=NU) (L:=L) hSm wV ⟨hg0,hgB⟩ (by omega) hiL bBd hul hpp hdd (jR hfv (by omega)) rfl rfl;obtain⟨_,_,st1,st2⟩:=hSm.step wV ⟨hg0,hgB⟩ (by omega) hpp hdd;have tU:aX 0 (IE.add (.n i) (.n j)).den 1 0<ut.length:=by rw[f4,hSm.len];omega
      cbv;refine zO hc ?_;obtain⟨cr',aYq⟩:=nm (pp/1000000000);obtain⟨i',hi'⟩:=nm (i+1);obtain⟨_,ddb,_,_⟩:=hSm.step wV ⟨hg0,hgB⟩ (by omega) hpp hdd;rw[←aYq]at st1 st2 f2;rw[←hi']at st1 st2;have hi1:((IE.n i).add (IE.l 1)).den=(IE.n i').den:=by simp only[IE.den,hi'];omega
      have tT:i'≤L:=by omega
      have hms:L - i'<L - i:=by omega
      have fB:(BE.lt (((IE.nth ut 0 ((IE.n i).add (IE.n j)) 1 0).sub ((((IE.v g).mul (IE.fn fv 0 (IE.n i) 1 0)).add (IE.v cr)).rem (IE.l 1000000000))).sub (IE.v bw)) (IE.l 0)).den=(BE.lt (.v dd) (.l 0)).den:=by simp only[BE.den,f1];rfl
      have w1:(Obl.inR .i64 (.add (.v dd) (.l 1000000000))).ok:=bC _ _ (dd+1000000000) rfl (by simp only[lo,hi];omega)
      have w2:dd<0→(Obl.inR .u32 (.add (.v dd) (.l 1000000000))).ok:=fun h=>bC _ _ (dd+1000000000) rfl (by simp only[lo,hi];omega)
      have w3:¬dd<0→(Obl.inR .u32 (.v dd)).ok:=fun h=>bC _ _ dd rfl (by simp only[lo,hi];omega)
      refine zU 8 (S':=⟨(209,.b (.lt (.v dd) (.l 0)))::(23,.i .i64 (.v dd))::(20,.i .i64 (.l 0))::(19,.i .i64 (.v cr'))::(21,.i .i64 (.n i))::(181,.i .i64 (.n i))::(180,.i .i64 (.n L))::(17,.i .u64 (.v g))::BB,HP ut qs,[]⟩) (K':=K2) ⟨⟨_,rfl,rfl,fun μ=>congrArg (fun z=>some (Value.bool z)) fB⟩,zI rfl rfl f1,zS rfl rfl,zI rfl rfl f2,zS rfl rfl,zS rfl rfl,zS rfl rfl,zS rfl rfl,zS rfl rfl,zS rfl rfl,zS rfl rfl,zS rfl rfl,zS rfl rfl,zS rfl rfl,trivial⟩ (kf2 _ (by decide)) trivial ?_;refine aE hc rfl 100 (fun h2=>?_) (fun h2=>?_)
      ·have h2:dd<0:=BE.lt_t h2
       have w2:=w2 h2
       have st1:=st1 h2
       cbv;refine zO hc ?_;refine gE hc _ rfl rfl (r:=(6,138,.u32,ut,aX 0 ((IE.n i).add (IE.n j)).den 1 0,(.add (.v dd) (.l 1000000000)))) rfl tU (fun l' hl'=>?_);have hl':l'=ut.set (j+i) (dd+1000000000):=by rw[hl',←f4];rfl
       rw[←hl']at st1;refine zN hc ?_;cbv;refine zO hc ?_;exact zU 8 (S':=Is ⟨(i',l',cr',1),st1,tT⟩) (K':=K2) ⟨zI rfl rfl hi1,zS rfl rfl,zS rfl rfl,zS rfl rfl,zS rfl rfl,zS rfl rfl,zS rfl rfl,zS rfl rfl,zS rfl rfl,zS rfl rfl,zS rfl rfl,trivial⟩ (kf2 _ (by decide)) trivial (hys ⟨(i',l',cr',1),st1,tT⟩ hms)
      ·have h2:¬dd<0:=BE.lt_f h2
       have w3:=w3 h2
       have st2:=st2 h2
       cbv;refine zO hc ?_;refine gE hc _ rfl rfl (r:=(6,138,.u32,ut,aX 0 ((IE.n i).add (IE.n j)).den 1 0,(.v dd))) rfl tU (fun l' hl'=>?_);have hl':l'=ut.set (j+i) dd:=by rw[hl',←f4];rfl
       rw[←hl']at st2;refine zN hc ?_;cbv;refine zO hc ?_;exact zU 8 (S':=Is ⟨(i',l',cr',0),st2,tT⟩) (K':=K2) ⟨zI rfl rfl hi1,zS rfl rfl,zS rfl rfl,zS rfl rfl,zS rfl rfl,zS rfl rfl,zS rfl rfl,zS rfl rfl,zS rfl rfl,zS rfl rfl,zS rfl rfl,trivial⟩ (kf2 _ (by decide)) trivial (hys ⟨(i',l',cr',0),st2,tT⟩ hms)
     ·have hiL:L≤i:=BE.ltn_f h
      have aFa:L=i:=by omega
      subst aFa;obtain⟨ll,hll⟩:=nm (ut.getD (j+L) 0 - cr - bw);have aRk:=rd.last hSm ⟨hq1,hq2⟩ hll
      have aHj:ut.length=NU:=by rw[hSm.len,hul]
      obtain⟨ul,aRu⟩:=nm (ut.getD (j+L) 0);have wul:=bB hSm.wd (j+L)
      rw[←aRu]at wul hll;have hcr:=hSm.c
      have hbw:=hSm.b
      have eul:(IE.nth ut 0 ((IE.n j).add (IE.n L)) 1 0).den=ul:=by show ut.getD (aX 0 ((IE.n j).add (IE.n L)).den 1 0) 0=_;rw[ix0,aRu]
      obtain⟨l1,hl1⟩:=nm (ul - cr);have el1:((IE.nth ut 0 ((IE.n j).add (IE.n L)) 1 0).sub (IE.v cr)).den=l1:=by show(IE.nth ut 0 ((IE.n j).add (IE.n L)) 1 0).den - cr=_;rw[eul,hl1]
      have ell:(((IE.nth ut 0 ((IE.n j).add (IE.n L)) 1 0).sub (IE.v cr)).sub (IE.v bw)).den=ll:=by show((IE.nth ut 0 ((IE.n j).add (IE.n L)) 1 0).sub (IE.v cr)).den - bw=_;rw[el1,hl1,hll]
      have w1:(Obl.ixL 0 ((IE.n j).add (IE.n L)) 1 0 ut).ok:=by show _<_;rw[ix0];omega
      have w2:=dA .i64 _ _ eul (by simp only[lo,hi];omega)
      have w3:=dA .i64 _ _ el1 (by simp only[lo,hi];omega)
      have w4:=dA .i64 _ _ ell (by simp only[lo,hi];omega)
      have fB:(BE.lt (((IE.nth ut 0 ((IE.n j).add (IE.n L)) 1 0).sub (IE.v cr)).sub (IE.v bw)) (IE.l 0)).den=(BE.lt (.v ll) (.l 0)).den:=by simp only[BE.den,ell];rfl
      cbv;refine zO hc ?_;refine zU 8 (S':=⟨(232,.b (.lt (.v ll) (.l 0)))::(24,.i .i64 (.v ll))::(17,.i .u64 (.v g))::BB,HP ut qs,[]⟩) (K':=K2) ⟨⟨_,rfl,rfl,fun μ=>congrArg (fun z=>some (Value.bool z)) fB⟩,zI rfl rfl ell,zS rfl rfl,zS rfl rfl,zS rfl rfl,zS rfl rfl,zS rfl rfl,zS rfl rfl,zS rfl rfl,trivial⟩ (kf2 _ (by decide)) trivial ?_;refine aVr (fun uf:List Int=>Kn UI mV L j (uf.set (j+L) 0) (qs.set j q)∧uf.length=NU) (fun uf=>⟨(24,.i .i64 (.l 0))::(17,.i .u64 (.v q))::BB,HP uf qs,[]⟩) rfl (fun r hr=>?_) (fun uf huf=>?_)
      ·rcases aRk with⟨k1,k2,k3⟩ | ⟨k1,k2,k3⟩
       ·refine aE hc rfl 100 (fun h2=>?_) (fun h2=>?_)
        ·exact absurd (BE.lt_t h2) (by rw[k1];simp[IE.den])
        ·rw[k2]at k3;have k1':(IE.v ll).den=(IE.l 0).den:=k1
         have k2':(IE.v g).den=(IE.v q).den:=k2
         cbv;exact zU 8 (S':=⟨(24,.i .i64 (.l 0))::(17,.i .u64 (.v q))::BB,HP ut qs,[]⟩) (K':=K2) ⟨zI rfl rfl k1',zI rfl rfl k2',zS rfl rfl,zS rfl rfl,zS rfl rfl,zS rfl rfl,zS rfl rfl,zS rfl rfl,trivial⟩ (kf2 _ (by decide)) trivial (hr ut ⟨k3,aHj⟩)
       ·refine aE hc rfl 100 (fun h2=>?_) (fun h2=>?_)
        ·have hq0:=rd.q0
         have w5:(Obl.inR .u64 (IE.sub (.v g) (.l 1))).ok:=bC _ _ (g - 1) rfl (by simp only[lo,hi];omega)
         have eq1:(IE.sub (.v g) (.l 1)).den=(IE.v q).den:=by show g - 1=q;omega
         cbv;refine zO hc ?_;let ιa:={x:Nat × List Int × Int//Ad ut x.2.1 V j x.1 x.2.2∧x.1≤L}
         let Ia:ιa→St:=fun x=>⟨(236,.i .i64 (.n x.1.1))::(235,.i .i64 (.n L))::(25,.i .u64 (.v x.1.2.2))::(24,.i .i64 (.v ll))::(17,.i .u64 (.v q))::BB,HP x.1.2.1 qs,[]⟩
         let xa0:ιa:=⟨(0,ut,0),Ad.init hSm.wd j,Nat.zero_le _⟩
         refine zU 8 (S':=Ia xa0) (K':=K2) ⟨zS rfl rfl,zS rfl rfl,zS rfl rfl,zS rfl rfl,zI rfl rfl eq1,zS rfl rfl,zS rfl rfl,zS rfl rfl,zS rfl rfl,zS rfl rfl,zS rfl rfl,trivial⟩ (kf2 _ (by decide)) trivial ?_;refine bP hc Ia (fun x=>L - x.1.1) xa0 100 ?_;rintro p'' ⟨⟨i,ua',up⟩,hAd,aJw⟩ hya;simp only at hAd aJw;cbv;refine aE hc rfl 100 (fun h=>?_) (fun h=>?_)
         ·have hiL:i<L:=BE.ltn_t h
          obtain⟨xx,hxx⟩:=nm (up+(ua'.getD (j+i) 0+V.getD i 0));obtain⟨⟨f1,f2,f4⟩,⟨m1,m2,m3,m4,m5,m6,m7⟩,⟨m8,m9,m10,m11,m12,m13⟩⟩:=bDj (NU:=NU) (L:=L) hAd wV (by omega) hiL bBd aHj hxx (jR hfv (by omega)) rfl rfl;have st:=(hAd.step wV (by omega) hxx).2
          have tU:aX 0 (IE.add (.n i) (.n j)).den 1 0<ua'.length:=by rw[f4,hAd.len];omega
          obtain⟨up',aZa⟩:=nm (xx/1000000000);obtain⟨i',hi'⟩:=nm (i+1);rw[←aZa]at st f2;rw[←hi']at st;have hi1:((IE.n i).add (IE.l 1)).den=(IE.n i').den:=by simp only[IE.den,hi'];omega
          have tT:i'≤L:=by omega
          have hms:L - i'<L - i:=by omega
          cbv;refine zO hc ?_;refine zE hc ?_;cbv;refine zO hc ?_;refine gE hc _ rfl rfl (r:=(6,138,.u32,ua',aX 0 ((IE.n i).add (IE.n j)).den 1 0,(IE.rem (IE.add (.v up) (IE.add (.nth ua' 0 (.add (.n i) (.n j)) 1 0) (.fn fv 0 (.n i) 1 0))) (.l 1000000000)))) rfl tU (fun l' hl'=>?_);have hl':l'=ua'.set (j+i) (xx%1000000000):=by rw[hl',←f4,←f1]
          rw[←hl']at st;refine zN hc ?_;cbv;refine zO hc ?_;exact zU 8 (S':=Ia ⟨(i',l',up'),st,tT⟩) (K':=K2) ⟨zI rfl rfl hi1,zS rfl rfl,zI rfl rfl f2,zS rfl rfl,zS rfl rfl,zS rfl rfl,zS rfl rfl,zS rfl rfl,zS rfl rfl,zS rfl rfl,zS rfl rfl,trivial⟩ (kf2 _ (by decide)) trivial (hya ⟨(i',l',up'),st,tT⟩ hms)
         ·have hiL:L≤i:=BE.ltn_f h
          have aFa:L=i:=by omega
          subst aFa;have aYj:Sm u ut V j L (q+1) cr bw:=by rw[←k2];exact hSm
          obtain⟨hup,aRh⟩:=rd.back aYj k3 hAd;have w6:(Obl.inR .i64 (IE.v up)).ok:=bC _ _ up rfl (by simp only[lo,hi];omega)
          have e0:((IE.v ll).add (IE.v up)).den=(IE.l 0).den:=by show ll+up=0;omega
          have w7:(Obl.inR .i64 ((IE.v ll).add (IE.v up))).ok:=bC _ _ 0 e0 (by simp only[lo,hi];omega)
          have aY9:ua'.length=NU:=by rw[hAd.len,aHj]
          cbv;refine zO hc ?_;exact zU 8 (S':=⟨(24,.i .i64 (.l 0))::(17,.i .u64 (.v q))::BB,HP ua' qs,[]⟩) (K':=K2) ⟨zI rfl rfl e0,zS rfl rfl,zS rfl rfl,zS rfl rfl,zS rfl rfl,zS rfl rfl,zS rfl rfl,zS rfl rfl,trivial⟩ (kf2 _ (by decide)) trivial (hr ua' ⟨aRh,aY9⟩)
        ·exact absurd (BE.lt_f h2) (by rw[k1];simp[IE.den])
      ·obtain⟨hkf,aUz⟩:=huf;have hq0:=rd.q0
       have w1:(Obl.inR .u32 (IE.v q)).ok:=bC _ _ q rfl (by simp only[lo,hi];omega)
       have aY0:aX 0 ((IE.n j).add (IE.n L)).den 1 0<uf.length:=by rw[ix0];omega
       have w2:(Obl.ltE (IE.n j) (IE.n T)).ok:=by show _∧_;simp only[IE.den];omega
       have ixj:aX 0 (IE.n j).den 1 0=j:=by simp only[aX,IE.den];omega
       have aY1:aX 0 (IE.n j).den 1 0<qs.length:=by rw[ixj];omega
       have w3:(Obl.inR .i64 ((IE.n j).sub (IE.l 1))).ok:=by show lo _≤_∧_≤hi _;simp only[lo,hi,IE.den];omega
       refine zN hc ?_;cbv;refine zO hc ?_;refine gE hc _ rfl rfl (r:=(6,138,.u32,uf,aX 0 ((IE.n j).add (IE.n L)).den 1 0,.l 0)) rfl aY0 (fun l1 hl1=>?_);have hl1:l1=uf.set (j+L) 0:=by rw[hl1,←ix0];rfl
       refine zN hc ?_;cbv;refine zO hc ?_;refine iU hc _ rfl rfl (r:=(7,138,.u32,qs,aX 0 (IE.n j).den 1 0,.v q)) rfl aY1 (fun l2 hl2=>?_);have hl2:l2=qs.set (aX 0 (IE.n j).den 1 0) q:=hl2
       rw[ixj]at hl2;rw[←hl1,←hl2]at hkf;have bB6:l1.length=NU:=by rw[hl1,List.length_set];exact aUz
       have aRi:l2.length=T:=by rw[hl2,List.length_set];exact hql
       refine zN hc ?_;cbv;refine zO hc ?_;exact zU 8 (S':=I ⟨(j,l1,l2),hkf,by omega,bB6,aRi⟩) (K':=K2) ⟨zS rfl rfl,zS rfl rfl,zS rfl rfl,zS rfl rfl,zS rfl rfl,zS rfl rfl,trivial⟩ (kf2 _ (by decide)) trivial (hy ⟨(j,l1,l2),hkf,by omega,bB6,aRi⟩ (by show j<cnt;omega))
   ·have h:=BE.pre_f h
    have hkn:Kn UI mV L 0 u qs:=by rw[←h];exact hkn
    have hV0:0<mV:=by rw[hmV];exact Nat.mul_pos hm0 (by omega)
    obtain⟨d1,d2⟩:=aL9 hkn hUI hV0;obtain⟨fI,hfI⟩:∃fI:Int,fI=if fc<1000000000000000000 then(fc:Int)else 0:=⟨_,rfl⟩
    obtain⟨fb,hfb⟩:∃fb:Bool,fb=decide (fc<1000000000000000000):=⟨_,rfl⟩;have bD8:fI=fc:=by rw[hfI,if_pos (by omega)]
    have w1:(Obl.leE (IE.n L) sT).ok:=by show _∧_;simp only[IE.den];omega
    refine zN hc ?_;cbv;refine bL hc (.t [.i .u64 (.v fI),.b (.v fb)]) (r:=.tuple #[.int .u64 fI,.bool fb]) uQ (fun n0 D X μ a w aL H aJ=>?_) rfl 100 ?_
    ·obtain⟨v1',rfl,h1⟩:=aV aJ;have k2:=H.val mF2 h1
     rw[hFf]at k2;rw[hfI,hfb];exact nA H.xlt k2
    cbv;refine zO hc ?_;obtain⟨r1,r2,r3,r4,r5⟩:=aQy hkn hUI (by rw[hmV]) hm0 f1 (by omega) (by omega) (by rw[←hmV];rw[hL,hvV]);have hqb:qs.length≤2^40:=by omega
    have hub:(u.take L).length≤2^40:=by omega
    have aHj:(u.take L).length=L:=r1
    obtain⟨Fr,hFr⟩:∃R,R=aP (n%m*fc):=⟨_,rfl⟩;obtain⟨Fz,hFz⟩:∃R,R=aP (n%m*fc%fc):=⟨_,rfl⟩;obtain⟨Fp,hFp⟩:∃R,R=kB R2 Fz:=⟨_,rfl⟩;have hHP:(HP u qs)[6]?=some (.w 138 .u32 u):=rfl
    refine aD3 6 rfl rfl (fun g1 N1 hN1 hg1=>?_);have hN1:N1=u.length:=hN1
    have hg1:∀(i:Nat) (y:Int),u[i]?=some y→g1 i=y:=hg1
    refine eE (R:=Fr) hc qX (fun n0 D X μ a w aL H aJ=>?_) 100 ?_
    ·obtain⟨v1',rfl,h1⟩:=aV aJ;have h2:=H.row (l:=u.take L) rfl h1 (by rw[aHj];rfl) (fun i y hi=>by rw[Nat.zero_add];exact hg1 i y (r2 i y hi)) (by omega) (by omega)
     rw[hFr,←r3];exact kU r4 hub H.xlt h2
    cbv;refine eE (R:=Fp) hc bAv (fun n0 D X μ a w aL H aJ=>?_) 100 ?_
    ·obtain⟨v1',v2',rfl,h1,h2⟩:=bX aJ;have k1:=H.val (k:=8) (R:=Fr) (.head _) h1
     have h2:v2'=.int .u64 fI:=bQ h2
     rw[hFr]at k1;rw[h2,bD8,hFp,hR2,hFz];have:=aLg (by omega) f2 r5 H.xlt k1
     rw[Nat.mul_div_cancel _ (by omega)]at this;exact this
    cbv;refine rP 287 9 rfl rfl (R1:=R2) (R2:=Fz) (by rw[←hFp];exact .head _) ?_;refine zN hc ?_;cbv;refine oS 7 rfl rfl (fun g2' N2 hN2 aYw=>?_);have hN2:N2=qs.length:=hN2
    have aYw:∀(i:Nat) (y:Int),qs[i]?=some y→g2' i=y:=aYw
    refine eE (R:=R1) hc qX (fun n0 D X μ a w aL H aJ=>?_) 100 ?_
    ·obtain⟨v1',rfl,h1⟩:=aV aJ;have h2:=H.row (l:=qs) rfl h1 (by rw[hql];rfl) (fun i y hi=>by rw[Nat.zero_add];exact aYw i y hi) (by omega) (by omega)
     rw[hR1,←aQx d1 hmV f1];exact kU hkn.wq hqb H.xlt h2
    cbv;exact aS hc hR rfl (fun X μ a w x H hx=>aDs 12 10 _ _ _ _ _ _ _ H (.head _) (.tail _ (.head _)) hx)
end Go.Ai
