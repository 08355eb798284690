/- Part 10: lemmas for the particulars laws -/
import Derived.Test.YtafimpgfbgigeaaGreatDoorPh7
import Derived.Test.YtafimpgfbgigeaaGreatDoorPh8
set_option linter.all false
namespace Go.Ai
open Go Go.Proofs Go.Num
theorem aIx:aB PP 287:=zK
theorem aHe {n m:Nat}{z:Int}(hz:z=bD n m)(h:z<0):n<m:=by
 rw[hz]at h;unfold bD at h;split at h
 ·omega
 ·split at h<;>omega
theorem aCu {n m:Nat}{z:Int}(hz:z=bD n m)(h:¬z<0):m<=n:=by
 rw[hz]at h;unfold bD at h;split at h
 ·omega
 ·omega
theorem aKg {X:Nat->Prop}{w:World}:(aI 0).p (.slice none 0 0) X w:=
 ⟨none,0,by rw[bV];rfl,by rw[bV];exact lRf _,by rw[bV];exact⟨rfl,rfl⟩⟩
theorem bF (kd:IntKind)(e:IE)(z:Int)(he:e.den=z)(hz:lo kd<=z/\z<=hi kd):(Obl.inR kd e).ok:=by show _/\_;rw[he];exact hz
theorem bD1 {U0:Int}{m k j:Nat}{u qs v:List Int}{v1 v2 top u0 u2 q P g rs:Int}(rd:Rd U0 m k j u qs v v1 v2 top u0 u2 q P)(hg:Gs v1 v2 top u2 q g rs)(hr:rs<1000000000){e1 e2 e3:IE}(h1:e1.den=v1)(h2:e2.den=v2)(h3:e3.den=u2):
  ((IE.mul (.v g) e2).den=g*v2/\((IE.mul (.v rs) (.l 1000000000)).add e3).den=rs*1000000000+u2/\(IE.add (.v rs) e1).den=rs+v1)/\
  (Obl.inR .u64 (IE.mul (.v g) e2)).ok/\(Obl.inR .u64 (IE.mul (.v rs) (.l 1000000000))).ok/\(Obl.inR .u64 ((IE.mul (.v rs) (.l 1000000000)).add e3)).ok/\(Obl.inR .u64 (IE.add (.v rs) e1)).ok/\(1<=g->(Obl.inR .u64 (IE.sub (.v g) (.l 1))).ok):=by
 have hb:=rd.gbd hg
 have b1:=rd.b1
 have b4:=rd.b4
 have q1:(IE.mul (.v g) e2).den=g*v2:=by show g*e2.den=_;rw[h2]
 have q2:(IE.mul (.v rs) (.l 1000000000)).den=rs*1000000000:=rfl
 have q3:((IE.mul (.v rs) (.l 1000000000)).add e3).den=rs*1000000000+u2:=by show rs*1000000000+e3.den=_;rw[h3]
 have q4:(IE.add (.v rs) e1).den=rs+v1:=by show rs+e1.den=_;rw[h1]
 refine⟨⟨q1,q3,q4⟩,bF _ _ _ q1 ?_,bF _ _ _ q2 ?_,bF _ _ _ q3 ?_,bF _ _ _ q4 ?_,λh=>bF _ _ (g - 1) rfl ?_⟩<;>simp only[lo,hi]<;>omega
theorem bGn {u0 u v:List Int}{j i NU L:Nat}{g carry borrow p d:Int}{fv:Nat->Int}(hs:Sm u0 u v j i g carry borrow)(hv:Wd v)(hg:0<=g/\g<1000000000)(hjN:j+L<NU)(hL:i<L)(hNU:NU<=2^38+2)(hul:u0.length=NU)
  (hp:p=g*v.getD i 0+carry) (hd:d=u.getD (j+i) 0 - p%1000000000 - borrow) (hfv:fv i=v.getD i 0) {P Dd:IE} (hP:P=(IE.mul (.v g) (.fn fv 0 (.n i) 1 0)).add (.v carry)) (hD:Dd=IE.sub (IE.sub (.nth u 0 (.add (.n i) (.n j)) 1 0) (.rem P (.l 1000000000))) (.v borrow)):
  (Dd.den=d/\(IE.quo P (.l 1000000000)).den=p/1000000000/\(IE.add Dd (.l 1000000000)).den=d+1000000000/\aY 0 (IE.add (.n i) (.n j)).den 1 0=j+i)/\
  ((Obl.inR .i64 (.v g)).ok/\(Obl.ltE (.n i) (.n L)).ok/\(Obl.ix 0 (.n i) 1 0 1 L).ok/\(Obl.inR .i64 (.fn fv 0 (.n i) 1 0)).ok/\(Obl.inR .i64 (IE.mul (.v g) (.fn fv 0 (.n i) 1 0))).ok/\(Obl.inR .i64 P).ok/\(Obl.nz (.l 1000000000)).ok/\(Obl.inR .i64 (.quo P (.l 1000000000))).ok)/\
  ((Obl.inR .i64 (.add (.n i) (.n j))).ok/\(Obl.ltE (.add (.n i) (.n j)) (.n NU)).ok/\(Obl.ixL 0 (.add (.n i) (.n j)) 1 0 u).ok/\(Obl.inR .i64 (.nth u 0 (.add (.n i) (.n j)) 1 0)).ok/\(Obl.inR .i64 (IE.sub (.nth u 0 (.add (.n i) (.n j)) 1 0) (.rem P (.l 1000000000)))).ok/\(Obl.inR .i64 Dd).ok/\(Obl.inR .i64 (.add Dd (.l 1000000000))).ok)/\
  (d<0->(Obl.inR .u32 (.add Dd (.l 1000000000))).ok)/\(¬d<0->(Obl.inR .u32 Dd).ok)/\(Obl.inR .i64 (.add (.n i) (.l 1))).ok:=by
 obtain⟨s1,s2,s3,s4⟩:=hs.step hv hg zW hp hd;have hc:=hs.c;have hb:=hs.b;have hlen:=hs.len;have wv:=bA hv i;have wu:=bA hs.wd (j+i);obtain⟨x,hx⟩:=nm (v.getD i 0);obtain⟨y,hy⟩:=nm (u.getD (j+i) 0);rw[<-hx]at hfv hp wv;rw[<-hy]at hd wu;have iv:aY 0 (IE.n i).den 1 0=i:=by simp only[aY,IE.den];omega
 have iu:aY 0 (IE.add (.n i) (.n j)).den 1 0=j+i:=by simp only[aY,IE.den];omega
 have e1:(IE.fn fv 0 (.n i) 1 0).den=x:=by show fv (aY 0 (IE.n i).den 1 0)=x;rw[iv,hfv]
 have e2:(IE.nth u 0 (.add (.n i) (.n j)) 1 0).den=y:=by show u.getD (aY 0 (IE.add (.n i) (.n j)).den 1 0) 0=y;rw[iu,hy]
 obtain⟨z,hz⟩:=nm (g*x);have zb:0<=z/\z<=999999999*999999999:=by rw[hz];exact⟨Int.mul_nonneg hg.1 wv.1,Int.mul_le_mul zW zW wv.1 zW⟩
 rw[<-hz]at hp;have e3:(IE.mul (.v g) (.fn fv 0 (.n i) 1 0)).den=z:=by show g*(IE.fn fv 0 (.n i) 1 0).den=z;rw[e1,hz]
 have eP:P.den=p:=by rw[hP];show(IE.mul (.v g) (.fn fv 0 (.n i) 1 0)).den+carry=p;rw[e3,hp]
 have e4:(IE.rem P (.l 1000000000)).den=p%1000000000:=by show P.den.tmod 1000000000=_;rw[eP,Int.tmod_eq_emod_of_nonneg s1.1]
 have e5:(IE.quo P (.l 1000000000)).den=p/1000000000:=by show P.den.tdiv 1000000000=_;rw[eP,Int.tdiv_eq_ediv_of_nonneg s1.1]
 obtain⟨t,ht⟩:=nm (y - p%1000000000);have e6:(IE.sub (.nth u 0 (.add (.n i) (.n j)) 1 0) (.rem P (.l 1000000000))).den=t:=by
  show(IE.nth u 0 (.add (.n i) (.n j)) 1 0).den - (IE.rem P (.l 1000000000)).den=t;rw[e2,e4,ht]
 have eD:Dd.den=d:=by rw[hD];show(IE.sub (.nth u 0 (.add (.n i) (.n j)) 1 0) (.rem P (.l 1000000000))).den - borrow=d;rw[e6,ht,hd]
 have e7:(IE.add Dd (.l 1000000000)).den=d+1000000000:=by show Dd.den+1000000000=_;rw[eD]
 refine⟨⟨eD,e5,e7,iu⟩,⟨bF _ (IE.v g) g rfl ?_,?_,?_,bF _ _ _ e1 ?_,bF _ _ _ e3 ?_,bF _ _ _ eP ?_,?_,bF _ _ _ e5 ?_⟩,⟨?_,?_,?_,bF _ _ _ e2 ?_,bF _ _ _ e6 ?_,bF _ _ _ eD ?_,bF _ _ _ e7 ?_⟩,λh=>bF _ _ _ e7 ?_,λh=>bF _ _ _ eD ?_,?_⟩
 case refine_2=>show _/\_;simp only[IE.den];omega
 case refine_3=>show _<=_;rw[iv];omega
 case refine_7=>show _≠_;simp[IE.den]
 case refine_9=>show lo _<=_/\_<=hi _;simp only[lo,hi,IE.den];omega
 case refine_10=>show _/\_;simp only[IE.den];omega
 case refine_11=>show _<_;rw[iu];omega
 case refine_18=>show lo _<=_/\_<=hi _;simp only[lo,hi,IE.den];omega
 all_goals simp only[lo,hi];omega
theorem bGm {u0 u v:List Int}{j i NU L:Nat}{up x:Int}{fv:Nat->Int}(hs:Ad u0 u v j i up)(hv:Wd v)(hjN:j+L<NU)(hL:i<L)(hNU:NU<=2^38+2)(hul:u0.length=NU)
  (hx:x=up+(u.getD (j+i) 0+v.getD i 0)) (hfv:fv i=v.getD i 0) {Y Z:IE} (hY:Y=IE.add (.nth u 0 (.add (.n i) (.n j)) 1 0) (.fn fv 0 (.n i) 1 0)) (hZ:Z=IE.add (.v up) Y):
  ((IE.rem Z (.l 1000000000)).den=x%1000000000/\(IE.quo Z (.l 1000000000)).den=x/1000000000/\aY 0 (IE.add (.n i) (.n j)).den 1 0=j+i)/\
  ((Obl.inR .i64 (.add (.n i) (.n j))).ok/\(Obl.ltE (.add (.n i) (.n j)) (.n NU)).ok/\(Obl.ixL 0 (.add (.n i) (.n j)) 1 0 u).ok/\(Obl.inR .u64 (.nth u 0 (.add (.n i) (.n j)) 1 0)).ok/\(Obl.ltE (.n i) (.n L)).ok/\(Obl.ix 0 (.n i) 1 0 1 L).ok/\(Obl.inR .u64 (.fn fv 0 (.n i) 1 0)).ok)/\
  ((Obl.inR .u64 Y).ok/\(Obl.inR .u64 Z).ok/\(Obl.nz (.l 1000000000)).ok/\(Obl.inR .u32 (.rem Z (.l 1000000000))).ok/\(Obl.inR .u64 (.quo Z (.l 1000000000))).ok/\(Obl.inR .i64 (.add (.n i) (.l 1))).ok):=by
 obtain⟨s1,s2⟩:=hs.step hv zW hx;have hc:=hs.c;have hlen:=hs.len;have wv:=bA hv i;have wu:=bA hs.wd (j+i);obtain⟨a,ha⟩:=nm (v.getD i 0);obtain⟨b,hb⟩:=nm (u.getD (j+i) 0);rw[<-ha]at hfv hx wv;rw[<-hb]at hx wu;have iv:aY 0 (IE.n i).den 1 0=i:=by simp only[aY,IE.den];omega
 have iu:aY 0 (IE.add (.n i) (.n j)).den 1 0=j+i:=by simp only[aY,IE.den];omega
 have e1:(IE.fn fv 0 (.n i) 1 0).den=a:=by show fv (aY 0 (IE.n i).den 1 0)=a;rw[iv,hfv]
 have e2:(IE.nth u 0 (.add (.n i) (.n j)) 1 0).den=b:=by show u.getD (aY 0 (IE.add (.n i) (.n j)).den 1 0) 0=b;rw[iu,hb]
 have eY:Y.den=b+a:=by rw[hY];show(IE.nth u 0 (.add (.n i) (.n j)) 1 0).den+(IE.fn fv 0 (.n i) 1 0).den=_;rw[e1,e2]
 have eZ:Z.den=x:=by rw[hZ];show up+Y.den=x;rw[eY,hx]
 have e4:(IE.rem Z (.l 1000000000)).den=x%1000000000:=by show Z.den.tmod 1000000000=_;rw[eZ,Int.tmod_eq_emod_of_nonneg s1.1]
 have e5:(IE.quo Z (.l 1000000000)).den=x/1000000000:=by show Z.den.tdiv 1000000000=_;rw[eZ,Int.tdiv_eq_ediv_of_nonneg s1.1]
 refine⟨⟨e4,e5,iu⟩,⟨?_,?_,?_,bF _ _ _ e2 ?_,?_,?_,bF _ _ _ e1 ?_⟩,⟨bF _ _ _ eY ?_,bF _ _ _ eZ ?_,?_,bF _ _ _ e4 ?_,bF _ _ _ e5 ?_,?_⟩⟩
 case refine_1=>show lo _<=_/\_<=hi _;simp only[lo,hi,IE.den];omega
 case refine_2=>show _/\_;simp only[IE.den];omega
 case refine_3=>show _<_;rw[iu];omega
 case refine_5=>show _/\_;simp only[IE.den];omega
 case refine_6=>show _<=_;rw[iv];omega
 case refine_10=>show _≠_;simp[IE.den]
 case refine_13=>show lo _<=_/\_<=hi _;simp only[lo,hi,IE.den];omega
 all_goals simp only[lo,hi];omega
theorem aOs {n m k:Nat}{UI:Int}{u qs:List Int}(h:Kn UI m k 0 u qs)(hU:UI=n)(hm:0<m):(val qs).toNat=n/m/\(val u).toNat=n%m:=by
 obtain⟨h1,h2⟩:=h.done zW;rw[h1,h2,hU];exact⟨rfl,rfl⟩
theorem aTd {n m fc mV:Nat}{q:List Int}(h:(val q).toNat=n*fc/mV)(hm:mV=m*fc)(f1:1<=fc):(val q).toNat=n/m:=by
 rw[h,hm,Nat.mul_div_mul_right _ _ zW]
theorem aTe {n m fc k mV:Nat}{UI:Int}{u qs:List Int}(h:Kn UI mV k 0 u qs)(hU:UI=(n*fc:Nat))(hmV:mV=m*fc)(hm0:0<m)(f1:1<=fc)(hk:k<=2^38)(hku:k<u.length)(hkl:k=(aC (m*fc)).length):
  (u.take k).length=k/\(∀(i:Nat) (y:Int),(u.take k)[i]?=some y->u[i]?=some y)/\(val (u.take k)).toNat=n%m*fc/\Wd (u.take k)/\(aC (n%m*fc)).length<=2^39:=by
 have hV0:0<mV:=by rw[hmV];exact Nat.mul_pos hm0 zW
 obtain⟨d1,d2⟩:=h.done zW;have h1:=kG (bG mV);rw[cS,hmV,<-hkl]at h1;have h2:=kN (l:=u) (q:=k) zW;have h3:=cL (h.wu.take k);have h4:=cL (h.wu.drop k);have h5:val u<1000000000^k:=by
  rw[d2];have:=Int.emod_lt_of_pos UI (show(0:Int)<mV by omega);rw[hmV]at this |-;omega
 have h6:val (u.drop k)=0:=by
  apply Classical.byContradiction;intro hne;have h7:(1000000000:Int)^k*1<=1000000000^k*val (u.drop k):=Int.mul_le_mul_of_nonneg_left zW (by have:=aDz k;omega);omega
 rw[h6,Int.mul_zero,Int.add_zero]at h2;have h8:(val (u.take k)).toNat=n%m*fc:=by
  rw[<-h2,d2,hU,hmV];show(((n*fc%(m*fc):Nat):Int)).toNat=_
  rw[Int.toNat_natCast,Nat.mul_mod_mul_right]
 have hl:(u.take k).length=k:=by rw[List.length_take];omega
 refine⟨hl,λi y hy=>?_,h8,h.wu.take k,?_⟩
 ·rw[List.getElem?_take]at hy;split at hy
  ·exact hy
  ·cases hy
 ·refine lTr (bP (k:=k) ?_) zW;have:val u<1000000000^k:=h5;rw[h2]at this;have hc:((1000000000^k:Nat):Int)=(1000000000:Int)^k:=zA;omega
theorem PSim.numRow {c:Cx}{K:List KF}{n0:Nat}{D:Nat->Prop}{S:St}{X:Nat->Prop}{μ:Mu}{a:Act}{w:World}(H:PSim c K n0 D S X μ a w){k N cap n:Nat}{f:Nat->Int}{v:Value}(hk:S.hp[k]?=some (.xi .u32 N f))(hv:aD μ (.sl k 0 (.n N) cap)=some v)
  (hN:N=(aC n).length) (hf:∀i x,(aC n)[i]?=some x->f i=x) (hc:N<=cap):(aI n).p v X w:=
 H.row hk hv (by rw[hN];rfl) (λj y hj=>by rw[Nat.zero_add];exact hf j y hj) zW zW
theorem lF {l:List Int}{f:Nat->Int}(hf:∀i x,l[i]?=some x->f i=x){i:Nat}(hi:i<l.length:=by omega):f i=l.getD i 0:=by
 have:=List.getElem?_eq_getElem (l:=l) (i:=i) hi
 rw[hf i _ this,List.getD_eq_getElem?_getD,this];rfl
theorem uV {n:Nat}{b:Bool}(h:b=decide (n<1000000000000000000)):(b=true->n<1000000000000000000)/\(b=false->2<(aC n).length):=by
 constructor
 ·intro e;rw[e]at h;exact of_decide_eq_true h.symm
 ·intro e;rw[e]at h;have h1:=of_decide_eq_false h.symm;apply Classical.byContradiction;intro h2;have:=aT (n:=n) (k:=2) zW;simp at this;omega
theorem aKi {m M:Nat}(h1:M=1)(hM:M=(aC m).length):aC m=[(m:Int)]/\m<1000000000:=by
 have hlt:=aT (n:=m) (k:=1) zW
 have hlt:m<1000000000:=by simpa using hlt
 refine⟨?_,hlt⟩;have h0:m≠0:=λe=>by subst e;rw[bV]at hM;simp at hM;omega
 rw[bZ h0,Nat.mod_eq_of_lt hlt,Nat.div_eq_of_lt hlt,bV]
theorem aTb {m M:Nat}(hM:M=(aC m).length)(h2:2<=M){t:Int}(ht:t=(aC m).getD (M - 1) 0):
  ∃fc:Nat,1000000000/(t+1)=(fc:Int)/\1<=t/\t<1000000000/\(aC (m*fc)).length=M/\500000000<=(aC (m*fc)).getD (M - 1) 0/\1<=fc/\fc<1000000000:=by
 obtain⟨k,rfl⟩:∃k,M=k+1:=⟨M - 1,zW⟩;rw[Nat.add_sub_cancel]at ht |-;have ht1:=yV hM.symm;have ht2:=bA (bG m) k;rw[<-ht]at ht1 ht2;obtain⟨q1,q2,q3,q4⟩:=aFw ⟨ht1,ht2.2⟩ rfl;obtain⟨fc,hfc⟩:∃fc:Nat,1000000000/(t+1)=(fc:Int):=⟨(1000000000/(t+1)).toNat,zW⟩;obtain⟨r1,r2,r3,r4⟩:=aXn (f:=fc) hM.symm (by rw[<-ht,hfc]);exact⟨fc,hfc,ht1,ht2.2,r1,r2,r3,r4⟩
theorem aTc {n N fc:Nat}{U0:List Int}(hN:N=(aC n).length)(hU:U0=aC (n*fc))(hb:(aC n).length<=2^38)(f1:1<=fc)(f2:fc<1000000000):N<=U0.length/\U0.length<=2^38+1:=by
 rw[hU,hN];constructor
 ·exact bS (Nat.le_mul_of_pos_right _ f1)
 ·refine lTr (bP (k:=(aC n).length+1) ?_) zW;have h1:=aT (n:=n) (k:=(aC n).length) (lRf _);rw[Nat.pow_succ];exact Nat.mul_lt_mul_of_lt_of_le h1 (Nat.le_of_lt f2) zV
theorem aW1 {n m k T:Nat}{U z:List Int}(hU:U=aC n++[0])(hz:z=List.replicate T 0)(hk:k=(aC m).length)(h1:1<=k)(ht:500000000<=(aC m).getD (k - 1) 0)(hT:T+k=U.length):∃UI:Int,UI=n/\Kn UI m k T U z:=
 ⟨_,rfl,Kn.init hU hz hk.symm h1 ht hT⟩
theorem aTf {n m:Nat}{xs ys:Int}(hn:n<1000000000000000000)(hm:m<1000000000000000000)(hm0:0<m)(hxs:xs=if n<1000000000000000000 then(n:Int)else 0)(hys:ys=if m<1000000000000000000 then(m:Int)else 0):
  ys≠0/\(0<=xs.tdiv ys/\xs.tdiv ys<1000000000000000000/\(xs.tdiv ys).toNat=n/m)/\(0<=xs.tmod ys/\xs.tmod ys<1000000000000000000/\(xs.tmod ys).toNat=n%m):=by
 rw[if_pos hn]at hxs;rw[if_pos hm]at hys;subst hxs;subst hys;have e1:((n:Int)).tdiv m=((n/m:Nat):Int):=by rw[Int.tdiv_eq_ediv_of_nonneg zW];rfl
 have e2:((n:Int)).tmod m=((n%m:Nat):Int):=by rw[Int.tmod_eq_emod_of_nonneg zW];rfl
 rw[e1,e2];have h1:n/m<=n:=Nat.div_le_self _ _;have h2:n%m<m:=Nat.mod_lt _ hm0;generalize n/m=q,n%m=r at *;omega
set_option maxHeartbeats 0 in
theorem aAz {v u:Value}{X:Nat->Prop}{w:World}{n m:Nat}(hm0:0<m)(hbn:(aC n).length<=2^38)(hbm:(aC m).length<=2^38)(hX:∀b,X b->b<w.heap.size)(hv:(aI n).p v X w)(hu:(aI m).p u X w):
  Fn PP 287 [v,u] X w (jG (aI (n/m)) (aI (n%m))):=by
 obtain⟨R1,hR1⟩:=nm (aI (n/m));obtain⟨R2,hR2⟩:=nm (aI (n%m));obtain⟨R,hRR⟩:=nm (jG R1 R2);obtain⟨K,hK⟩:=nm ([KF.cst v (aI n),KF.cst u (aI m)]);have aQe:R=jG (aI (n/m)) (aI (n%m)):=by rw[hRR,hR1,hR2]
 rw[<-aQe];refine bJ mixed tok [.q v,.q u] (K:=K) Tryz.func287 rfl rfl (lbl rfl) rfl hX (by subst hK;simp;exact⟨hv,hu⟩) λc hc hR=>?_;refine dE 0 .u32 (aC n) rfl rfl (λX μ a w v' H hv'=>cD H (by simp[hK]) hv') λf N cap hN hf dJ=>?_;refine dE 1 .u32 (aC m) rfl rfl (λX μ a w v' H hv'=>cD H (by simp[hK]) hv') λf' M aU hM hf' gY=>?_;have kf:∀q,lT q K K:=λq=>by subst hK;exact⟨⟨.head _,KFr.cst _ _ _⟩,⟨.tail _ (.head _),KFr.cst _ _ _⟩,trivial⟩
 have cU:∀(kd:IntKind) (e:IE) (z:Int),e.den=z->lo kd<=z/\z<=hi kd->(Obl.inR kd e).ok:=λkd e z he hz=>by show _/\_;rw[he];exact hz
 have hM0:0<M:=by rw[hM,bZ zW];simp
 apply zN hc;cbv;obtain⟨z,hz⟩:=nm (bD n m);refine cE hc (.i .i64 (.v z)) (r:=.int .i64 z) zP (λn0 D X μ a w aK H aG=>?_) rfl 100 ?_
 ·obtain⟨v1,v2,rfl,h1,h2⟩:=bI aG;rw[hz];exact rF zW zW H.xlt (H.numRow rfl h1 hN hf dJ) (H.numRow rfl h2 hM hf' gY)
 cbv;refine aE rfl 100 (λh=>?_) (λh=>?_)
 ·have h:z<0:=BE.lt_t h
  have hlt:n<m:=aHe hz h
  cbv;refine bB hc hR rfl (λX μ a w x H hx=>?_);obtain⟨vs,hvs,rfl⟩:=rJ hx;obtain⟨v1,v2,rfl,h1,h2⟩:=bI hvs;rw[aQe];refine⟨_,_,rfl,?_,?_⟩
  ·have h1:=nF h1
   rw[h1,Nat.div_eq_of_lt hlt];exact aKg
  ·rw[Nat.mod_eq_of_lt hlt];exact H.toP.numRow rfl h2 hN hf dJ
 ·have h:¬z<0:=BE.lt_f h
  have hle:m<=n:=aCu hz h
  have hNM:M<=N:=by rw[hN,hM];exact bS hle
  cbv;obtain⟨xs,hxs⟩:∃xs:Int,xs=if n<1000000000000000000 then(n:Int)else 0:=⟨_,rfl⟩
  obtain⟨xb,hxb⟩:∃xb:Bool,xb=decide (n<1000000000000000000):=⟨_,rfl⟩;obtain⟨ys,hys⟩:∃ys:Int,ys=if m<1000000000000000000 then(m:Int)else 0:=⟨_,rfl⟩
  obtain⟨yb,hyb⟩:∃yb:Bool,yb=decide (m<1000000000000000000):=⟨_,rfl⟩;refine cE hc (.t [.i .u64 (.v xs),.b (.v xb)]) (r:=.tuple #[.int .u64 xs,.bool xb]) xE (λn0 D X μ a w aK H aG=>?_) rfl 100 ?_
  ·obtain⟨v1,rfl,h1⟩:=bN aG;rw[hxs,hxb];exact oS H.xlt (H.numRow rfl h1 hN hf dJ)
  cbv;refine cE hc (.t [.i .u64 (.v ys),.b (.v yb)]) (r:=.tuple #[.int .u64 ys,.bool yb]) xE (λn0 D X μ a w aK H aG=>?_) rfl 100 ?_
  ·obtain⟨v1,rfl,h1⟩:=bN aG;rw[hys,hyb];exact oS H.xlt (H.numRow rfl h1 hM hf' gY)
  cbv;have aF1:∀(k1 k2:Nat) (K':List KF) (S:St) (X:Nat->Prop) (μ:Mu) (a:Act) (w:World) (v:Value),Sim c K' S X μ a w->KF.at k1 R1∈K'->KF.at k2 R2∈K'->aD μ (.t [.e k1,.e k2])=some v->R.p v X w:=by
   intro k1 k2 K' S X μ a w v H m1 m2 hv;obtain⟨vs,hvs,rfl⟩:=rJ hv;obtain⟨v1,v2,rfl,h1,h2⟩:=bI hvs;rw[hRR];exact⟨v1,v2,rfl,H.toP.val m1 h1,H.toP.val m2 h2⟩
  apply aS6 (c:=c) (K:=K) (S':=⟨[(0,.sl 0 0 (.n N) cap),(1,.sl 1 0 (.n M) aU),(59,.b (.eq (.n M) (.l 1)))],[.xi .u32 N f,.xi .u32 M f'],[]⟩) (λgen=>?_)
  rotate_left 2
  refine cG 48 rfl rfl 100 (λh=>?_) (λh=>?_);have h:xb=true:=h;cbv;refine aE rfl 100 (λh2=>?_) (λh2=>?_);have h2:yb=true:=h2;obtain⟨d0,⟨d1,d2,d3⟩,⟨d4,d5,d6⟩⟩:=aTf ((uV hxb).1 h) ((uV hyb).1 h2) hm0 hxs hys;obtain⟨qq,hqq⟩:=nm (xs.tdiv ys);obtain⟨rr,hrr⟩:=nm (xs.tmod ys);rw[<-hqq]at d1 d2 d3;rw[<-hrr]at d4 d5 d6;have nz:(Obl.nz (IE.v ys)).ok:=d0;have q1:(Obl.inR .u64 ((IE.v xs).quo (IE.v ys))).ok:=by show lo _<=xs.tdiv ys/\xs.tdiv ys<=hi _;rw[<-hqq];simp only[lo,hi];omega
  cbv;refine aP hc ⟨nz,q1,trivial⟩ ?_;refine mP (R:=R1) hc aSc (λD X μ a w aK H aG=>?_) 100 ?_
  ·obtain⟨v1,rfl,h1⟩:=bN aG;have h1:v1=.int .u64 qq:=by rw[bY h1,hqq];rfl
   rw[h1,hR1,<-d3];exact yF H.xlt d1 d2
  cbv;refine aP hc ⟨nz,trivial⟩ ?_;refine mP (R:=R2) hc aSc (λD X μ a w aK H aG=>?_) 100 ?_
  ·obtain⟨v1,rfl,h1⟩:=bN aG;have h1:v1=.int .u64 rr:=by rw[bY h1,hrr];rfl
   rw[h1,hR2,<-d6];exact yF H.xlt d4 d5
  cbv;refine zE ?_;cbv;exact bB hc hR rfl (λX μ a w x H hx=>aF1 _ _ _ _ _ _ _ _ _ H (.tail _ (.head _)) (.head _) hx);cbv;exact zU 2 (S':=⟨[(0,.sl 0 0 (.n N) cap),(1,.sl 1 0 (.n M) aU),(59,.b (.eq (.n M) (.l 1)))],[.xi .u32 N f,.xi .u32 M f'],[]⟩) (K':=K) zL (kf _) trivial gen;cbv;exact zU 2 (S':=⟨[(0,.sl 0 0 (.n N) cap),(1,.sl 1 0 (.n M) aU),(59,.b (.eq (.n M) (.l 1)))],[.xi .u32 N f,.xi .u32 M f'],[]⟩) (K':=K) zL (kf _) trivial gen;refine aE rfl 100 (λh=>?_) (λh=>?_)
  ·have hM1:M=1:=BE.eqnl_t (k:=1) h
   obtain⟨hd,hlt⟩:=aKi hM1 hM;have hg:f' 0=m:=hf' 0 _ (by rw[hd];rfl);have o1:(Obl.ltE (IE.l 0) (IE.n M)).ok:=by show _/\_;simp only[IE.den];omega
   have o2:(Obl.ix 0 (IE.l 0) 0 0 1 M).ok:=by show _<=_;simp only[aY,IE.den];omega
   have o3:(Obl.inR .u64 (IE.fn f' 0 (IE.l 0) 0 0)).ok:=by
    show lo _<=f' 0/\f' 0<=hi _
    rw[hg];simp only[lo,hi];omega
   cbv;refine aP hc ⟨o1,o2,o3,trivial⟩ ?_;refine eB (R:=R) hc bDr (λn0 D X μ a w aK H aG=>?_) 100 ?_
   ·obtain⟨v1,v2,rfl,h1,h2⟩:=bI aG;have h2:v2=.int .u64 (f' 0):=bY h2;rw[h2,hg,aQe];exact aN2 hm0 hlt zW H.xlt (H.numRow rfl h1 hN hf dJ)
   cbv;refine mZ 68 2 rfl rfl (R1:=R1) (R2:=R2) (by rw[<-hRR];exact .head _) ?_;apply zN hc;cbv;exact bB hc hR rfl (λX μ a w x H hx=>aF1 3 4 _ _ _ _ _ _ _ H (.head _) (.tail _ (.head _)) hx)
  ·have hM2:M≠1:=BE.eqnl_f (k:=1) h
   obtain⟨t,ht⟩:=nm ((aC m).getD (M - 1) 0);obtain⟨fc,hfc,t1,t2,hvl,hvt,f1,f2⟩:=aTb hM zW ht;have hix:aY 0 ((IE.n M).sub (IE.l 1)).den 1 0=M - 1:=by simp only[aY,IE.den];omega
   have hg:f' (aY 0 ((IE.n M).sub (IE.l 1)).den 1 0)=t:=by rw[hix,ht];exact lF hf'
   have o1:(Obl.inR .i64 ((IE.n M).sub (IE.l 1))).ok:=by show lo _<=_/\_<=hi _;simp only[lo,hi,IE.den];omega
   have o2:(Obl.ltE ((IE.n M).sub (IE.l 1)) (IE.n M)).ok:=by show _/\_;simp only[IE.den];omega
   have o3:(Obl.ix 0 ((IE.n M).sub (IE.l 1)) 1 0 1 M).ok:=by show _<=_;rw[hix];omega
   have e1:(IE.fn f' 0 ((IE.n M).sub (IE.l 1)) 1 0).den=t:=hg
   have e2:((IE.fn f' 0 ((IE.n M).sub (IE.l 1)) 1 0).add (IE.l 1)).den=t+1:=by rw[<-e1];rfl
   have e3:((IE.l 1000000000).quo ((IE.fn f' 0 ((IE.n M).sub (IE.l 1)) 1 0).add (IE.l 1))).den=fc:=by
    show(1000000000:Int).tdiv ((IE.fn f' 0 ((IE.n M).sub (IE.l 1)) 1 0).add (IE.l 1)).den=_
    rw[e2,Int.tdiv_eq_ediv_of_nonneg zW,hfc]
   have o4:=cU .u64 _ _ e1 zX
   have o5:=cU .u64 _ _ e2 zX
   have o6:(Obl.nz ((IE.fn f' 0 ((IE.n M).sub (IE.l 1)) 1 0).add (IE.l 1))).ok:=by show _≠_;rw[e2];omega
   have o7:=cU .u64 _ _ e3 zX
   obtain⟨Ff,hFf⟩:=nm (aI fc);cbv;refine aP hc ⟨o1,o2,o3,o4,o5,o6,o7,trivial⟩ ?_;refine eB (R:=Ff) hc aSc (λn0 D X μ a w aK H aG=>?_) 100 ?_
   ·obtain⟨v1,rfl,h1⟩:=bN aG;have h1:v1=.int .u64 fc:=by rw[bY h1,e3]
    have h2:=yF (x:=(fc:Int)) H.xlt zW zW
    rw[h1,hFf,<-Int.toNat_natCast fc];exact h2
   cbv;obtain⟨K1,hK1⟩:=nm (KF.at 2 Ff::K);have kf1:∀q,2<q->lT q K1 K1:=λq hq=>by subst hK1;subst hK;exact⟨⟨.head _,KFr.at hq _⟩,⟨.tail _ (.head _),KFr.cst _ _ _⟩,⟨.tail _ (.tail _ (.head _)),KFr.cst _ _ _⟩,trivial⟩
   have mF:KF.at 2 Ff∈K1:=by rw[hK1];exact .head _
   obtain⟨U0,hU0⟩:=nm (aC (n*fc));have hfl:(aC fc).length<=1:=bP (by simpa using f2);obtain⟨G,hG⟩:∃G:Option Addr->Nat->Nat->List Int->OF,∀a n cap l,G a n cap l=OF.row (.slice a n cap) c.B.heap.size 145 .u32 l:=⟨λa n cap l=>OF.row (.slice a n cap) c.B.heap.size 145 .u32 l,λ_ _ _ _=>rfl⟩;have hU1:N<=U0.length/\U0.length<=2^38+1:=aTc hN hU0 hbn f1 f2;obtain⟨Fv,hFv⟩:=nm (aI (m*fc));refine Goal.k hK1 ?_;refine aYd hc aG5 hG (λX μ a w aK H aG=>?_) (λa1 n1 cap1 hn1=>?_) (e:=145) (kd:=.u32) (l:=U0)
   ·obtain⟨v1,v2,rfl,h1,h2⟩:=bI aG;have k2:=H.toP.val mF h2;rw[hFf]at k2;rw[hU0];exact aRe zW zW H.toP.xlt (H.toP.numRow rfl h1 hN hf dJ) k2
   apply zN hc;cbv;refine fK hc _ rfl rfl rfl (kd:=.u32) hG rfl rfl rfl rfl rfl rfl rfl rfl rfl cJ zW zW (λa2 n2 sK U hn2 hU=>?_);have hU:U=U0++[0]:=hU;apply zN hc;cbv;refine eB (R:=Fv) hc aG5 (λn0 D X μ a w aK H aG=>?_) 100 ?_
   ·obtain⟨v1,v2,rfl,h1,h2⟩:=bI aG;have k2:=H.val mF h2;rw[hFf]at k2;rw[hFv];exact aEh zW zW H.xlt (H.numRow rfl h1 hM hf' gY) k2
   cbv;refine aE rfl 0 (λh=>?_) (λh=>?_)
   ·exact absurd (BE.eqn_t h) zW
   obtain⟨K2,hK2⟩:=nm (KF.at 4 Fv::K1);refine Goal.k hK2 ?_;have mV:KF.at 4 Fv∈K2:=by rw[hK2];exact .head _
   have mF2:KF.at 2 Ff∈K2:=by rw[hK2];exact .tail _ mF
   have kf2:∀q,4<q->lT q K2 K2:=λq hq=>by subst hK2;subst hK1;subst hK;exact⟨⟨.head _,KFr.at hq _⟩,⟨.tail _ (.head _),KFr.at zW _⟩,⟨.tail _ (.tail _ (.head _)),KFr.cst _ _ _⟩,⟨.tail _ (.tail _ (.tail _ (.head _))),KFr.cst _ _ _⟩,trivial⟩
   obtain⟨V,hV⟩:=nm (aC (m*fc));refine dE 12 .u32 V rfl rfl (λX μ a w v' H hv'=>by have:=H.toP.val mV hv';rw[hFv,<-hV]at this;exact this) λfv L aG8 hL hfv bEn=>?_;have bA8:U≠[]:=by rw[hU];simp
   refine aNh 11 rfl rfl (hG _ _ _ _) rfl bA8 (λNU hNU bGv=>?_);have hLM:L=M:=by rw[hL,hV,hvl]
   have bJa:NU=U0.length+1:=by rw[hNU,hU];simp
   have o1:(Obl.inR .i64 ((IE.n NU).sub (IE.n L))).ok:=by show lo _<=_/\_<=hi _;simp only[lo,hi,IE.den];omega
   apply zN hc;cbv;refine aP hc ⟨o1,trivial⟩ ?_;refine rZ hc _ .u32 cJ ?_ ?_ ?_ (λT zs hT hzs=>?_)
   ·simp only[IE.den];omega
   ·simp only[IE.den];omega
   ·simp only[IE.den];omega
   have hT:T+L=NU:=by simp only[IE.den]at hT;omega
   obtain⟨mV,hmV⟩:=nm (m*fc);obtain⟨UI,hUI,kn0⟩:=aW1 (n:=n*fc) (m:=mV) (k:=L) (T:=T) (U:=U) (z:=zs) (by rw[hU,hU0]) (by rw[hzs];first | done | (simp only[IE.den];first | done | (congr 1;omega))) (by rw[hL,hV,hmV]) zW (by rw[hLM,hmV];exact hvt) zW;have hvV:V=aC mV:=by rw[hV,hmV]
   have bBy:500000000<=V.getD (L - 1) 0:=by rw[hLM,hV];exact hvt
   cbv;let HP:List Int->List Int->List Blk:=λu q=>[.xi .u32 N f,.xi .u32 M f',.e,.c 145 [.i .u32 (.l 0)],.e,.xi .u32 L fv,.w 145 .u32 u,.r 145 .u32 q]
   let ι:={x:Nat × List Int × List Int//Kn UI mV L x.1 x.2.1 x.2.2/\x.1<=T/\x.2.1.length=NU/\x.2.2.length=T}
   let I:ι->St:=λx=>⟨[(10,.e 2),(11,.sl 6 0 (.n NU) sK),(12,.sl 5 0 (.n L) aG8),(13,.i .i64 (.n L)),(14,.sl 7 0 (.n T) T),(15,.i .i64 (.sub (.n x.1.1) (.l 1)))],HP x.1.2.1 x.1.2.2,[]⟩
   have hzl:zs.length=T:=kn0.qlen zW
   let x0:ι:=⟨(T,U,zs),kn0,lRf _,hNU.symm,hzl⟩
   have o1:(Obl.inR .i64 ((IE.n T).sub (IE.l 1))).ok:=by show lo _<=_/\_<=hi _;simp only[lo,hi,IE.den];omega
   apply zN hc;cbv;refine zO ?_;refine zU 8 (S':=I x0) (K':=K2) zL (kf2 _ zV) trivial ?_;refine bW hc I (λx=>x.1.1) x0 100 ?_;rintro p ⟨⟨cnt,u,qs⟩,hkn,hcT,hul,hql⟩ hy;simp only at hkn hcT hul hql;cbv;refine aE rfl 0 (λh=>?_) (λh=>?_)
   ·have h:=BE.pre_t h
    obtain⟨j,hj⟩:∃j,j+1=cnt:=⟨cnt - 1,zW⟩;obtain⟨v1,v2,top,u0,u2,q,P,rd⟩:=Rd.mk' (j:=j) (v:=V) (by rw[hj];exact hkn) zW hvV zW zW bBy;have ej:((IE.n cnt).sub (IE.l 1)).den=(IE.n j).den:=by simp only[IE.den];omega
    refine zU 8 (S':=⟨[(10,.e 2),(11,.sl 6 0 (.n NU) sK),(12,.sl 5 0 (.n L) aG8),(13,.i .i64 (.n L)),(14,.sl 7 0 (.n T) T),(15,.i .i64 (.n j))],HP u qs,[]⟩) (K':=K2) ⟨zS,zS,zS,zS,zS,zI rfl rfl ej,trivial⟩ (kf2 _ zV) trivial ?_;have L2:2<=L:=zW;have hjT:j<T:=zW;have hLb:L<=2^38:=zW;have bD8:NU<=2^38+2:=zW;obtain⟨ua,hua⟩:=nm (u.getD (j+L - 1) 0);have wua:=bA rd.kn.wu (j+L - 1);have wu0:=bA rd.kn.wu (j+L);rw[<-hua]at wua;rw[<-rd.e0]at wu0;have b1:=rd.b1;have b2:=rd.b2;have b3:=rd.b3;have b4:=rd.b4;have etop:u0*1000000000+ua=top:=by rw[rd.e3,rd.e0,hua]
    have ix0:aY 0 ((IE.n j).add (IE.n L)).den 1 0=j+L:=by simp only[aY,IE.den];omega
    have ix1:aY 0 (((IE.n j).add (IE.n L)).sub (IE.l 1)).den 1 0=j+L - 1:=by simp only[aY,IE.den];omega
    have ix2:aY 0 (((IE.n j).add (IE.n L)).sub (IE.l 2)).den 1 0=j+L - 2:=by simp only[aY,IE.den];omega
    have iv1:aY 0 ((IE.n L).sub (IE.l 1)).den 1 0=L - 1:=by simp only[aY,IE.den];omega
    have iv2:aY 0 ((IE.n L).sub (IE.l 2)).den 1 0=L - 2:=by simp only[aY,IE.den];omega
    have g0:(IE.nth u 0 ((IE.n j).add (IE.n L)) 1 0).den=u0:=by show u.getD (aY 0 ((IE.n j).add (IE.n L)).den 1 0) 0=_;rw[ix0,rd.e0]
    have g1:(IE.nth u 0 (((IE.n j).add (IE.n L)).sub (IE.l 1)) 1 0).den=ua:=by show u.getD (aY 0 (((IE.n j).add (IE.n L)).sub (IE.l 1)).den 1 0) 0=_;rw[ix1,hua]
    have g2:(IE.nth u 0 (((IE.n j).add (IE.n L)).sub (IE.l 2)) 1 0).den=u2:=by show u.getD (aY 0 (((IE.n j).add (IE.n L)).sub (IE.l 2)).den 1 0) 0=_;rw[ix2,rd.e4]
    have gv1:(IE.fn fv 0 ((IE.n L).sub (IE.l 1)) 1 0).den=v1:=by show fv (aY 0 ((IE.n L).sub (IE.l 1)).den 1 0)=_;rw[iv1,rd.e1];exact lF hfv
    have gv2:(IE.fn fv 0 ((IE.n L).sub (IE.l 2)) 1 0).den=v2:=by show fv (aY 0 ((IE.n L).sub (IE.l 2)).den 1 0)=_;rw[iv2,rd.e2];exact lF hfv
    obtain⟨tm,htm⟩:=nm (u0*1000000000);have m0:((IE.nth u 0 ((IE.n j).add (IE.n L)) 1 0).mul (IE.l 1000000000)).den=tm:=by show(IE.nth u 0 ((IE.n j).add (IE.n L)) 1 0).den*1000000000=_;rw[g0,htm]
    have a0:(((IE.nth u 0 ((IE.n j).add (IE.n L)) 1 0).mul (IE.l 1000000000)).add (IE.nth u 0 (((IE.n j).add (IE.n L)).sub (IE.l 1)) 1 0)).den=top:=by show((IE.nth u 0 ((IE.n j).add (IE.n L)) 1 0).mul (IE.l 1000000000)).den+(IE.nth u 0 (((IE.n j).add (IE.n L)).sub (IE.l 1)) 1 0).den=_;rw[m0,g1,htm,etop]
    have p1:(Obl.inR .i64 ((IE.n j).add (IE.n L))).ok:=by show lo _<=_/\_<=hi _;simp only[lo,hi,IE.den];omega
    have p2:(Obl.inR .i64 (((IE.n j).add (IE.n L)).sub (IE.l 1))).ok:=by show lo _<=_/\_<=hi _;simp only[lo,hi,IE.den];omega
    have p3:(Obl.inR .i64 (((IE.n j).add (IE.n L)).sub (IE.l 2))).ok:=by show lo _<=_/\_<=hi _;simp only[lo,hi,IE.den];omega
    have p4:(Obl.ltE ((IE.n j).add (IE.n L)) (IE.n NU)).ok:=by show _/\_;simp only[IE.den];omega
    have p5:(Obl.ltE (((IE.n j).add (IE.n L)).sub (IE.l 1)) (IE.n NU)).ok:=by show _/\_;simp only[IE.den];omega
    have p6:(Obl.ltE (((IE.n j).add (IE.n L)).sub (IE.l 2)) (IE.n NU)).ok:=by show _/\_;simp only[IE.den];omega
    have p7:(Obl.ixL 0 ((IE.n j).add (IE.n L)) 1 0 u).ok:=by show _<_;rw[ix0];omega
    have p8:(Obl.ixL 0 (((IE.n j).add (IE.n L)).sub (IE.l 1)) 1 0 u).ok:=by show _<_;rw[ix1];omega
    have p9:(Obl.ixL 0 (((IE.n j).add (IE.n L)).sub (IE.l 2)) 1 0 u).ok:=by show _<_;rw[ix2];omega
    have p10:=cU .u64 _ _ g0 zX
    have p11:=cU .u64 _ _ g1 zX
    have p12:=cU .u64 _ _ g2 zX
    have p13:=cU .u64 _ _ m0 zX
    have p14:=cU .u64 _ _ a0 zX
    have p15:(Obl.inR .i64 ((IE.n L).sub (IE.l 1))).ok:=by show lo _<=_/\_<=hi _;simp only[lo,hi,IE.den];omega
    have p16:(Obl.inR .i64 ((IE.n L).sub (IE.l 2))).ok:=by show lo _<=_/\_<=hi _;simp only[lo,hi,IE.den];omega
    have p17:(Obl.ltE ((IE.n L).sub (IE.l 1)) (IE.n L)).ok:=by show _/\_;simp only[IE.den];omega
    have p18:(Obl.ltE ((IE.n L).sub (IE.l 2)) (IE.n L)).ok:=by show _/\_;simp only[IE.den];omega
    have p19:(Obl.ix 0 ((IE.n L).sub (IE.l 1)) 1 0 1 L).ok:=by show _<=_;rw[iv1];omega
    have p20:(Obl.ix 0 ((IE.n L).sub (IE.l 2)) 1 0 1 L).ok:=by show _<=_;rw[iv2];omega
    have p21:=cU .u64 _ _ gv1 zX
    have p22:=cU .u64 _ _ gv2 zX
    have p23:(Obl.nz (IE.fn fv 0 ((IE.n L).sub (IE.l 1)) 1 0)).ok:=by show _≠_;rw[gv1];omega
    have gs0:=rd.gs
    obtain⟨gq,hgq⟩:=nm (top/v1);obtain⟨gr,hgr⟩:=nm (top%v1);rw[<-hgq,<-hgr]at gs0;have gb0:=rd.gbd gs0;have d0:((((IE.nth u 0 ((IE.n j).add (IE.n L)) 1 0).mul (IE.l 1000000000)).add (IE.nth u 0 (((IE.n j).add (IE.n L)).sub (IE.l 1)) 1 0)).quo (IE.fn fv 0 ((IE.n L).sub (IE.l 1)) 1 0)).den=gq:=by
     show(((IE.nth u 0 ((IE.n j).add (IE.n L)) 1 0).mul (IE.l 1000000000)).add (IE.nth u 0 (((IE.n j).add (IE.n L)).sub (IE.l 1)) 1 0)).den.tdiv (IE.fn fv 0 ((IE.n L).sub (IE.l 1)) 1 0).den=_
     rw[a0,gv1,hgq,Int.tdiv_eq_ediv_of_nonneg b3.1]
    have r0:((((IE.nth u 0 ((IE.n j).add (IE.n L)) 1 0).mul (IE.l 1000000000)).add (IE.nth u 0 (((IE.n j).add (IE.n L)).sub (IE.l 1)) 1 0)).rem (IE.fn fv 0 ((IE.n L).sub (IE.l 1)) 1 0)).den=gr:=by
     show(((IE.nth u 0 ((IE.n j).add (IE.n L)) 1 0).mul (IE.l 1000000000)).add (IE.nth u 0 (((IE.n j).add (IE.n L)).sub (IE.l 1)) 1 0)).den.tmod (IE.fn fv 0 ((IE.n L).sub (IE.l 1)) 1 0).den=_
     rw[a0,gv1,hgr,Int.tmod_eq_emod_of_nonneg b3.1]
    have p24:=cU .u64 _ _ d0 zX
    apply zN hc;cbv;refine zO ?_;refine zE ?_;cbv;refine zO ?_;refine dH hc _ 0 ?_;refine zE ?_;cbv;have bHf:gr<1000000000:=by have:=Int.emod_lt_of_pos top (show 0<v1 by omega);omega
    let BB:List (Nat × AV):=[(10,.e 2),(11,.sl 6 0 (.n NU) sK),(12,.sl 5 0 (.n L) aG8),(13,.i .i64 (.n L)),(14,.sl 7 0 (.n T) T),(15,.i .i64 (.n j))]
    let ιg:={x:Int × Int//Gs v1 v2 top u2 q x.1 x.2/\x.2<1000000000}
    let Ig:ιg->St:=λx=>⟨(17,.i .u64 (.v x.1.1))::(18,.i .u64 (.v x.1.2))::BB,HP u qs,[]⟩
    let xg:ιg:=⟨(gq,gr),gs0,bHf⟩
    refine zU 8 (S':=Ig xg) (K':=K2) ⟨zI rfl rfl d0,zI rfl rfl r0,zL⟩ (kf2 _ zV) trivial ?_;refine aD4 (λz:Int=>q<=z/\z<=q+1/\0<=z/\z<1000000000) (λz=>⟨(17,.i .u64 (.v z))::BB,HP u qs,[]⟩) rfl (λr hr=>?_) (λg hg=>?_)
    ·refine bW hc Ig (λx=>x.1.1.toNat) xg 100 ?_;rintro p' ⟨⟨g,rs⟩,hgs,hrs⟩ hyg;simp only at hgs hrs;obtain⟨⟨e1,e2,e3⟩,w1,w2,w3,w4,w5⟩:=bD1 rd hgs hrs gv1 gv2 g2;have egs:(IE.sub (.v g) (.l 1)).den=g - 1:=rfl;have hbk:(1000000000<=g\/rs*1000000000+u2<g*v2)->Gs v1 v2 top u2 q (g - 1) (rs+v1)/\1<=g:=λh=>rd.gstep hgs h;have w6:(1000000000<=g\/rs*1000000000+u2<g*v2)->(Obl.inR .u64 (IE.sub (.v g) (.l 1))).ok:=λh=>w5 (hbk h).2;have hmg:1<=g->(g - 1).toNat<g.toNat:=λh=>zW;have hdn:∀z rs',Gs v1 v2 top u2 q z rs'->((z<1000000000/\z*v2<=rs'*1000000000+u2)\/1000000000<=rs')->q<=z/\z<=q+1/\0<=z/\z<1000000000:=λz rs' h h'=>rd.gdone h h';by_cases hcc:1000000000<=g\/rs*1000000000+u2<g*v2
     ·obtain⟨aEo,g1⟩:=hbk hcc;have w7:=w5 g1;obtain⟨g',hg'⟩:=nm (g - 1);obtain⟨rs',aT7⟩:=nm (rs+v1);have hmg:=hmg g1;rw[<-hg',<-aT7]at aEo;rw[<-hg']at hmg egs;rw[<-aT7]at e3;apply aS6 (c:=c) (K:=K2) (S':=⟨(17,.i .u64 (.v g'))::(18,.i .u64 (.v rs'))::(179,.b (.le (.l 1000000000) (.v rs')))::BB,HP u qs,[]⟩) (λgen=>?_)
      rotate_left 2
      ·cbv;have fin:∀(μ:Mu),aD μ (.b (.le (.l 1000000000) (.add (.v rs) (.fn fv 0 ((IE.n L).sub (IE.l 1)) 1 0))))=aD μ (.b (.le (.l 1000000000) (.v rs'))):=λμ=>by simp only[aD,BE.den,e3];rfl
       refine cG 146 rfl rfl 100 (λh=>?_) (λh=>?_)
       ·cbv;refine zE ?_;cbv;refine zO ?_;exact zU 8 (S':=⟨(17,.i .u64 (.v g'))::(18,.i .u64 (.v rs'))::(179,.b (.le (.l 1000000000) (.v rs')))::BB,HP u qs,[]⟩) (K':=K2) ⟨zI rfl rfl egs,zI rfl rfl e3,⟨_,rfl,rfl,fin⟩,zL⟩ (kf2 _ zV) trivial gen
       ·have h:¬1000000000<=g:=BE.le_f h
        cbv;refine zO ?_;refine zE ?_;cbv;refine aE rfl 100 (λh2=>?_) (λh2=>?_)
        ·cbv;refine zO ?_;exact zU 8 (S':=⟨(17,.i .u64 (.v g'))::(18,.i .u64 (.v rs'))::(179,.b (.le (.l 1000000000) (.v rs')))::BB,HP u qs,[]⟩) (K':=K2) ⟨zI rfl rfl egs,zI rfl rfl e3,⟨_,rfl,rfl,fin⟩,zL⟩ (kf2 _ zV) trivial gen
        ·have h2:=BE.lt_f h2
         rw[e1,e2]at h2;exact absurd hcc zW
      ·refine aE rfl 100 (λh2=>?_) (λh2=>?_)
       ·have h2:1000000000<=rs':=BE.le_t h2
        cbv;exact zU 8 (S':=⟨(17,.i .u64 (.v g'))::BB,HP u qs,[]⟩) (K':=K2) zL (kf2 _ zV) trivial (hr g' (hdn _ _ aEo (.inr h2)))
       ·have h2:¬1000000000<=rs':=BE.le_f h2
        cbv;exact zU 8 (S':=Ig ⟨(g',rs'),aEo,zW⟩) (K':=K2) zL (kf2 _ zV) trivial (hyg ⟨(g',rs'),aEo,zW⟩ hmg)
     ·have hne:¬1000000000<=g:=λh=>hcc (.inl h)
      have bBt:¬rs*1000000000+u2<g*v2:=λh=>hcc (.inr h)
      cbv;refine cG 146 rfl rfl 100 (λh=>?_) (λh=>?_)
      ·exact absurd (BE.le_t h) hne
      ·cbv;refine zO ?_;refine zE ?_;cbv;refine aE rfl 100 (λh2=>?_) (λh2=>?_)
       ·have h2:=BE.lt_t h2
        rw[e1,e2]at h2;exact absurd h2 bBt
       ·cbv;exact zU 8 (S':=⟨(17,.i .u64 (.v g))::BB,HP u qs,[]⟩) (K':=K2) zL (kf2 _ zV) trivial (hr g (hdn _ _ hgs (.inl ⟨zW,zW⟩)))
    ·obtain⟨hq1,hq2,hg0,hgB⟩:=hg;let ιs:={x:Nat × List Int × Int × Int//Sm u x.2.1 V j x.1 g x.2.2.1 x.2.2.2/\x.1<=L};let Is:ιs->St:=λx=>⟨(181,.i .i64 (.n x.1.1))::(180,.i .i64 (.n L))::(20,.i .i64 (.v x.1.2.2.2))::(19,.i .i64 (.v x.1.2.2.1))::(17,.i .u64 (.v g))::BB,HP x.1.2.1 qs,[]⟩
     have hVL:V.length=L:=hL.symm
     have wV:Wd V:=by rw[hV];exact bG _
     let xs0:ιs:=⟨(0,u,0,0),Sm.init rd.kn.wu j g,Nat.zero_le _⟩
     apply zN hc;cbv;refine zU 8 (S':=Is xs0) (K':=K2) zL (kf2 _ zV) trivial ?_;refine bW hc Is (λx=>L - x.1.1) xs0 100 ?_;rintro p' ⟨⟨i,ut,cr,bw⟩,hSm,aMk⟩ hys;simp only at hSm aMk;cbv;refine aE rfl 100 (λh=>?_) (λh=>?_)
     ·have hiL:i<L:=BE.ltn_t h
      obtain⟨pp,hpp⟩:=nm (g*V.getD i 0+cr);obtain⟨dd,hdd⟩:=nm (ut.getD (j+i) 0 - pp%1000000000 - bw);obtain⟨⟨f1,f2,f3,f4⟩,⟨k1,k2,k3,k4,k5,k6,k7,k8⟩,⟨k9,k10,k11,k12,k13,k14,k15⟩,k16,k17,k18⟩:=bGn (NU:=NU) (L:=L) hSm wV ⟨hg0,hgB⟩ zW hiL bD8 hul hpp hdd (lF hfv) rfl rfl;obtain⟨_,_,st1,st2⟩:=hSm.step wV ⟨hg0,hgB⟩ zW hpp hdd;have wD:aY 0 (IE.add (.n i) (.n j)).den 1 0<ut.length:=by rw[f4,hSm.len];omega
      cbv;refine zO ?_;obtain⟨cr',aTr⟩:=nm (pp/1000000000);obtain⟨i',hi'⟩:=nm (i+1);obtain⟨_,ddb,_,_⟩:=hSm.step wV ⟨hg0,hgB⟩ zW hpp hdd;rw[<-aTr]at st1 st2 f2;rw[<-hi']at st1 st2;have hi1:((IE.n i).add (IE.l 1)).den=(IE.n i').den:=by simp only[IE.den,hi'];omega
      have wC:i'<=L:=zW
      have hms:L - i'<L - i:=zW
      have fB:(BE.lt (((IE.nth ut 0 ((IE.n i).add (IE.n j)) 1 0).sub ((((IE.v g).mul (IE.fn fv 0 (IE.n i) 1 0)).add (IE.v cr)).rem (IE.l 1000000000))).sub (IE.v bw)) (IE.l 0)).den=(BE.lt (.v dd) (.l 0)).den:=by simp only[BE.den,f1];rfl
      have w1:(Obl.inR .i64 (.add (.v dd) (.l 1000000000))).ok:=bF _ _ (dd+1000000000) rfl zX
      have w2:dd<0->(Obl.inR .u32 (.add (.v dd) (.l 1000000000))).ok:=λh=>bF _ _ (dd+1000000000) rfl zX
      have w3:¬dd<0->(Obl.inR .u32 (.v dd)).ok:=λh=>bF _ _ dd rfl zX
      refine zU 8 (S':=⟨(209,.b (.lt (.v dd) (.l 0)))::(23,.i .i64 (.v dd))::(20,.i .i64 (.l 0))::(19,.i .i64 (.v cr'))::(21,.i .i64 (.n i))::(181,.i .i64 (.n i))::(180,.i .i64 (.n L))::(17,.i .u64 (.v g))::BB,HP ut qs,[]⟩) (K':=K2) ⟨⟨_,rfl,rfl,λμ=>congrArg (λz=>some (Value.bool z)) fB⟩,zI rfl rfl f1,zS,zI rfl rfl f2,zL⟩ (kf2 _ zV) trivial ?_;refine aE rfl 100 (λh2=>?_) (λh2=>?_)
      ·have h2:dd<0:=BE.lt_t h2
       have w2:=w2 h2
       have st1:=st1 h2
       cbv;refine zO ?_;refine iD hc _ (r:=(6,145,.u32,ut,aY 0 ((IE.n i).add (IE.n j)).den 1 0,(.add (.v dd) (.l 1000000000)))) wD (λl' hl'=>?_);have hl':l'=ut.set (j+i) (dd+1000000000):=by rw[hl',<-f4];rfl
       rw[<-hl']at st1;apply zN hc;cbv;refine zO ?_;exact zU 8 (S':=Is ⟨(i',l',cr',1),st1,wC⟩) (K':=K2) ⟨zI rfl rfl hi1,zL⟩ (kf2 _ zV) trivial (hys ⟨(i',l',cr',1),st1,wC⟩ hms)
      ·have h2:¬dd<0:=BE.lt_f h2
       have w3:=w3 h2
       have st2:=st2 h2
       cbv;refine zO ?_;refine iD hc _ (r:=(6,145,.u32,ut,aY 0 ((IE.n i).add (IE.n j)).den 1 0,(.v dd))) wD (λl' hl'=>?_);have hl':l'=ut.set (j+i) dd:=by rw[hl',<-f4];rfl
       rw[<-hl']at st2;apply zN hc;cbv;refine zO ?_;exact zU 8 (S':=Is ⟨(i',l',cr',0),st2,wC⟩) (K':=K2) ⟨zI rfl rfl hi1,zL⟩ (kf2 _ zV) trivial (hys ⟨(i',l',cr',0),st2,wC⟩ hms)
     ·have hiL:L<=i:=BE.ltn_f h
      have aHr:L=i:=zW
      subst aHr;obtain⟨ll,hll⟩:=nm (ut.getD (j+L) 0 - cr - bw);have aT0:=rd.last hSm ⟨hq1,hq2⟩ hll;have aJ3:ut.length=NU:=by rw[hSm.len,hul]
      obtain⟨ul,aUa⟩:=nm (ut.getD (j+L) 0);have wul:=bA hSm.wd (j+L);rw[<-aUa]at wul hll;have hcr:=hSm.c;have hbw:=hSm.b;have eul:(IE.nth ut 0 ((IE.n j).add (IE.n L)) 1 0).den=ul:=by show ut.getD (aY 0 ((IE.n j).add (IE.n L)).den 1 0) 0=_;rw[ix0,aUa]
      obtain⟨l1,hl1⟩:=nm (ul - cr);have el1:((IE.nth ut 0 ((IE.n j).add (IE.n L)) 1 0).sub (IE.v cr)).den=l1:=by show(IE.nth ut 0 ((IE.n j).add (IE.n L)) 1 0).den - cr=_;rw[eul,hl1]
      have ell:(((IE.nth ut 0 ((IE.n j).add (IE.n L)) 1 0).sub (IE.v cr)).sub (IE.v bw)).den=ll:=by show((IE.nth ut 0 ((IE.n j).add (IE.n L)) 1 0).sub (IE.v cr)).den - bw=_;rw[el1,hl1,hll]
      have w1:(Obl.ixL 0 ((IE.n j).add (IE.n L)) 1 0 ut).ok:=by show _<_;rw[ix0];omega
      have w2:=cU .i64 _ _ eul zX
      have w3:=cU .i64 _ _ el1 zX
      have w4:=cU .i64 _ _ ell zX
      have fB:(BE.lt (((IE.nth ut 0 ((IE.n j).add (IE.n L)) 1 0).sub (IE.v cr)).sub (IE.v bw)) (IE.l 0)).den=(BE.lt (.v ll) (.l 0)).den:=by simp only[BE.den,ell];rfl
      cbv;refine zO ?_;refine zU 8 (S':=⟨(232,.b (.lt (.v ll) (.l 0)))::(24,.i .i64 (.v ll))::(17,.i .u64 (.v g))::BB,HP ut qs,[]⟩) (K':=K2) ⟨⟨_,rfl,rfl,λμ=>congrArg (λz=>some (Value.bool z)) fB⟩,zI rfl rfl ell,zL⟩ (kf2 _ zV) trivial ?_;refine aYe (λuf:List Int=>Kn UI mV L j (uf.set (j+L) 0) (qs.set j q)/\uf.length=NU) (λuf=>⟨(24,.i .i64 (.l 0))::(17,.i .u64 (.v q))::BB,HP uf qs,[]⟩) rfl (λr hr=>?_) (λuf huf=>?_)
      ·rcases aT0 with⟨k1,k2,k3⟩ | ⟨k1,k2,k3⟩
       ·refine aE rfl 100 (λh2=>?_) (λh2=>?_)
        ·exact absurd (BE.lt_t h2) (by rw[k1];simp[IE.den])
        ·rw[k2]at k3;have k1':(IE.v ll).den=(IE.l 0).den:=k1;have k2':(IE.v g).den=(IE.v q).den:=k2;cbv;exact zU 8 (S':=⟨(24,.i .i64 (.l 0))::(17,.i .u64 (.v q))::BB,HP ut qs,[]⟩) (K':=K2) ⟨zI rfl rfl k1',zI rfl rfl k2',zL⟩ (kf2 _ zV) trivial (hr ut ⟨k3,aJ3⟩)
       ·refine aE rfl 100 (λh2=>?_) (λh2=>?_)
        ·have hq0:=rd.q0
         have w5:(Obl.inR .u64 (IE.sub (.v g) (.l 1))).ok:=bF _ _ (g - 1) rfl zX
         have eq1:(IE.sub (.v g) (.l 1)).den=(IE.v q).den:=by show g - 1=q;omega
         cbv;refine zO ?_;let ιa:={x:Nat × List Int × Int//Ad ut x.2.1 V j x.1 x.2.2/\x.1<=L};let Ia:ιa->St:=λx=>⟨(236,.i .i64 (.n x.1.1))::(235,.i .i64 (.n L))::(25,.i .u64 (.v x.1.2.2))::(24,.i .i64 (.v ll))::(17,.i .u64 (.v q))::BB,HP x.1.2.1 qs,[]⟩
         let xa0:ιa:=⟨(0,ut,0),Ad.init hSm.wd j,Nat.zero_le _⟩
         refine zU 8 (S':=Ia xa0) (K':=K2) ⟨zS,zS,zS,zS,zI rfl rfl eq1,zL⟩ (kf2 _ zV) trivial ?_;refine bW hc Ia (λx=>L - x.1.1) xa0 100 ?_;rintro p'' ⟨⟨i,ua',up⟩,hAd,aMk⟩ hya;simp only at hAd aMk;cbv;refine aE rfl 100 (λh=>?_) (λh=>?_)
         ·have hiL:i<L:=BE.ltn_t h
          obtain⟨xx,hxx⟩:=nm (up+(ua'.getD (j+i) 0+V.getD i 0));obtain⟨⟨f1,f2,f4⟩,⟨m1,m2,m3,m4,m5,m6,m7⟩,⟨m8,m9,m10,m11,m12,m13⟩⟩:=bGm (NU:=NU) (L:=L) hAd wV zW hiL bD8 aJ3 hxx (lF hfv) rfl rfl;have st:=(hAd.step wV zW hxx).2;have wD:aY 0 (IE.add (.n i) (.n j)).den 1 0<ua'.length:=by rw[f4,hAd.len];omega
          obtain⟨up',bBx⟩:=nm (xx/1000000000);obtain⟨i',hi'⟩:=nm (i+1);rw[<-bBx]at st f2;rw[<-hi']at st;have hi1:((IE.n i).add (IE.l 1)).den=(IE.n i').den:=by simp only[IE.den,hi'];omega
          have wC:i'<=L:=zW
          have hms:L - i'<L - i:=zW
          cbv;refine zO ?_;refine zE ?_;cbv;refine zO ?_;refine iD hc _ (r:=(6,145,.u32,ua',aY 0 ((IE.n i).add (IE.n j)).den 1 0,(IE.rem (IE.add (.v up) (IE.add (.nth ua' 0 (.add (.n i) (.n j)) 1 0) (.fn fv 0 (.n i) 1 0))) (.l 1000000000)))) wD (λl' hl'=>?_);have hl':l'=ua'.set (j+i) (xx%1000000000):=by rw[hl',<-f4,<-f1]
          rw[<-hl']at st;apply zN hc;cbv;refine zO ?_;exact zU 8 (S':=Ia ⟨(i',l',up'),st,wC⟩) (K':=K2) ⟨zI rfl rfl hi1,zS,zI rfl rfl f2,zL⟩ (kf2 _ zV) trivial (hya ⟨(i',l',up'),st,wC⟩ hms)
         ·have hiL:L<=i:=BE.ltn_f h
          have aHr:L=i:=zW
          subst aHr;have bA6:Sm u ut V j L (q+1) cr bw:=by rw[<-k2];exact hSm
          obtain⟨hup,aTx⟩:=rd.back bA6 k3 hAd;have w6:(Obl.inR .i64 (IE.v up)).ok:=bF _ _ up rfl zX;have e0:((IE.v ll).add (IE.v up)).den=(IE.l 0).den:=by show ll+up=0;omega
          have w7:(Obl.inR .i64 ((IE.v ll).add (IE.v up))).ok:=bF _ _ 0 e0 zX
          have bBw:ua'.length=NU:=by rw[hAd.len,aJ3]
          cbv;refine zO ?_;exact zU 8 (S':=⟨(24,.i .i64 (.l 0))::(17,.i .u64 (.v q))::BB,HP ua' qs,[]⟩) (K':=K2) ⟨zI rfl rfl e0,zL⟩ (kf2 _ zV) trivial (hr ua' ⟨aTx,bBw⟩)
        ·exact absurd (BE.lt_f h2) (by rw[k1];simp[IE.den])
      ·obtain⟨hkf,aXd⟩:=huf;have hq0:=rd.q0;have w1:(Obl.inR .u32 (IE.v q)).ok:=bF _ _ q rfl zX;have bBo:aY 0 ((IE.n j).add (IE.n L)).den 1 0<uf.length:=by rw[ix0];omega
       have w2:(Obl.ltE (IE.n j) (IE.n T)).ok:=by show _/\_;simp only[IE.den];omega
       have ixj:aY 0 (IE.n j).den 1 0=j:=by simp only[aY,IE.den];omega
       have bBp:aY 0 (IE.n j).den 1 0<qs.length:=by rw[ixj];omega
       have w3:(Obl.inR .i64 ((IE.n j).sub (IE.l 1))).ok:=by show lo _<=_/\_<=hi _;simp only[lo,hi,IE.den];omega
       apply zN hc;cbv;refine zO ?_;refine iD hc _ (r:=(6,145,.u32,uf,aY 0 ((IE.n j).add (IE.n L)).den 1 0,.l 0)) bBo (λl1 hl1=>?_);have hl1:l1=uf.set (j+L) 0:=by rw[hl1,<-ix0];rfl
       apply zN hc;cbv;refine zO ?_;refine jV hc _ (r:=(7,145,.u32,qs,aY 0 (IE.n j).den 1 0,.v q)) bBp (λl2 hl2=>?_);have hl2:l2=qs.set (aY 0 (IE.n j).den 1 0) q:=hl2;rw[ixj]at hl2;rw[<-hl1,<-hl2]at hkf;have bE1:l1.length=NU:=by rw[hl1,List.length_set];exact aXd
       have aTy:l2.length=T:=by rw[hl2,List.length_set];exact hql
       apply zN hc;cbv;refine zO ?_;exact zU 8 (S':=I ⟨(j,l1,l2),hkf,zW,bE1,aTy⟩) (K':=K2) zL (kf2 _ zV) trivial (hy ⟨(j,l1,l2),hkf,zW,bE1,aTy⟩ (by show j<cnt;omega))
   ·have h:=BE.pre_f h
    have hkn:Kn UI mV L 0 u qs:=by rw[<-h];exact hkn
    have hV0:0<mV:=by rw[hmV];exact Nat.mul_pos hm0 zW
    obtain⟨d1,d2⟩:=aOs hkn hUI hV0;obtain⟨fI,hfI⟩:∃fI:Int,fI=if fc<1000000000000000000 then(fc:Int)else 0:=⟨_,rfl⟩
    obtain⟨fb,hfb⟩:∃fb:Bool,fb=decide (fc<1000000000000000000):=⟨_,rfl⟩;have bHb:fI=fc:=by rw[hfI,if_pos zW]
    have w1:(Obl.leE (IE.n L) sK).ok:=by show _/\_;simp only[IE.den];omega
    apply zN hc;cbv;refine cE hc (.t [.i .u64 (.v fI),.b (.v fb)]) (r:=.tuple #[.int .u64 fI,.bool fb]) xE (λn0 D X μ a w aK H aG=>?_) rfl 100 ?_
    ·obtain⟨v1',rfl,h1⟩:=bN aG;have k2:=H.val mF2 h1;rw[hFf]at k2;rw[hfI,hfb];exact oS H.xlt k2
    cbv;refine zO ?_;obtain⟨r1,r2,r3,r4,r5⟩:=aTe hkn hUI (by rw[hmV]) hm0 f1 zW zW (by rw[<-hmV];rw[hL,hvV]);have hqb:qs.length<=2^40:=zW;have hub:(u.take L).length<=2^40:=zW;have aJ3:(u.take L).length=L:=r1;obtain⟨Fr,hFr⟩:=nm (aI (n%m*fc));obtain⟨Fz,hFz⟩:=nm (aI (n%m*fc%fc));obtain⟨Fp,hFp⟩:=nm (jG R2 Fz);have hHP:(HP u qs)[6]?=some (.w 145 .u32 u):=rfl;refine aGe 6 rfl rfl (λg1 N1 hN1 hg1=>?_);have hN1:N1=u.length:=hN1;have hg1:∀(i:Nat) (y:Int),u[i]?=some y->g1 i=y:=hg1;refine eB (R:=Fr) hc sW (λn0 D X μ a w aK H aG=>?_) 100 ?_
    ·obtain⟨v1',rfl,h1⟩:=bN aG;have h2:=H.row (l:=u.take L) rfl h1 (by rw[aJ3];rfl) (λi y hi=>by rw[Nat.zero_add];exact hg1 i y (r2 i y hi)) zW zW;rw[hFr,<-r3];exact mD r4 hub H.xlt h2
    cbv;refine eB (R:=Fp) hc bDr (λn0 D X μ a w aK H aG=>?_) 100 ?_
    ·obtain⟨v1',v2',rfl,h1,h2⟩:=bI aG;have k1:=H.val (k:=8) (R:=Fr) (.head _) h1;have h2:v2'=.int .u64 fI:=bY h2;rw[hFr]at k1;rw[h2,bHb,hFp,hR2,hFz];have:=aN2 zW f2 r5 H.xlt k1;rw[Nat.mul_div_cancel _ zW]at this;exact this
    cbv;refine mZ 287 9 rfl rfl (R1:=R2) (R2:=Fz) (by rw[<-hFp];exact .head _) ?_;apply zN hc;cbv;refine qV 7 rfl (λg2' N2 hN2 bBk=>?_);have hN2:N2=qs.length:=hN2;have bBk:∀(i:Nat) (y:Int),qs[i]?=some y->g2' i=y:=bBk;refine eB (R:=R1) hc sW (λn0 D X μ a w aK H aG=>?_) 100 ?_
    ·obtain⟨v1',rfl,h1⟩:=bN aG;have h2:=H.row (l:=qs) rfl h1 (by rw[hql];rfl) (λi y hi=>by rw[Nat.zero_add];exact bBk i y hi) zW zW;rw[hR1,<-aTd d1 hmV f1];exact mD hkn.wq hqb H.xlt h2
    cbv;exact bB hc hR rfl (λX μ a w x H hx=>aF1 12 10 _ _ _ _ _ _ _ H (.head _) (.tail _ (.head _)) hx)
end Go.Ai
