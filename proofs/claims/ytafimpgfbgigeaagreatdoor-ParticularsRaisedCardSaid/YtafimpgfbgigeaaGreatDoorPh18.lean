/- Part 19: lemmas for the particulars laws -/
import Derived.Test.YtafimpgfbgigeaaGreatDoorPh17
set_option linter.all false
namespace Go.Ai
open Go Go.Proofs Go.Num
theorem aP0:aB PP 201:=zK
theorem bGl {u0 u v:List Int}{j i NU L:Nat}{g carry borrow p d:Int}{fv:Nat->Int}(hs:Sm u0 u v j i g carry borrow)(hv:Wd v)(hg:0<=g/\g<1000000000)(hjN:j+L<NU)(hL:i<L)(hNU:NU<=2^38+2)(hul:u0.length=NU)
  (hp:p=g*v.getD i 0+carry) (hd:d=u.getD (j+i) 0 - p%1000000000 - borrow) (hfv:fv i=v.getD i 0) {P Dd:IE} (hP:P=(IE.mul (.v g) (.fn fv 0 (.n i) 1 0)).add (.v carry)) (hD:Dd=IE.sub (IE.sub (.nth u 0 (.add (.n j) (.n i)) 1 0) (.rem P (.l 1000000000))) (.v borrow)):
  (Dd.den=d/\(IE.quo P (.l 1000000000)).den=p/1000000000/\(IE.add Dd (.l 1000000000)).den=d+1000000000/\aY 0 (IE.add (.n j) (.n i)).den 1 0=j+i)/\
  ((Obl.inR .i64 (.rem P (.l 1000000000))).ok/\(Obl.ltE (.n i) (.n L)).ok/\(Obl.ix 0 (.n i) 1 0 1 L).ok/\(Obl.inR .u64 (.fn fv 0 (.n i) 1 0)).ok/\(Obl.inR .u64 (IE.mul (.v g) (.fn fv 0 (.n i) 1 0))).ok/\(Obl.inR .u64 P).ok/\(Obl.nz (.l 1000000000)).ok/\(Obl.inR .u64 (.quo P (.l 1000000000))).ok)/\
  ((Obl.inR .i64 (.add (.n j) (.n i))).ok/\(Obl.ltE (.add (.n j) (.n i)) (.n NU)).ok/\(Obl.ixL 0 (.add (.n j) (.n i)) 1 0 u).ok/\(Obl.inR .i64 (.nth u 0 (.add (.n j) (.n i)) 1 0)).ok/\(Obl.inR .i64 (IE.sub (.nth u 0 (.add (.n j) (.n i)) 1 0) (.rem P (.l 1000000000)))).ok/\(Obl.inR .i64 Dd).ok/\(Obl.inR .i64 (.add Dd (.l 1000000000))).ok)/\
  (d<0->(Obl.inR .u32 (.add Dd (.l 1000000000))).ok)/\(¬d<0->(Obl.inR .u32 Dd).ok)/\(Obl.inR .i64 (.add (.n i) (.l 1))).ok:=by
 obtain⟨s1,s2,s3,s4⟩:=hs.step hv hg zW hp hd;have hc:=hs.c;have hb:=hs.b;have hlen:=hs.len;have wv:=bA hv i;have wu:=bA hs.wd (j+i);obtain⟨x,hx⟩:=nm (v.getD i 0);obtain⟨y,hy⟩:=nm (u.getD (j+i) 0);rw[<-hx]at hfv hp wv;rw[<-hy]at hd wu;have iv:aY 0 (IE.n i).den 1 0=i:=by simp only[aY,IE.den];omega
 have iu:aY 0 (IE.add (.n j) (.n i)).den 1 0=j+i:=by simp only[aY,IE.den];omega
 have e1:(IE.fn fv 0 (.n i) 1 0).den=x:=by show fv (aY 0 (IE.n i).den 1 0)=x;rw[iv,hfv]
 have e2:(IE.nth u 0 (.add (.n j) (.n i)) 1 0).den=y:=by show u.getD (aY 0 (IE.add (.n j) (.n i)).den 1 0) 0=y;rw[iu,hy]
 obtain⟨z,hz⟩:=nm (g*x);have zb:0<=z/\z<=999999999*999999999:=by rw[hz];exact⟨Int.mul_nonneg hg.1 wv.1,Int.mul_le_mul zW zW wv.1 zW⟩
 rw[<-hz]at hp;have e3:(IE.mul (.v g) (.fn fv 0 (.n i) 1 0)).den=z:=by show g*(IE.fn fv 0 (.n i) 1 0).den=z;rw[e1,hz]
 have eP:P.den=p:=by rw[hP];show(IE.mul (.v g) (.fn fv 0 (.n i) 1 0)).den+carry=p;rw[e3,hp]
 have e4:(IE.rem P (.l 1000000000)).den=p%1000000000:=by show P.den.tmod 1000000000=_;rw[eP,Int.tmod_eq_emod_of_nonneg s1.1]
 have e5:(IE.quo P (.l 1000000000)).den=p/1000000000:=by show P.den.tdiv 1000000000=_;rw[eP,Int.tdiv_eq_ediv_of_nonneg s1.1]
 obtain⟨t,ht⟩:=nm (y - p%1000000000);have e6:(IE.sub (.nth u 0 (.add (.n j) (.n i)) 1 0) (.rem P (.l 1000000000))).den=t:=by
  show(IE.nth u 0 (.add (.n j) (.n i)) 1 0).den - (IE.rem P (.l 1000000000)).den=t;rw[e2,e4,ht]
 have eD:Dd.den=d:=by rw[hD];show(IE.sub (.nth u 0 (.add (.n j) (.n i)) 1 0) (.rem P (.l 1000000000))).den - borrow=d;rw[e6,ht,hd]
 have e7:(IE.add Dd (.l 1000000000)).den=d+1000000000:=by show Dd.den+1000000000=_;rw[eD]
 refine⟨⟨eD,e5,e7,iu⟩,⟨bF _ _ _ e4 ?_,?_,?_,bF _ _ _ e1 ?_,bF _ _ _ e3 ?_,bF _ _ _ eP ?_,?_,bF _ _ _ e5 ?_⟩,⟨?_,?_,?_,bF _ _ _ e2 ?_,bF _ _ _ e6 ?_,bF _ _ _ eD ?_,bF _ _ _ e7 ?_⟩,λh=>bF _ _ _ e7 ?_,λh=>bF _ _ _ eD ?_,?_⟩
 case refine_2=>show _/\_;simp only[IE.den];omega
 case refine_3=>show _<=_;rw[iv];omega
 case refine_7=>show _≠_;simp[IE.den]
 case refine_9=>show lo _<=_/\_<=hi _;simp only[lo,hi,IE.den];omega
 case refine_10=>show _/\_;simp only[IE.den];omega
 case refine_11=>show _<_;rw[iu];omega
 case refine_18=>show lo _<=_/\_<=hi _;simp only[lo,hi,IE.den];omega
 all_goals simp only[lo,hi];omega
theorem bGk {u0 u v:List Int}{j i NU L:Nat}{up x:Int}{fv:Nat->Int}(hs:Ad u0 u v j i up)(hv:Wd v)(hjN:j+L<NU)(hL:i<L)(hNU:NU<=2^38+2)(hul:u0.length=NU)
  (hx:x=up+(u.getD (j+i) 0+v.getD i 0)) (hfv:fv i=v.getD i 0) {Y Z:IE} (hY:Y=IE.add (.nth u 0 (.add (.n j) (.n i)) 1 0) (.fn fv 0 (.n i) 1 0)) (hZ:Z=IE.add Y (.v up)):
  ((IE.rem Z (.l 1000000000)).den=x%1000000000/\(IE.quo Z (.l 1000000000)).den=x/1000000000/\aY 0 (IE.add (.n j) (.n i)).den 1 0=j+i)/\
  ((Obl.inR .i64 (.add (.n j) (.n i))).ok/\(Obl.ltE (.add (.n j) (.n i)) (.n NU)).ok/\(Obl.ixL 0 (.add (.n j) (.n i)) 1 0 u).ok/\(Obl.inR .u32 (.nth u 0 (.add (.n j) (.n i)) 1 0)).ok/\(Obl.ltE (.n i) (.n L)).ok/\(Obl.ix 0 (.n i) 1 0 1 L).ok/\(Obl.inR .u32 (.fn fv 0 (.n i) 1 0)).ok)/\
  ((Obl.inR .u32 Y).ok/\(Obl.inR .u32 Z).ok/\(Obl.nz (.l 1000000000)).ok/\(Obl.inR .u32 (.rem Z (.l 1000000000))).ok/\(Obl.inR .u32 (.quo Z (.l 1000000000))).ok/\(Obl.inR .i64 (.add (.n i) (.l 1))).ok):=by
 obtain⟨s1,s2⟩:=hs.step hv zW hx;have hc:=hs.c;have hlen:=hs.len;have wv:=bA hv i;have wu:=bA hs.wd (j+i);obtain⟨a,ha⟩:=nm (v.getD i 0);obtain⟨b,hb⟩:=nm (u.getD (j+i) 0);rw[<-ha]at hfv hx wv;rw[<-hb]at hx wu;have iv:aY 0 (IE.n i).den 1 0=i:=by simp only[aY,IE.den];omega
 have iu:aY 0 (IE.add (.n j) (.n i)).den 1 0=j+i:=by simp only[aY,IE.den];omega
 have e1:(IE.fn fv 0 (.n i) 1 0).den=a:=by show fv (aY 0 (IE.n i).den 1 0)=a;rw[iv,hfv]
 have e2:(IE.nth u 0 (.add (.n j) (.n i)) 1 0).den=b:=by show u.getD (aY 0 (IE.add (.n j) (.n i)).den 1 0) 0=b;rw[iu,hb]
 have eY:Y.den=b+a:=by rw[hY];show(IE.nth u 0 (.add (.n j) (.n i)) 1 0).den+(IE.fn fv 0 (.n i) 1 0).den=_;rw[e1,e2]
 have eZ:Z.den=x:=by rw[hZ];show Y.den+up=x;rw[eY,hx,Int.add_comm]
 have e4:(IE.rem Z (.l 1000000000)).den=x%1000000000:=by show Z.den.tmod 1000000000=_;rw[eZ,Int.tmod_eq_emod_of_nonneg s1.1]
 have e5:(IE.quo Z (.l 1000000000)).den=x/1000000000:=by show Z.den.tdiv 1000000000=_;rw[eZ,Int.tdiv_eq_ediv_of_nonneg s1.1]
 refine⟨⟨e4,e5,iu⟩,⟨?_,?_,?_,bF _ _ _ e2 ?_,?_,?_,bF _ _ _ e1 ?_⟩,⟨bF _ _ _ eY ?_,bF _ _ _ eZ ?_,?_,bF _ _ _ e4 ?_,bF _ _ _ e5 ?_,?_⟩⟩
 case refine_1=>show lo _<=_/\_<=hi _;simp only[lo,hi,IE.den];omega
 case refine_2=>show _/\_;simp only[IE.den];omega
 case refine_3=>show _<_;rw[iu];omega
 case refine_5=>show _/\_;simp only[IE.den];omega
 case refine_6=>show _<=_;rw[iv];omega
 case refine_10=>show _≠_;simp[IE.den]
 case refine_13=>show lo _<=_/\_<=hi _;simp only[lo,hi,IE.den];omega
 all_goals simp only[lo,hi];omega
theorem aZz {ut x V:List Int}{j L:Nat}{up y:Int}(h:Ad (ut.set (j+L) y) x V j L up)(hw:Wd ut)(hjL:j+L<ut.length):Ad ut (x.set (j+L) (ut.getD (j+L) 0)) V j L up:=by
 have hl:x.length=ut.length:=by rw[h.len,List.length_set]
 refine⟨h.wd.set (bA hw _),by rw[List.length_set,hl],λt ht=>?_,?_,h.c⟩
 ·by_cases e:t=j+L
  ·subst e;rw[kJ _ zW]
  ·rw[eJ _ (λe'=>e e'.symm),h.same t ht,eJ _ (λe'=>e e'.symm)]
 ·have:=h.v
  rw[iJ]at this;rw[iJ];exact this
def HPo (N M L Ls:Nat)(f f' fv fs:Nat->Int)(u q:List Int):List Blk:=[.xi .u32 N f,.xi .u32 M f',.e,.e,.e,.e,.c 145 [.i .u32 (.l 0),.i .u32 (.l 0)],.w 145 .u32 u,.xi .u32 L fv,.xi .u32 Ls fs,.r 145 .u32 q]
set_option maxHeartbeats 0 in
theorem aH1 {c:Cx}(hc:Ctx c PP ty Tryz.f201.ntmps){K:List KF}{code:Code}(hb:Tryz.f201.body=some code){N M L Ls N1 sK aG8 j:Nat}{f f' fv fs:Nat->Int}{u qs V:List Int}{UI:Int}{mV:Nat}{v1 v2 top u0 u2 q P g:Int}(kf:lT 11 K K)
  (rd:Rd UI mV L j u qs V v1 v2 top u0 u2 q P) (hVL:V.length=L) (wV:Wd V) (hfv:∀i x,V[i]?=some x->fv i=x) (hNb:N1<=2^38+2) (hul:u.length=N1) (hjN:j+L<N1) (hLb:L<=2^38) (hq1:q<=g) (hq2:g<=q+1) (hg0:0<=g) (hgB:g<1000000000)
  (lO:∀uf,Kn UI mV L j uf (qs.set j q)->uf.length=N1->Goal c K ⟨[],⟨[(8,.i .u32 (.v q))],HPo N M L Ls f f' fv fs uf qs,[]⟩,[]⟩):
  Goal c K ⟨[.code code],⟨oY 0 [.sl 7 0 (.n N1) sK,.sl 8 0 (.n L) aG8,.i .i64 (.n j),.i .u64 (.v g)],HPo N M L Ls f f' fv fs u qs,[]⟩,[]⟩:=by
 injection hb with hb
 subst hb;obtain⟨HP,hHP⟩:=nm (HPo N M L Ls f f' fv fs);let BB:List (Nat × AV):=[(9,.i .i64 (.n L)),(0,.sl 7 0 (.n N1) sK),(1,.sl 8 0 (.n L) aG8),(2,.i .i64 (.n j)),(3,.i .u64 (.v g))];let ιs:={x:Nat × List Int × Int × Int//Sm u x.2.1 V j x.1 g x.2.2.1 x.2.2.2/\x.1<=L};let Is:ιs->St:=λx=>⟨(12,.i .i64 (.n x.1.1))::(10,.i .i64 (.v x.1.2.2.2))::(11,.i .u64 (.v x.1.2.2.1))::BB,HPo N M L Ls f f' fv fs x.1.2.1 qs,[]⟩
 let xs0:ιs:=⟨(0,u,0,0),Sm.init rd.kn.wu j g,Nat.zero_le _⟩
 apply zN hc;cbv;refine zU 11 (S':=Is xs0) (K':=K) zL kf trivial ?_;refine bW hc Is (λx=>L - x.1.1) xs0 100 ?_;rintro p' ⟨⟨i,ut,cr,bw⟩,hSm,aMk⟩ hys;simp only at hSm aMk;have aJ3:ut.length=N1:=by rw[hSm.len,hul]
 cbv;refine aE rfl 100 (λh=>?_) (λh=>?_)
 ·have hiL:i<L:=BE.ltn_t h
  obtain⟨pp,hpp⟩:=nm (g*V.getD i 0+cr);obtain⟨dd,hdd⟩:=nm (ut.getD (j+i) 0 - pp%1000000000 - bw);obtain⟨⟨f1,f2,f3,f4⟩,⟨k1,k2,k3,k4,k5,k6,k7,k8⟩,⟨k9,k10,k11,k12,k13,k14,k15⟩,k16,k17,k18⟩:=bGl (NU:=N1) (L:=L) hSm wV ⟨hg0,hgB⟩ hjN hiL hNb hul hpp hdd (lF hfv) rfl rfl;have wD:aY 0 (IE.add (.n j) (.n i)).den 1 0<ut.length:=by rw[f4,hSm.len];omega
  cbv;refine zO ?_;obtain⟨cr',aTr⟩:=nm (pp/1000000000);obtain⟨i',hi'⟩:=nm (i+1);obtain⟨_,ddb,st1,st2⟩:=hSm.step wV ⟨hg0,hgB⟩ zW hpp hdd;rw[<-aTr]at st1 st2 f2;rw[<-hi']at st1 st2;have hi1:((IE.n i).add (IE.l 1)).den=(IE.n i').den:=by simp only[IE.den,hi'];omega
  have wC:i'<=L:=zW
  have hms:L - i'<L - i:=zW
  have fB:(BE.lt (((IE.nth ut 0 ((IE.n j).add (IE.n i)) 1 0).sub ((((IE.v g).mul (IE.fn fv 0 (IE.n i) 1 0)).add (IE.v cr)).rem (IE.l 1000000000))).sub (IE.v bw)) (IE.l 0)).den=(BE.lt (.v dd) (.l 0)).den:=by simp only[BE.den,f1];rfl
  have w1:(Obl.inR .i64 (.add (.v dd) (.l 1000000000))).ok:=bF _ _ (dd+1000000000) rfl zX
  have w2:dd<0->(Obl.inR .u32 (.add (.v dd) (.l 1000000000))).ok:=λh=>bF _ _ (dd+1000000000) rfl zX
  have w3:¬dd<0->(Obl.inR .u32 (.v dd)).ok:=λh=>bF _ _ dd rfl zX
  refine zU 11 (S':=⟨(51,.b (.lt (.v dd) (.l 0)))::(14,.i .i64 (.v dd))::(11,.i .u64 (.v cr'))::(10,.i .i64 (.l 0))::(12,.i .i64 (.n i))::BB,HPo N M L Ls f f' fv fs ut qs,[]⟩) (K':=K) ⟨⟨_,rfl,rfl,λμ=>congrArg (λz=>some (Value.bool z)) fB⟩,zI rfl rfl f1,zI rfl rfl f2,zL⟩ kf trivial ?_;refine aE rfl 100 (λh2=>?_) (λh2=>?_)
  ·have h2:dd<0:=BE.lt_t h2
   have w2:=w2 h2
   have st1:=st1 h2
   cbv;refine zO ?_;refine iD hc _ (r:=(7,145,.u32,ut,aY 0 ((IE.n j).add (IE.n i)).den 1 0,(.add (.v dd) (.l 1000000000)))) wD (λl' hl'=>?_);have hl':l'=ut.set (j+i) (dd+1000000000):=by rw[hl',<-f4];rfl
   rw[<-hl']at st1;apply zN hc;cbv;refine zO ?_;exact zU 11 (S':=Is ⟨(i',l',cr',1),st1,wC⟩) (K':=K) ⟨zI rfl rfl hi1,zL⟩ kf trivial (hys ⟨(i',l',cr',1),st1,wC⟩ hms)
  ·have h2:¬dd<0:=BE.lt_f h2
   have w3:=w3 h2
   have st2:=st2 h2
   cbv;refine zO ?_;refine iD hc _ (r:=(7,145,.u32,ut,aY 0 ((IE.n j).add (IE.n i)).den 1 0,(.v dd))) wD (λl' hl'=>?_);have hl':l'=ut.set (j+i) dd:=by rw[hl',<-f4];rfl
   rw[<-hl']at st2;apply zN hc;cbv;refine zO ?_;exact zU 11 (S':=Is ⟨(i',l',cr',0),st2,wC⟩) (K':=K) ⟨zI rfl rfl hi1,zL⟩ kf trivial (hys ⟨(i',l',cr',0),st2,wC⟩ hms)
 have hiL:L<=i:=BE.ltn_f h
 have aHr:L=i:=zW
 rw[<-aHr]at hSm;obtain⟨ll,hll⟩:=nm (ut.getD (j+L) 0 - cr - bw);have aT0:=rd.last hSm ⟨hq1,hq2⟩ hll;have ix0:aY 0 ((IE.n j).add (IE.n L)).den 1 0=j+L:=by simp only[aY,IE.den];omega
 obtain⟨ul,aUa⟩:=nm (ut.getD (j+L) 0);have wul:=bA hSm.wd (j+L);rw[<-aUa]at wul hll;have hcr:=hSm.c;have hbw:=hSm.b;have eul:(IE.nth ut 0 ((IE.n j).add (IE.n L)) 1 0).den=ul:=by show ut.getD (aY 0 ((IE.n j).add (IE.n L)).den 1 0) 0=_;rw[ix0,aUa]
 obtain⟨l1,hl1⟩:=nm (ul - cr);have el1:((IE.nth ut 0 ((IE.n j).add (IE.n L)) 1 0).sub (IE.v cr)).den=l1:=by show(IE.nth ut 0 ((IE.n j).add (IE.n L)) 1 0).den - cr=_;rw[eul,hl1]
 have ell:(((IE.nth ut 0 ((IE.n j).add (IE.n L)) 1 0).sub (IE.v cr)).sub (IE.v bw)).den=ll:=by show((IE.nth ut 0 ((IE.n j).add (IE.n L)) 1 0).sub (IE.v cr)).den - bw=_;rw[el1,hl1,hll]
 have v1':(Obl.inR .i64 ((IE.n j).add (IE.n L))).ok:=by show lo _<=_/\_<=hi _;simp only[lo,hi,IE.den];omega
 have v2':(Obl.ltE ((IE.n j).add (IE.n L)) (IE.n N1)).ok:=by show _/\_;simp only[IE.den];omega
 have w1:(Obl.ixL 0 ((IE.n j).add (IE.n L)) 1 0 ut).ok:=by show _<_;rw[ix0];omega
 have w2:=bF .i64 _ _ eul zX
 have w3:=bF .i64 _ _ el1 zX
 have w4:=bF .i64 _ _ ell zX
 have w5:(Obl.inR .i64 (IE.v cr)).ok:=bF _ _ cr rfl zX
 have fB:(BE.le (IE.l 0) (((IE.nth ut 0 ((IE.n j).add (IE.n L)) 1 0).sub (IE.v cr)).sub (IE.v bw))).den=(BE.le (.l 0) (.v ll)).den:=by simp only[BE.den,ell];rfl
 have bBn:aY 0 ((IE.n j).add (IE.n L)).den 1 0<ut.length:=by rw[ix0];omega
 cbv;refine zO ?_;refine zU 11 (S':=⟨(74,.b (.le (.l 0) (.v ll)))::(15,.i .i64 (.v ll))::BB,HPo N M L Ls f f' fv fs ut qs,[]⟩) (K':=K) ⟨⟨_,rfl,rfl,λμ=>congrArg (λz=>some (Value.bool z)) fB⟩,zI rfl rfl ell,zL⟩ kf trivial ?_;rcases aT0 with⟨k1,k2,k3⟩ | ⟨k1,k2,k3⟩
 ·refine aE rfl 100 (λh2=>?_) (λh2=>absurd (BE.le_f h2) (by rw[k1];simp[IE.den]));have w6:(Obl.inR .u32 (IE.v ll)).ok:=bF _ _ ll rfl zX;have w7:(Obl.inR .u32 (IE.v g)).ok:=bF _ _ g rfl zX;have k2':(IE.v g).den=(IE.v q).den:=k2;cbv;refine zO ?_;refine iD hc _ (r:=(7,145,.u32,ut,aY 0 ((IE.n j).add (IE.n L)).den 1 0,(.v ll))) bBn (λl' hl'=>?_);have hl':l'=ut.set (j+L) 0:=by rw[hl',<-ix0,<-k1];rfl
  rw[k2,<-hl']at k3;apply zN hc;cbv;refine zO ?_;exact zU 11 (S':=⟨[(8,.i .u32 (.v q))],HPo N M L Ls f f' fv fs l' qs,[]⟩) (K':=K) ⟨zI rfl rfl k2',zL⟩ kf trivial (lO l' k3 (by rw[hl',List.length_set];exact aJ3))
 ·refine aE rfl 100 (λh2=>absurd (BE.le_t h2) (by rw[k1];simp[IE.den])) (λh2=>?_);have w6:(Obl.inR .i64 (.add (.v ll) (.l 1000000000))).ok:=bF _ _ (ll+1000000000) rfl zX;have w7:(Obl.inR .u32 (.add (.v ll) (.l 1000000000))).ok:=bF _ _ (ll+1000000000) rfl zX;cbv;refine zO ?_;refine iD hc _ (r:=(7,145,.u32,ut,aY 0 ((IE.n j).add (IE.n L)).den 1 0,(.add (.v ll) (.l 1000000000)))) bBn (λub hub=>?_);have hub:ub=ut.set (j+L) (ll+1000000000):=by rw[hub,<-ix0];rfl
  have bH4:Wd ub:=by rw[hub];exact hSm.wd.set zW
  have bFe:ub.length=N1:=by rw[hub,List.length_set];exact aJ3
  let ιa:={x:Nat × List Int × Int//Ad ub x.2.1 V j x.1 x.2.2/\x.1<=L}
  let Ia:ιa->St:=λx=>⟨(17,.i .i64 (.n x.1.1))::(16,.i .u32 (.v x.1.2.2))::BB,HPo N M L Ls f f' fv fs x.1.2.1 qs,[]⟩
  let xa0:ιa:=⟨(0,ub,0),Ad.init bH4 j,Nat.zero_le _⟩
  apply zN hc;cbv;refine zU 11 (S':=Ia xa0) (K':=K) zL kf trivial ?_;refine bW hc Ia (λx=>L - x.1.1) xa0 100 ?_;rintro p'' ⟨⟨i,ua,up⟩,hAd,aMk⟩ hya;simp only at hAd aMk;cbv;refine aE rfl 100 (λh=>?_) (λh=>?_)
  ·have hiL:i<L:=BE.ltn_t h
   obtain⟨xx,hxx⟩:=nm (up+(ua.getD (j+i) 0+V.getD i 0));obtain⟨⟨f1,f2,f4⟩,⟨m1,m2,m3,m4,m5,m6,m7⟩,⟨m8,m9,m10,m11,m12,m13⟩⟩:=bGk (NU:=N1) (L:=L) hAd wV hjN hiL hNb bFe hxx (lF hfv) rfl rfl;have st:=(hAd.step wV zW hxx).2;have wD:aY 0 (IE.add (.n j) (.n i)).den 1 0<ua.length:=by rw[f4,hAd.len];omega
   obtain⟨up',bBx⟩:=nm (xx/1000000000);obtain⟨i',hi'⟩:=nm (i+1);rw[<-bBx]at st f2;rw[<-hi']at st;have hi1:((IE.n i).add (IE.l 1)).den=(IE.n i').den:=by simp only[IE.den,hi'];omega
   have wC:i'<=L:=zW
   have hms:L - i'<L - i:=zW
   cbv;refine zO ?_;refine zE ?_;cbv;refine zO ?_;refine iD hc _ (r:=(7,145,.u32,ua,aY 0 ((IE.n j).add (IE.n i)).den 1 0,(IE.rem (IE.add (IE.add (.nth ua 0 (.add (.n j) (.n i)) 1 0) (.fn fv 0 (.n i) 1 0)) (.v up)) (.l 1000000000)))) wD (λl' hl'=>?_);have hl':l'=ua.set (j+i) (xx%1000000000):=by rw[hl',<-f4,<-f1]
   rw[<-hl']at st;apply zN hc;cbv;refine zO ?_;exact zU 11 (S':=Ia ⟨(i',l',up'),st,wC⟩) (K':=K) ⟨zI rfl rfl hi1,zI rfl rfl f2,zL⟩ kf trivial (hya ⟨(i',l',up'),st,wC⟩ hms)
  have hiL:L<=i:=BE.ltn_f h
  have aHr:L=i:=zW
  rw[<-aHr]at hAd;have bA6:Sm u ut V j L (q+1) cr bw:=by rw[<-k2];exact hSm
  have bBw:ua.length=N1:=by rw[hAd.len,bFe]
  have euL:ua.getD (j+L) 0=999999999:=by
   rw[hAd.same (j+L) (.inr (lRf _)),hub,kJ _ zW,k1];rfl
  rw[hub]at hAd;obtain⟨hup,aTx⟩:=rd.back bA6 k3 (aZz hAd hSm.wd zW);rw[List.set_set]at aTx;have ea:(IE.nth ua 0 ((IE.n j).add (IE.n L)) 1 0).den=999999999:=by show ua.getD (aY 0 ((IE.n j).add (IE.n L)).den 1 0) 0=_;rw[ix0,euL]
  have eb:((IE.nth ua 0 ((IE.n j).add (IE.n L)) 1 0).add (IE.v up)).den=1000000000:=by show(IE.nth ua 0 ((IE.n j).add (IE.n L)) 1 0).den+up=_;rw[ea,hup];rfl
  have ec:(((IE.nth ua 0 ((IE.n j).add (IE.n L)) 1 0).add (IE.v up)).rem (IE.l 1000000000)).den=0:=by show((IE.nth ua 0 ((IE.n j).add (IE.n L)) 1 0).add (IE.v up)).den.tmod 1000000000=0;rw[eb];rfl
  have y1:(Obl.ixL 0 ((IE.n j).add (IE.n L)) 1 0 ua).ok:=by show _<_;rw[ix0];omega
  have y2:=bF .u32 _ _ ea zX
  have y3:=bF .u32 _ _ eb zX
  have y4:=bF .u32 _ _ ec zX
  have y5:(Obl.nz (.l 1000000000)).ok:=by show _≠_;simp[IE.den]
  have bHr:aY 0 ((IE.n j).add (IE.n L)).den 1 0<ua.length:=by rw[ix0];omega
  have hq0:=rd.q0
  have eg:(IE.sub (.v g) (.l 1)).den=(IE.v q).den:=by show g - 1=q;omega
  have y6:(Obl.inR .u64 (IE.sub (.v g) (.l 1))).ok:=bF _ _ (g - 1) rfl zX
  have y7:(Obl.inR .u32 (IE.sub (.v g) (.l 1))).ok:=bF _ _ (g - 1) rfl zX
  cbv;refine zO ?_;refine iD hc _ (r:=(7,145,.u32,ua,aY 0 ((IE.n j).add (IE.n L)).den 1 0,(((IE.nth ua 0 ((IE.n j).add (IE.n L)) 1 0).add (IE.v up)).rem (IE.l 1000000000)))) bHr (λl' hl'=>?_);have hl':l'=ua.set (j+L) 0:=by rw[hl',ec,ix0]
  rw[<-hl']at aTx;apply zN hc;cbv;refine zO ?_;exact zU 11 (S':=⟨[(8,.i .u32 (.v q))],HPo N M L Ls f f' fv fs l' qs,[]⟩) (K':=K) ⟨zI rfl rfl eg,zL⟩ kf trivial (lO l' aTx (by rw[hl',List.length_set];exact bBw))
set_option maxHeartbeats 0 in
theorem aO8:aGr:=by
 intro v u X w n m hm0 hbn hbm hX hv hu;obtain⟨R1,hR1⟩:=nm (aI (n/m));obtain⟨R2,hR2⟩:=nm (aI (n%m));obtain⟨R,hRR⟩:=nm (jG R1 R2);obtain⟨K,hK⟩:=nm ([KF.cst v (aI n),KF.cst u (aI m)]);have aQe:R=jG (aI (n/m)) (aI (n%m)):=by rw[hRR,hR1,hR2]
 rw[<-aQe];refine bJ mixed tok [.q v,.q u] (K:=K) Tryz.func166 rfl rfl (lbl rfl) rfl hX (by subst hK;simp;exact⟨hv,hu⟩) λc hc hR=>?_;refine dE 0 .u32 (aC n) rfl rfl (λX μ a w v' H hv'=>cD H (by simp[hK]) hv') λf N cap hN hf dJ=>?_;refine dE 1 .u32 (aC m) rfl rfl (λX μ a w v' H hv'=>cD H (by simp[hK]) hv') λf' M aU hM hf' gY=>?_;have kf:∀q,lT q K K:=λq=>by subst hK;exact⟨⟨.head _,KFr.cst _ _ _⟩,⟨.tail _ (.head _),KFr.cst _ _ _⟩,trivial⟩
 have cU:∀(kd:IntKind) (e:IE) (z:Int),e.den=z->lo kd<=z/\z<=hi kd->(Obl.inR kd e).ok:=λkd e z he hz=>by show _/\_;rw[he];exact hz
 have hM0:0<M:=by rw[hM,bZ zW];simp
 apply zN hc;cbv;obtain⟨z,hz⟩:=nm (bD n m);refine cE hc (.i .i64 (.v z)) (r:=.int .i64 z) pR (λn0 D X μ a w aK H aG=>?_) rfl 100 ?_
 ·obtain⟨v1,v2,rfl,h1,h2⟩:=bI aG;rw[hz];exact aKh zW zW H.xlt (H.numRow rfl h1 hN hf dJ) (H.numRow rfl h2 hM hf' gY)
 cbv;have aF1:∀(k1 k2:Nat) (K':List KF) (S:St) (X:Nat->Prop) (μ:Mu) (a:Act) (w:World) (v:Value),Sim c K' S X μ a w->KF.at k1 R1∈K'->KF.at k2 R2∈K'->aD μ (.t [.e k1,.e k2])=some v->R.p v X w:=by
  intro k1 k2 K' S X μ a w v H m1 m2 hv;obtain⟨vs,hvs,rfl⟩:=rJ hv;obtain⟨v1,v2,rfl,h1,h2⟩:=bI hvs;rw[hRR];exact⟨v1,v2,rfl,H.toP.val m1 h1,H.toP.val m2 h2⟩
 refine aE rfl 100 (λh=>?_) (λh=>?_)
 ·have h:z<0:=BE.lt_t h
  have hlt:n<m:=aHe hz h
  cbv;refine bB hc hR rfl (λX μ a w x H hx=>?_);obtain⟨vs,hvs,rfl⟩:=rJ hx;obtain⟨v1,v2,rfl,h1,h2⟩:=bI hvs;rw[aQe];refine⟨_,_,rfl,?_,?_⟩
  ·have h1:=nF h1
   rw[h1,Nat.div_eq_of_lt hlt];exact aKg
  ·rw[Nat.mod_eq_of_lt hlt];exact H.toP.numRow rfl h2 hN hf dJ
 have h:¬z<0:=BE.lt_f h
 have hle:m<=n:=aCu hz h
 have hNM:M<=N:=by rw[hN,hM];exact bS hle
 cbv;refine aE rfl 100 (λh=>?_) (λh=>?_)
 ·have hM1:M=1:=BE.eqnl_t (k:=1) h
  obtain⟨hd,hlt⟩:=aKi hM1 hM;have hg:f' 0=m:=hf' 0 _ (by rw[hd];rfl);have o1:(Obl.ltE (IE.l 0) (IE.n M)).ok:=by show _/\_;simp only[IE.den];omega
  have o2:(Obl.ix 0 (IE.l 0) 0 0 1 M).ok:=by show _<=_;simp only[aY,IE.den];omega
  obtain⟨Rm,hRm⟩:=nm (eE (.int .u32 (n%m:Nat)));cbv;refine aP hc ⟨o1,o2,trivial⟩ ?_;refine eB (R:=jG R1 Rm) hc aYr (λn0 D X μ a w aK H aG=>?_) 100 ?_
  ·obtain⟨v1,v2,rfl,h1,h2⟩:=bI aG;have h2:v2=.int .u32 (f' 0):=bY h2;rw[h2,hg,hR1,hRm];exact oby hm0 hlt zW H.xlt (H.numRow rfl h1 hN hf dJ)
  cbv;refine mZ 27 2 rfl rfl (R1:=R1) (R2:=Rm) (.head _) ?_;apply zN hc;cbv;refine eB (R:=R2) hc qE (λn0 D X μ a w aK H aG=>?_) 100 ?_
  ·obtain⟨v1,rfl,h1⟩:=bN aG;have h2:=H.val (k:=4) (R:=Rm) zM h1;rw[hRm]at h2;have h2:v1=.int .u32 (n%m:Nat):=h2;have hr:=Nat.mod_lt n hm0;have h3:=aAj (x:=((n%m:Nat):Int)) H.xlt zW zW;rw[Int.toNat_natCast]at h3;rw[h2,hR2];exact h3
  cbv;exact bB hc hR rfl (λX μ a w x H hx=>aF1 3 5 _ _ _ _ _ _ _ H zM (.head _) hx)
 ·have hM2:M≠1:=BE.eqnl_f (k:=1) h
  obtain⟨t,ht⟩:=nm ((aC m).getD (M - 1) 0);obtain⟨fc,hfc,t1,t2,hvl,hvt,f1,f2⟩:=aTb hM zW ht;have hix:aY 0 ((IE.n M).sub (IE.l 1)).den 1 0=M - 1:=by simp only[aY,IE.den];omega
  have hg:f' (aY 0 ((IE.n M).sub (IE.l 1)).den 1 0)=t:=by rw[hix,ht];exact lF hf'
  have o1:(Obl.inR .i64 ((IE.n M).sub (IE.l 1))).ok:=by show lo _<=_/\_<=hi _;simp only[lo,hi,IE.den];omega
  have o2:(Obl.ltE ((IE.n M).sub (IE.l 1)) (IE.n M)).ok:=by show _/\_;simp only[IE.den];omega
  have o3:(Obl.ix 0 ((IE.n M).sub (IE.l 1)) 1 0 1 M).ok:=by show _<=_;rw[hix];omega
  have e1:(IE.fn f' 0 ((IE.n M).sub (IE.l 1)) 1 0).den=t:=hg
  have e2:((IE.fn f' 0 ((IE.n M).sub (IE.l 1)) 1 0).add (IE.l 1)).den=t+1:=by rw[<-e1];rfl
  have e3:((IE.l 1000000000).quo ((IE.fn f' 0 ((IE.n M).sub (IE.l 1)) 1 0).add (IE.l 1))).den=fc:=by
   show(1000000000:Int).tdiv ((IE.fn f' 0 ((IE.n M).sub (IE.l 1)) 1 0).add (IE.l 1)).den=_
   rw[e2,Int.tdiv_eq_ediv_of_nonneg zW,hfc]
  have o4:=cU .i64 _ _ e1 zX
  have o5:=cU .i64 _ _ e2 zX
  have o6:(Obl.nz ((IE.fn f' 0 ((IE.n M).sub (IE.l 1)) 1 0).add (IE.l 1))).ok:=by show _≠_;rw[e2];omega
  have o7:=cU .i64 _ _ e3 zX
  have o8:=cU .u32 _ _ e3 zX
  obtain⟨Ff,hFf⟩:=nm (aI fc);obtain⟨Fv,hFv⟩:=nm (aI (m*fc));obtain⟨FU,hFU⟩:=nm (aI (n*fc));have hfl:(aC fc).length<=1:=bP (by simpa using f2);cbv;refine zO ?_;refine eB (R:=Ff) hc qE (λn0 D X μ a w aK H aG=>?_) 100 ?_
  ·obtain⟨v1,rfl,h1⟩:=bN aG;have h1:v1=.int .u32 fc:=by rw[bY h1,e3]
   have h2:=aAj (x:=(fc:Int)) H.xlt zW zW
   rw[h1,hFf];rw[Int.toNat_natCast]at h2;exact h2
  cbv;refine eB (R:=Fv) hc kV (λn0 D X μ a w aK H aG=>?_) 100 ?_
  ·obtain⟨v1,v2,rfl,h1,h2⟩:=bI aG;have k2:=H.val (k:=2) (R:=Ff) (.head _) h2;rw[hFf]at k2;rw[hFv];exact rV zW zW H.xlt (H.numRow rfl h1 hM hf' gY) k2
  cbv;refine eB (R:=FU) hc kV (λn0 D X μ a w aK H aG=>?_) 1 ?_
  ·obtain⟨v1,v2,rfl,h1,h2⟩:=bI aG;have k2:=H.val (k:=2) (R:=Ff) zM h2;rw[hFf]at k2;rw[hFU];exact rV zW zW H.xlt (H.numRow rfl h1 hN hf dJ) k2
  cbv;obtain⟨G,hG⟩:∃G:Option Addr->Nat->Nat->List Int->OF,∀a n cap l,G a n cap l=OF.row (.slice a n cap) c.B.heap.size 145 .u32 l:=⟨λa n cap l=>OF.row (.slice a n cap) c.B.heap.size 145 .u32 l,λ_ _ _ _=>rfl⟩;obtain⟨K1,hK1⟩:=nm (KF.at 5 FU::KF.at 3 Fv::KF.at 2 Ff::K);obtain⟨K2,hK2⟩:=nm (KF.at 3 Fv::KF.at 2 Ff::K);have mU:KF.at 5 FU∈K1:=by rw[hK1];exact .head _
  have hm2:∀f,f∈K2->f∈K1:=λf h=>by rw[hK1,<-hK2];exact .tail _ h
  have mV:KF.at 3 Fv∈K2:=by rw[hK2];exact .head _
  have mF:KF.at 2 Ff∈K2:=by rw[hK2];exact .tail _ (.head _)
  have kf2:∀q,3<q->lT q K2 K2:=λq hq=>by subst hK2;subst hK;exact⟨⟨.head _,KFr.at hq _⟩,⟨.tail _ (.head _),KFr.at zW _⟩,⟨.tail _ (.tail _ (.head _)),KFr.cst _ _ _⟩,⟨.tail _ (.tail _ (.tail _ (.head _))),KFr.cst _ _ _⟩,trivial⟩
  have kk:aCa 4 K1 K1:=by subst hK1;subst hK;exact⟨⟨.head _,KFk.at zV _⟩,⟨.tail _ (.head _),KFk.at zV _⟩,⟨.tail _ (.tail _ (.head _)),KFk.at zV _⟩,⟨.tail _ (.tail _ (.tail _ (.head _))),KFk.cst _ _ _⟩,⟨.tail _ (.tail _ (.tail _ (.tail _ (.head _)))),KFk.cst _ _ _⟩,trivial⟩
  refine Goal.k hK1 ?_;obtain⟨U0,hU0⟩:=nm (aC (n*fc));have hU1:N<=U0.length/\U0.length<=2^38+1:=aTc hN hU0 hbn f1 f2;have hN0:0<N:=zW;refine bCt 53 4 (n:=0) (news:=[]) (kd:=.u32) hG (K':=K1) (l:=[(0,.sl 0 0 (.n N) cap),(8,.i .i64 (.n M)),(9,.e 2),(10,.e 3),(56,.e 5)]) rfl rfl rfl rfl rfl zV ⟨⟨_,rfl,rfl,λ_=>rfl⟩,⟨_,rfl,rfl,λ_=>rfl⟩,⟨_,rfl,rfl,λ_=>rfl⟩,⟨_,rfl,rfl,λ_=>rfl⟩,⟨_,rfl,rfl,λ_=>rfl⟩,trivial⟩ rfl kk trivial (λb0=>?_);refine aGd hc _ rfl rfl rfl (kd:=.u32) (news:=U0) hG rfl rfl rfl rfl rfl rfl rfl rfl cJ (by simp;omega) (by simp;omega) zW (λX μ a w v H hv=>?_) (λa1 n1 cap1 l1 hn1 hl1=>?_)
  ·have k:=H.toP.val mU hv
   rw[hFU]at k;rw[hU0];exact aQ0 k (by rw[<-hU0];omega)
  have hl1:l1=U0:=hl1
  apply zN hc;cbv;refine aGd hc _ rfl rfl rfl (kd:=.u32) (news:=[0,0]) hG rfl rfl rfl rfl rfl rfl rfl rfl cJ (by rw[hl1];simp;omega) (by rw[hl1];simp;omega) zV (λX μ a w v H hv=>aRg (e1:=.l 0) (e2:=.l 0) rfl H hv) (λa2 n2 sK U hn2 hU=>?_);have hU:U=U0++[0,0]:=by rw[hU,hl1]
  have hUl:U.length=U0.length+2:=by rw[hU];simp
  have bA8:U≠[]:=by rw[hU];simp
  refine aNh 59 rfl rfl (hG _ _ _ _) rfl bA8 (λNU hNU bGv=>?_);let HT:List Blk:=[.xi .u32 N f,.xi .u32 M f',.e,.e,.e,.e,.c 145 [.i .u32 (.l 0),.i .u32 (.l 0)],.w 145 .u32 U];refine zU 8 (S':=⟨[(0,.sl 0 0 (.n N) cap),(8,.i .i64 (.n M)),(9,.e 2),(10,.e 3),(59,.sl 7 0 (.n NU) sK)],HT,[]⟩) (K':=K2) zL ?_ trivial ?_
  ·subst hK1;subst hK2;subst hK;exact⟨⟨.tail _ (.head _),KFr.at zV _⟩,⟨.tail _ (.tail _ (.head _)),KFr.at zV _⟩,⟨.tail _ (.tail _ (.tail _ (.head _))),KFr.cst _ _ _⟩,⟨.tail _ (.tail _ (.tail _ (.tail _ (.head _)))),KFr.cst _ _ _⟩,trivial⟩
  have q1:(Obl.inR .i64 ((IE.n N).add (IE.l 1))).ok:=by show lo _<=_/\_<=hi _;simp only[lo,hi,IE.den];omega
  apply zN hc;cbv;refine aP hc ⟨q1,trivial⟩ ?_;have bGz:0<U0.length:=zW;have aYv:U.getD (U0.length - 1) 0≠0:=by
   have h1:=yV (m:=n*fc) (k:=U0.length - 1) (by rw[<-hU0];omega)
   have h2:U.getD (U0.length - 1) 0=U0.getD (U0.length - 1) 0:=by
    rw[hU,List.getD_eq_getElem?_getD,List.getD_eq_getElem?_getD,List.getElem?_append_left zW]
   rw[h2,hU0];rw[hU0]at h1;omega
  have hUz:∀j,U0.length<=j->U.getD j 0=0:=λj hj=>by
   rw[hU,List.getD_eq_getElem?_getD,List.getElem?_append_right hj];match j - U0.length with
   | 0=>rfl
   | 1=>rfl
   | _+2=>rfl
  obtain⟨k0,hk0⟩:=nm (U0.length);rw[<-hk0]at aYv hUz bGz hUl hU1;refine cO hc Tryz.func163 mG (λc' tm FR hFR hc' L=>?_);have hFr:KFr 8 FR:=by rw[hFR];exact KFr.fr (by rfl) tm
  obtain⟨K3,hK3⟩:=nm (FR::K2);have kf3:lT 8 K3 K3:=by
   subst hK3;subst hK2;subst hK;exact⟨⟨.head _,hFr⟩,⟨.tail _ (.head _),KFr.at zV _⟩,⟨.tail _ (.tail _ (.head _)),KFr.at zV _⟩,⟨.tail _ (.tail _ (.tail _ (.head _))),KFr.cst _ _ _⟩,⟨.tail _ (.tail _ (.tail _ (.tail _ (.head _)))),KFr.cst _ _ _⟩,trivial⟩
  have mFR:FR∈K3:=by rw[hK3];exact .head _
  have m32:∀f,f∈K2->f∈K3:=λf h=>by rw[hK3];exact .tail _ h
  refine Goal.k hK3 ?_;apply zN hc';cbv;let ιt:={x:Nat//k0<=x/\x<=NU};let It:ιt->St:=λx=>⟨[(0,.sl 7 0 (.n x.1) sK)],HT,[]⟩
  have bEy:k0<=NU:=zW
  refine zU 8 (S':=It ⟨NU,bEy,lRf _⟩) (K':=K3) zL kf3 trivial ?_;refine bW hc' It (λx=>x.1) ⟨NU,bEy,lRf _⟩ 100 ?_;rintro p ⟨x,hx1,hx2⟩ hyt;obtain⟨q,hq⟩:∃q,q+1=x:=⟨x - 1,zW⟩;have ixq:aY 0 ((IE.n x).sub (IE.l 1)).den 1 0=q:=by simp only[aY,IE.den];omega
  have w1:(Obl.inR .i64 ((IE.n x).sub (IE.l 1))).ok:=by show lo _<=_/\_<=hi _;simp only[lo,hi,IE.den];omega
  have w2:(Obl.ltE ((IE.n x).sub (IE.l 1)) (IE.n x)).ok:=by show _/\_;simp only[IE.den];omega
  have w3:(Obl.ixL 0 ((IE.n x).sub (IE.l 1)) 1 0 U).ok:=by show _<_;rw[ixq];omega
  have w4:(Obl.leE ((IE.n x).sub (IE.l 1)) sK).ok:=by show _/\_;simp only[IE.den];omega
  have eq1:((IE.n x).sub (IE.l 1)).den=(IE.n q).den:=by simp only[IE.den];omega
  have hx0:(BE.lt (.l 0) (.n x)).den=true:=by show decide ((0:Int)<(x:Int))=true;exact decide_eq_true zW
  cbv;refine cG (hc:=hc') 6 rfl rfl 100 (λ_=>?_) (λh=>absurd (hx0.symm.trans h) zV);cbv;refine zO (hc:=hc') ?_;refine aE (hc:=hc') rfl 100 (λh3=>?_) (λh3=>?_)
  ·have h3:U.getD (aY 0 ((IE.n x).sub (IE.l 1)).den 1 0) 0=0:=of_decide_eq_true h3
   rw[ixq]at h3;have hqk:k0<=q:=by
    rcases Nat.lt_or_ge q k0 with h | h
    ·have:q=k0 - 1:=zW
     rw[this]at h3;exact absurd h3 aYv
    ·exact h
   have hqN:q<=NU:=zW
   have hqx:q<x:=zW
   cbv;refine zO (hc:=hc') ?_;exact zU 8 (S':=It ⟨q,hqk,hqN⟩) (K':=K3) ⟨⟨_,rfl,rfl,λμ=>by simp only[aD,eq1]⟩,trivial⟩ kf3 trivial (hyt _ hqx)
  have h3:U.getD (aY 0 ((IE.n x).sub (IE.l 1)).den 1 0) 0≠0:=of_decide_eq_false h3
  rw[ixq]at h3;have hxk:x=k0:=by
   rcases Nat.lt_or_ge q k0 with h | h
   ·omega
   ·exact absurd (hUz q h) h3
  cbv;refine cY hc' L hFR mFR ?_;clear hyt hx0 w1 w2 w3 w4 eq1 ixq;have bI4:k0<=N+1:=by
   rw[hk0,hU0];refine bP ?_;have h1:=aT (n:=n) (k:=N) zW;rw[Nat.pow_succ];exact Nat.mul_lt_mul_of_lt_of_le h1 (Nat.le_of_lt f2) zV
  obtain⟨N1,hN1⟩:=nm (N+1);obtain⟨Ut,hUt⟩:=nm (U.take N1);have bG0:Ut.length=N1:=by rw[hUt,List.length_take];omega
  have bEd:Wd Ut/\val Ut=(n*fc:Nat):=by
   have hw0:Wd U0:=by rw[hU0];exact bG _
   have hw1:Wd [(0:Int)]:=Wd.mk zW Wd.nil
   rcases Nat.lt_or_ge N k0 with h | h
   ·have e:Ut=U0:=by rw[hUt,hU,List.take_left' zW]
    rw[e];exact⟨hw0,by rw[hU0,cS]⟩
   ·have e:Ut=U0++[0]:=by rw[hUt,hU,show U0++[0,0]=(U0++[0])++[0] by simp,List.take_left' (by simp;omega)]
    rw[e];exact⟨hw0.append hw1,by rw[sE,hU0,cS]⟩
  have eM:(((IE.n N).add (IE.l 1)).max (IE.n x)).den=(IE.n N1).den:=by
   show(if(N:Int)+1<(x:Int)then(x:Int)else(N:Int)+1)=(N1:Int)
   rw[if_neg zW];omega
  have w5:(Obl.leE (((IE.n N).add (IE.l 1)).max (IE.n x)) sK).ok:=by show _/\_;rw[eM];simp only[IE.den];omega
  refine iC hc 4 ?_;cbv;refine aP hc ⟨w5,trivial⟩ ?_;refine zU 8 (S':=⟨[(8,.i .i64 (.n M)),(9,.e 2),(10,.e 3),(11,.sl 7 0 (.n N1) sK)],HT,[]⟩) (K':=K2) ⟨zS,zS,zS,⟨_,rfl,rfl,λμ=>by simp only[aD,eM]⟩,trivial⟩ ?_ trivial ?_
  ·subst hK3;subst hK2;subst hK;exact⟨⟨.tail _ (.head _),KFr.at zV _⟩,⟨.tail _ (.tail _ (.head _)),KFr.at zV _⟩,⟨.tail _ (.tail _ (.tail _ (.head _))),KFr.cst _ _ _⟩,⟨.tail _ (.tail _ (.tail _ (.tail _ (.head _)))),KFr.cst _ _ _⟩,trivial⟩
  refine aQ4 7 N1 rfl rfl hUt ?_;obtain⟨V,hV⟩:=nm (aC (m*fc));refine dE 10 .u32 V rfl rfl (λX μ a w v' H hv'=>by have:=H.toP.val mV hv';rw[hFv,<-hV]at this;exact this) λfv Lv aG8 hL hfv bEn=>?_;refine dE 9 .u32 (aC fc) rfl rfl (λX μ a w v' H hv'=>by have:=H.toP.val mF hv';rw[hFf]at this;exact this) λfs Ls caps hLs hfs bI3=>?_;have hfd:aC fc=[(fc:Int)]:=by rw[bZ zW,Nat.mod_eq_of_lt f2,Nat.div_eq_of_lt f2,bV]
  have bGu:Ls=1:=by rw[hLs,hfd];rfl
  have bHd:fs 0=fc:=hfs 0 _ (by rw[hfd];rfl)
  have hLM:Lv=M:=by rw[hL,hV,hvl]
  subst hLM;have o1:(Obl.inR .i64 ((IE.n N1).sub (IE.n Lv))).ok:=by show lo _<=_/\_<=hi _;simp only[lo,hi,IE.den];omega
  apply zN hc;cbv;refine zO ?_;refine rZ hc _ .u32 cJ ?_ ?_ ?_ (λT zs hT hzs=>?_)
  ·simp only[IE.den];omega
  ·simp only[IE.den];omega
  ·simp only[IE.den];omega
  have hT:T+Lv=N1:=by simp only[IE.den]at hT;omega
  have hzs:zs=List.replicate T 0:=by rw[hzs];first | done | (simp only[IE.den];first | done | (congr 1;omega))
  obtain⟨mW,hmW⟩:=nm (m*fc);have hvV:V=aC mW:=by rw[hV,hmW]
  obtain⟨UI,hUI,kn0⟩:∃UI:Int,UI=(n*fc:Nat)/\Kn UI mW Lv T Ut zs:=⟨_,rfl,by
   rw[hmW];exact Kn.init2 bEd.1 bEd.2 hzs hM.symm zW f1 zW zW⟩
  have bBy:500000000<=V.getD (Lv - 1) 0:=by rw[hV];exact hvt
  have hVL:V.length=Lv:=hL.symm
  have wV:Wd V:=by rw[hV];exact bG _
  let ι:={x:Nat × List Int × List Int//Kn UI mW Lv x.1 x.2.1 x.2.2/\x.1<=T/\x.2.1.length=N1/\x.2.2.length=T}
  let I:ι->St:=λx=>⟨[(8,.i .i64 (.n Lv)),(9,.sl 9 0 (.n Ls) caps),(10,.sl 8 0 (.n Lv) aG8),(11,.sl 7 0 (.n N1) sK),(12,.sl 10 0 (.n T) T),(13,.i .i64 (.sub (.n x.1.1) (.l 1)))],HPo N Lv Lv Ls f f' fv fs x.1.2.1 x.1.2.2,[]⟩
  have hzl:zs.length=T:=by rw[hzs];simp
  let x0:ι:=⟨(T,Ut,zs),kn0,lRf _,bG0,hzl⟩
  have o2:(Obl.inR .i64 (((IE.n N1).sub (IE.n Lv)).sub (IE.l 1))).ok:=by show lo _<=_/\_<=hi _;simp only[lo,hi,IE.den];omega
  have eT:(((IE.n N1).sub (IE.n Lv)).sub (IE.l 1)).den=((IE.n T).sub (IE.l 1)).den:=by simp only[IE.den];omega
  apply zN hc;cbv;refine zO ?_;refine zU 11 (S':=I x0) (K':=K2) ⟨zS,zS,zS,zS,zS,zI rfl rfl eT,trivial⟩ (kf2 _ zV) trivial ?_;refine bW hc I (λx=>x.1.1) x0 100 ?_;rintro p ⟨⟨cnt,u,qs⟩,hkn,hcT,hul,hql⟩ hy;simp only at hkn hcT hul hql;cbv;refine aE rfl 0 (λh=>?_) (λh=>?_)
  ·have h:=BE.pre_t h
   obtain⟨j,hj⟩:∃j,j+1=cnt:=⟨cnt - 1,zW⟩;obtain⟨v1,v2,top,u0,u2,q,P,rd⟩:=Rd.mk' (j:=j) (v:=V) (by rw[hj];exact hkn) zW hvV zW zW bBy;have ej:((IE.n cnt).sub (IE.l 1)).den=(IE.n j).den:=by simp only[IE.den];omega
   let BB:List (Nat × AV):=[(8,.i .i64 (.n Lv)),(9,.sl 9 0 (.n Ls) caps),(10,.sl 8 0 (.n Lv) aG8),(11,.sl 7 0 (.n N1) sK),(12,.sl 10 0 (.n T) T),(13,.i .i64 (.n j))]
   refine zU 11 (S':=⟨BB,HPo N Lv Lv Ls f f' fv fs u qs,[]⟩) (K':=K2) ⟨zS,zS,zS,zS,zS,zI rfl rfl ej,trivial⟩ (kf2 _ zV) trivial ?_;have L2:2<=Lv:=zW;have hjT:j<T:=zW;have hLb:Lv<=2^38:=zW;have hNb:N1<=2^38+2:=zW;have hjN:j+Lv<N1:=zW;obtain⟨ua,hua⟩:=nm (u.getD (j+Lv - 1) 0);have wua:=bA rd.kn.wu (j+Lv - 1);have wu0:=bA rd.kn.wu (j+Lv);rw[<-hua]at wua;rw[<-rd.e0]at wu0;have b1:=rd.b1;have b2:=rd.b2;have b3:=rd.b3;have b4:=rd.b4;have etop:u0*1000000000+ua=top:=by rw[rd.e3,rd.e0,hua]
   have ix0:aY 0 ((IE.n j).add (IE.n Lv)).den 1 0=j+Lv:=by simp only[aY,IE.den];omega
   have ix1:aY 0 (((IE.n j).add (IE.n Lv)).sub (IE.l 1)).den 1 0=j+Lv - 1:=by simp only[aY,IE.den];omega
   have ix2:aY 0 (((IE.n j).add (IE.n Lv)).sub (IE.l 2)).den 1 0=j+Lv - 2:=by simp only[aY,IE.den];omega
   have iv1:aY 0 ((IE.n Lv).sub (IE.l 1)).den 1 0=Lv - 1:=by simp only[aY,IE.den];omega
   have iv2:aY 0 ((IE.n Lv).sub (IE.l 2)).den 1 0=Lv - 2:=by simp only[aY,IE.den];omega
   have g0:(IE.nth u 0 ((IE.n j).add (IE.n Lv)) 1 0).den=u0:=by show u.getD (aY 0 ((IE.n j).add (IE.n Lv)).den 1 0) 0=_;rw[ix0,rd.e0]
   have g1:(IE.nth u 0 (((IE.n j).add (IE.n Lv)).sub (IE.l 1)) 1 0).den=ua:=by show u.getD (aY 0 (((IE.n j).add (IE.n Lv)).sub (IE.l 1)).den 1 0) 0=_;rw[ix1,hua]
   have g2:(IE.nth u 0 (((IE.n j).add (IE.n Lv)).sub (IE.l 2)) 1 0).den=u2:=by show u.getD (aY 0 (((IE.n j).add (IE.n Lv)).sub (IE.l 2)).den 1 0) 0=_;rw[ix2,rd.e4]
   have gv1:(IE.fn fv 0 ((IE.n Lv).sub (IE.l 1)) 1 0).den=v1:=by show fv (aY 0 ((IE.n Lv).sub (IE.l 1)).den 1 0)=_;rw[iv1,rd.e1];exact lF hfv
   have gv2:(IE.fn fv 0 ((IE.n Lv).sub (IE.l 2)) 1 0).den=v2:=by show fv (aY 0 ((IE.n Lv).sub (IE.l 2)).den 1 0)=_;rw[iv2,rd.e2];exact lF hfv
   obtain⟨tm',htm⟩:=nm (u0*1000000000);have m0:((IE.nth u 0 ((IE.n j).add (IE.n Lv)) 1 0).mul (IE.l 1000000000)).den=tm':=by show(IE.nth u 0 ((IE.n j).add (IE.n Lv)) 1 0).den*1000000000=_;rw[g0,htm]
   have a0:(((IE.nth u 0 ((IE.n j).add (IE.n Lv)) 1 0).mul (IE.l 1000000000)).add (IE.nth u 0 (((IE.n j).add (IE.n Lv)).sub (IE.l 1)) 1 0)).den=top:=by show((IE.nth u 0 ((IE.n j).add (IE.n Lv)) 1 0).mul (IE.l 1000000000)).den+(IE.nth u 0 (((IE.n j).add (IE.n Lv)).sub (IE.l 1)) 1 0).den=_;rw[m0,g1,htm,etop]
   have p1:(Obl.inR .i64 ((IE.n j).add (IE.n Lv))).ok:=by show lo _<=_/\_<=hi _;simp only[lo,hi,IE.den];omega
   have p2:(Obl.inR .i64 (((IE.n j).add (IE.n Lv)).sub (IE.l 1))).ok:=by show lo _<=_/\_<=hi _;simp only[lo,hi,IE.den];omega
   have p3:(Obl.inR .i64 (((IE.n j).add (IE.n Lv)).sub (IE.l 2))).ok:=by show lo _<=_/\_<=hi _;simp only[lo,hi,IE.den];omega
   have p4:(Obl.ltE ((IE.n j).add (IE.n Lv)) (IE.n N1)).ok:=by show _/\_;simp only[IE.den];omega
   have p5:(Obl.ltE (((IE.n j).add (IE.n Lv)).sub (IE.l 1)) (IE.n N1)).ok:=by show _/\_;simp only[IE.den];omega
   have p6:(Obl.ltE (((IE.n j).add (IE.n Lv)).sub (IE.l 2)) (IE.n N1)).ok:=by show _/\_;simp only[IE.den];omega
   have p7:(Obl.ixL 0 ((IE.n j).add (IE.n Lv)) 1 0 u).ok:=by show _<_;rw[ix0];omega
   have p8:(Obl.ixL 0 (((IE.n j).add (IE.n Lv)).sub (IE.l 1)) 1 0 u).ok:=by show _<_;rw[ix1];omega
   have p9:(Obl.ixL 0 (((IE.n j).add (IE.n Lv)).sub (IE.l 2)) 1 0 u).ok:=by show _<_;rw[ix2];omega
   have p10:=cU .u64 _ _ g0 zX
   have p11:=cU .u64 _ _ g1 zX
   have p12:=cU .u64 _ _ g2 zX
   have p13:=cU .u64 _ _ m0 zX
   have p14:=cU .u64 _ _ a0 zX
   have p15:(Obl.inR .i64 ((IE.n Lv).sub (IE.l 1))).ok:=by show lo _<=_/\_<=hi _;simp only[lo,hi,IE.den];omega
   have p16:(Obl.inR .i64 ((IE.n Lv).sub (IE.l 2))).ok:=by show lo _<=_/\_<=hi _;simp only[lo,hi,IE.den];omega
   have p17:(Obl.ltE ((IE.n Lv).sub (IE.l 1)) (IE.n Lv)).ok:=by show _/\_;simp only[IE.den];omega
   have p18:(Obl.ltE ((IE.n Lv).sub (IE.l 2)) (IE.n Lv)).ok:=by show _/\_;simp only[IE.den];omega
   have p19:(Obl.ix 0 ((IE.n Lv).sub (IE.l 1)) 1 0 1 Lv).ok:=by show _<=_;rw[iv1];omega
   have p20:(Obl.ix 0 ((IE.n Lv).sub (IE.l 2)) 1 0 1 Lv).ok:=by show _<=_;rw[iv2];omega
   have p21:=cU .u64 _ _ gv1 zX
   have p22:=cU .u64 _ _ gv2 zX
   have p23:(Obl.nz (IE.fn fv 0 ((IE.n Lv).sub (IE.l 1)) 1 0)).ok:=by show _≠_;rw[gv1];omega
   have gs0:=rd.gs
   obtain⟨gq,hgq⟩:=nm (top/v1);obtain⟨gr,hgr⟩:=nm (top%v1);rw[<-hgq,<-hgr]at gs0;have gb0:=rd.gbd gs0;apply zN hc;cbv;refine zO ?_;refine iY hc zG zV 1 ?_;cbv;refine zU 11 (S':=⟨(14,.i .u64 (.v top))::BB,HPo N Lv Lv Ls f f' fv fs u qs,[]⟩) (K':=K2) ⟨zI rfl rfl a0,zL⟩ (kf2 _ zV) trivial ?_;have d0:((IE.v top).quo (IE.fn fv 0 ((IE.n Lv).sub (IE.l 1)) 1 0)).den=gq:=by
    show top.tdiv (IE.fn fv 0 ((IE.n Lv).sub (IE.l 1)) 1 0).den=_
    rw[gv1,hgq,Int.tdiv_eq_ediv_of_nonneg b3.1]
   have r0:((IE.v top).rem (IE.fn fv 0 ((IE.n Lv).sub (IE.l 1)) 1 0)).den=gr:=by
    show top.tmod (IE.fn fv 0 ((IE.n Lv).sub (IE.l 1)) 1 0).den=_
    rw[gv1,hgr,Int.tmod_eq_emod_of_nonneg b3.1]
   have p24:=cU .u64 _ _ d0 zX
   apply zN hc;cbv;refine zO ?_;refine dH hc _ 0 ?_;refine iY hc zG zV 1 ?_;cbv;let ιg:={x:Int × Int//Gs v1 v2 top u2 q x.1 x.2};let Ig:ιg->St:=λx=>⟨(15,.i .u64 (.v x.1.1))::(16,.i .u64 (.v x.1.2))::BB,HPo N Lv Lv Ls f f' fv fs u qs,[]⟩
   let xg:ιg:=⟨(gq,gr),gs0⟩
   refine zU 11 (S':=Ig xg) (K':=K2) ⟨zI rfl rfl d0,zI rfl rfl r0,zL⟩ (kf2 _ zV) trivial ?_;apply zN hc;cbv;refine aD4 (λz:Int=>q<=z/\z<=q+1/\0<=z/\z<1000000000) (λz=>⟨(15,.i .u64 (.v z))::BB,HPo N Lv Lv Ls f f' fv fs u qs,[]⟩) rfl (λr hr=>?_) (λg hg=>?_)
   ·refine bW hc Ig (λx=>x.1.1.toNat) xg 100 ?_;rintro p' ⟨⟨g,rs⟩,hgs⟩ hyg;simp only at hgs;have hdn:((g<1000000000/\g*v2<=rs*1000000000+u2)\/1000000000<=rs)->q<=g/\g<=q+1/\0<=g/\g<1000000000:=λh'=>rd.gdone hgs h';cbv;refine cG 118 rfl rfl 100 (λh=>?_) (λh=>?_)
    ·have hrs:rs<1000000000:=BE.lt_t h
     obtain⟨⟨e1,e2,e3⟩,w1,w2,w3,w4,w5⟩:=bD1 rd hgs hrs gv1 gv2 g2;have egs:(IE.sub (.v g) (.l 1)).den=g - 1:=rfl;by_cases hcc:1000000000<=g\/rs*1000000000+u2<g*v2
     ·obtain⟨aEo,g1'⟩:=rd.gstep hgs hcc;have w7:=w5 g1';have hmg:(g - 1).toNat<g.toNat:=zW;obtain⟨g',hg'⟩:=nm (g - 1);obtain⟨rs',aT7⟩:=nm (rs+v1);rw[<-hg',<-aT7]at aEo;rw[<-hg']at hmg egs;rw[<-aT7]at e3;cbv;refine cG 121 rfl rfl 100 (λh=>?_) (λh=>?_)
      ·cbv;refine zE ?_;cbv;refine zO ?_;exact zU 11 (S':=Ig ⟨(g',rs'),aEo⟩) (K':=K2) ⟨zI rfl rfl egs,zI rfl rfl e3,zL⟩ (kf2 _ zV) trivial (hyg ⟨(g',rs'),aEo⟩ hmg)
      ·have h:¬1000000000<=g:=BE.le_f h
       cbv;refine zO ?_;refine zE ?_;cbv;refine aE rfl 100 (λh2=>?_) (λh2=>?_)
       ·cbv;refine zO ?_;exact zU 11 (S':=Ig ⟨(g',rs'),aEo⟩) (K':=K2) ⟨zI rfl rfl egs,zI rfl rfl e3,zL⟩ (kf2 _ zV) trivial (hyg ⟨(g',rs'),aEo⟩ hmg)
       ·have h2:=BE.lt_f h2
        rw[e1,e2]at h2;exact absurd hcc zW
     ·have hne:¬1000000000<=g:=λh=>hcc (.inl h)
      have bBt:¬rs*1000000000+u2<g*v2:=λh=>hcc (.inr h)
      cbv;refine cG 121 rfl rfl 100 (λh=>absurd (BE.le_t h) hne) (λh=>?_);cbv;refine zO ?_;refine zE ?_;cbv;refine aE rfl 100 (λh2=>?_) (λh2=>?_)
      ·have h2:=BE.lt_t h2
       rw[e1,e2]at h2;exact absurd h2 bBt
      ·cbv;exact zU 11 (S':=⟨(15,.i .u64 (.v g))::BB,HPo N Lv Lv Ls f f' fv fs u qs,[]⟩) (K':=K2) zL (kf2 _ zV) trivial (hr g (hdn (.inl ⟨zW,zW⟩)))
    ·have hrs:¬rs<1000000000:=BE.lt_f h
     cbv;refine zE ?_;cbv;exact zU 11 (S':=⟨(15,.i .u64 (.v g))::BB,HPo N Lv Lv Ls f f' fv fs u qs,[]⟩) (K':=K2) zL (kf2 _ zV) trivial (hr g (hdn (.inr zW)))
   ·obtain⟨hq1,hq2,hg0,hgB⟩:=hg;have ixj:aY 0 (IE.n j).den 1 0=j:=by simp only[aY,IE.den];omega
    have bHt:aY 0 (IE.n j).den 1 0<qs.length:=by rw[ixj];omega
    have y1:(Obl.ltE (IE.n j) (IE.n T)).ok:=by show _/\_;simp only[IE.den];omega
    have y2:(Obl.inR .i64 ((IE.n j).sub (IE.l 1))).ok:=by show lo _<=_/\_<=hi _;simp only[lo,hi,IE.den];omega
    apply zN hc;cbv;refine cO hc Tryz.func201 aP0 (λc' tm FR hFR hc' L=>?_);have hFr:KFr 11 FR:=by rw[hFR];exact KFr.fr (by rfl) tm
    have kfr:lT 11 (FR::K2) K2:=by
     subst hK2;subst hK;exact⟨⟨.tail _ (.head _),KFr.at zV _⟩,⟨.tail _ (.tail _ (.head _)),KFr.at zV _⟩,⟨.tail _ (.tail _ (.tail _ (.head _))),KFr.cst _ _ _⟩,⟨.tail _ (.tail _ (.tail _ (.tail _ (.head _)))),KFr.cst _ _ _⟩,trivial⟩
    refine aH1 (N:=N) (M:=Lv) (Ls:=Ls) (f:=f) (f':=f') (fs:=fs) hc' rfl ⟨⟨.head _,hFr⟩,kfr⟩ rd hVL wV hfv hNb hul hjN hLb hq1 hq2 hg0 hgB (λuf hkf aXd=>?_);refine cY hc' L hFR (.head _) ?_;apply zN hc;cbv;refine zO ?_;refine jV hc _ (r:=(10,145,.u32,qs,aY 0 (IE.n j).den 1 0,.v q)) bHt (λl2 hl2=>?_);have hl2:l2=qs.set (aY 0 (IE.n j).den 1 0) q:=hl2;rw[ixj]at hl2;rw[<-hl2]at hkf;have aTy:l2.length=T:=by rw[hl2,List.length_set];exact hql
    apply zN hc;cbv;refine zO ?_;exact zU 11 (S':=I ⟨(j,uf,l2),hkf,zW,aXd,aTy⟩) (K':=K2) zL kfr trivial (hy ⟨(j,uf,l2),hkf,zW,aXd,aTy⟩ (by show j<cnt;omega))
  ·have h:=BE.pre_f h
   have hkn:Kn UI mW Lv 0 u qs:=by rw[<-h];exact hkn
   have hV0:0<mW:=by rw[hmW];exact Nat.mul_pos hm0 zW
   obtain⟨d1,d2⟩:=aOs hkn hUI hV0;have w1:(Obl.leE (IE.n Lv) sK).ok:=by show _/\_;simp only[IE.den];omega
   have z1:(Obl.ltE (IE.l 0) (IE.n Ls)).ok:=by show _/\_;simp only[IE.den];omega
   have z2:(Obl.ix 0 (IE.l 0) 0 0 1 Ls).ok:=by show aY 0 (IE.l 0).den 0 0+1<=Ls;rw[bGu];decide
   obtain⟨r1,r2,r3,r4,r5⟩:=aTe hkn hUI hmW hm0 f1 zW zW (by rw[hvl]);have hqb:qs.length<=2^40:=zW;have hub:(u.take Lv).length<=2^40:=zW;obtain⟨Fr,hFr⟩:=nm (aI (n%m*fc));obtain⟨Fz,hFz⟩:=nm (eE (.int .u32 (n%m*fc%fc:Nat)));obtain⟨Fp,hFp⟩:=nm (jG R2 Fz);refine aGe 7 rfl rfl (λgu Nu hNu hgu=>?_);refine qV 10 rfl (λgq Nq hNq hgq=>?_);apply zN hc;cbv;refine zO ?_;refine mP (R:=Fr) hc mG (λD X μ a w aK H aG=>?_) 100 ?_
   ·obtain⟨v1',rfl,h1⟩:=bN aG;have h2:=H.row (l:=u.take Lv) rfl h1 (by rw[r1];rfl) (λi y hi=>by rw[Nat.zero_add];exact hgu i y (r2 i y hi)) zW zW;rw[hFr,<-r3];exact gQ r4 hub H.xlt h2
   cbv;refine zO ?_;refine mP (R:=Fp) hc aYr (λD X μ a w aK H aG=>?_) 100 ?_
   ·obtain⟨v1',v2',rfl,h1,h2⟩:=bI aG;have k1:=H.val (k:=11) (R:=Fr) (.head _) h1;have h2:v2'=.int .u32 (fs 0):=bY h2;rw[hFr]at k1;rw[h2,bHd,hFp,hR2,hFz];have:=oby zW f2 (lTr r5 zW) H.xlt k1;rw[Nat.mul_div_cancel _ zW]at this;exact this
   cbv;refine aB5 hc zG zV ?_;refine mZ 162 12 rfl rfl (R1:=R2) (R2:=Fz) (by rw[<-hFp];exact .head _) ?_;obtain⟨K5,hK5⟩:=nm ([KF.at 13 R2]);apply aS6 (c:=c) (K:=K5) (S':=⟨[(12,.sl 10 0 (.n T) T),(17,.e 13)],[.xi .u32 N f,.xi .u32 Lv f',.e,.e,.e,.e,.c 145 [.i .u32 (.l 0),.i .u32 (.l 0)],.xi .u32 Nu gu,.xi .u32 Lv fv,.xi .u32 Ls fs,.xi .u32 Nq gq,.e,.e,.e],[]⟩) (λgen=>?_)
   rotate_left 2
   ·refine bU [9,10] zG rfl (λi hi=>?_);simp only[List.mem_cons,List.not_mem_nil,or_false]at hi;rcases hi with rfl | rfl
    ·refine⟨_,rfl,rfl,?_⟩;refine iC hc 2 ?_;cbv;refine bU [10,11] zG rfl (λi hi=>?_);simp only[List.mem_cons,List.not_mem_nil,or_false]at hi;rcases hi with rfl | rfl
     ·refine⟨_,rfl,rfl,?_⟩;refine iC hc 2 ?_;cbv;refine bU [11] zG rfl (λi hi=>?_);obtain rfl:=List.mem_singleton.1 hi;refine⟨_,rfl,rfl,?_⟩;refine iC hc 2 ?_;cbv;refine bU [12] zG rfl (λi hi=>?_);obtain rfl:=List.mem_singleton.1 hi;refine⟨_,rfl,rfl,?_⟩;refine iC hc 2 ?_;cbv;refine wK zG rfl ?_;exact zU 14 (S':=⟨[(12,.sl 10 0 (.n T) T),(17,.e 13)],[.xi .u32 N f,.xi .u32 Lv f',.e,.e,.e,.e,.c 145 [.i .u32 (.l 0),.i .u32 (.l 0)],.xi .u32 Nu gu,.xi .u32 Lv fv,.xi .u32 Ls fs,.xi .u32 Nq gq,.e,.e,.e],[]⟩) (K':=K5) zL (by subst hK5;exact⟨⟨.head _,KFr.at zV _⟩,trivial⟩) trivial gen
     ·refine⟨_,rfl,rfl,?_⟩;refine iC hc 2 ?_;cbv;refine bU [10] zG rfl (λi hi=>?_);obtain rfl:=List.mem_singleton.1 hi;refine⟨_,rfl,rfl,?_⟩;refine iC hc 2 ?_;cbv;refine bU [12] zG rfl (λi hi=>?_);obtain rfl:=List.mem_singleton.1 hi;refine⟨_,rfl,rfl,?_⟩;refine iC hc 2 ?_;cbv;refine wK zG rfl ?_;exact zU 14 (S':=⟨[(12,.sl 10 0 (.n T) T),(17,.e 13)],[.xi .u32 N f,.xi .u32 Lv f',.e,.e,.e,.e,.c 145 [.i .u32 (.l 0),.i .u32 (.l 0)],.xi .u32 Nu gu,.xi .u32 Lv fv,.xi .u32 Ls fs,.xi .u32 Nq gq,.e,.e,.e],[]⟩) (K':=K5) zL (by subst hK5;exact⟨⟨.head _,KFr.at zV _⟩,trivial⟩) trivial gen
    ·refine⟨_,rfl,rfl,?_⟩;refine iC hc 2 ?_;cbv;refine bU [9] zG rfl (λi hi=>?_);obtain rfl:=List.mem_singleton.1 hi;refine⟨_,rfl,rfl,?_⟩;refine iC hc 2 ?_;cbv;refine bU [11] zG rfl (λi hi=>?_);obtain rfl:=List.mem_singleton.1 hi;refine⟨_,rfl,rfl,?_⟩;refine iC hc 2 ?_;cbv;refine bU [12] zG rfl (λi hi=>?_);obtain rfl:=List.mem_singleton.1 hi;refine⟨_,rfl,rfl,?_⟩;refine iC hc 2 ?_;cbv;refine wK zG rfl ?_;exact zU 14 (S':=⟨[(12,.sl 10 0 (.n T) T),(17,.e 13)],[.xi .u32 N f,.xi .u32 Lv f',.e,.e,.e,.e,.c 145 [.i .u32 (.l 0),.i .u32 (.l 0)],.xi .u32 Nu gu,.xi .u32 Lv fv,.xi .u32 Ls fs,.xi .u32 Nq gq,.e,.e,.e],[]⟩) (K':=K5) zL (by subst hK5;exact⟨⟨.head _,KFr.at zV _⟩,trivial⟩) trivial gen
   apply zN hc;cbv;refine eB (R:=R1) hc mG (λn0 D X μ a w aK H aG=>?_) 100 ?_
   ·obtain⟨v1',rfl,h1⟩:=bN aG;have h2:=H.row (l:=qs) rfl h1 (by rw[hql];rfl) (λi y hi=>by rw[Nat.zero_add];exact hgq i y hi) zW zW;rw[hR1,<-aTd d1 hmW f1];exact gQ hkn.wq hqb H.xlt h2
   cbv;exact bB hc hR rfl (λX μ a w x H hx=>aF1 14 13 _ _ _ _ _ _ _ H (.head _) (.tail _ (by rw[hK5];exact .head _)) hx)
end Go.Ai
