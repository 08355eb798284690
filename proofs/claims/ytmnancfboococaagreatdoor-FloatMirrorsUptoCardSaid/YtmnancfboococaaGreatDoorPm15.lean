/- Part 16 of the proof: garboardlaw17.FloatMirrors returns true, where what it reads is of bulk at most 1048576. -/
import Derived.MapKept
import Derived.Carry
import Derived.Test.YtmnancfboococaaGreatDoorPm14
set_option linter.all false
namespace Go.Ai
open Go Go.Proofs Go.Num
theorem aLr:aB PP 219:=zK
theorem aGk:aB PP 220:=zK
theorem aPe (x y:Rat):mkRat (x.num*y.den+y.num*x.den) (x.den*y.den)=x+y:=(Rat.add_def' x y).symm
theorem aR4 (x y:Rat):mkRat (x.num*y.num) (x.den*y.den)=x*y:=(Rat.mul_def' x y).symm
theorem gH {a b:Int}(ha:a.natAbs<1000000000)(hb:b.natAbs<1000000000):(a*b).natAbs≤1000000000000000000:=by
 rw[Int.natAbs_mul];exact Nat.mul_le_mul (Nat.le_of_lt ha) (Nat.le_of_lt hb)
theorem aWv {x y:Rat}(hx:sz x≤2^34)(hy:sz y≤2^34):Pure PP 219 [cD x,cD y] (cD (x+y)):=by
 have hxd:=x.den_pos
 have hyd:=y.den_pos
 have l1:=aAa x
 have l2:=aAa y
 have nx:=lTr (oF x) hx
 have dx:=lTr (qB x) hx
 have ny:=lTr (oF y) hy
 have dy:=lTr (qB y) hy
 have m1:=aRw (z:=x.num) (y:=(y.den:Int)) (lTr nx (by decide)) (by rw[Int.natAbs_natCast];exact lTr dy (by decide))
 have m2:=aRw (z:=y.num) (y:=(x.den:Int)) (lTr ny (by decide)) (by rw[Int.natAbs_natCast];exact lTr dx (by decide))
 have b1:dl (x.num*(y.den:Int)).natAbs≤2^35:=by rw[Int.natAbs_mul,Int.natAbs_natCast];exact lTr (pK _ _) (by omega)
 have b2:dl (y.num*(x.den:Int)).natAbs≤2^35:=by rw[Int.natAbs_mul,Int.natAbs_natCast];exact lTr (pK _ _) (by omega)
 have m3:=bE1 (z:=x.num*(y.den:Int)) (y:=y.num*(x.den:Int)) (lTr b1 (by decide)) (lTr b2 (by decide))
 have b3:=aDg _ _ b1 b2
 have m4:=aZo (n:=x.den) (m:=y.den) (lTr dx (by decide)) (lTr dy (by decide))
 have b4:dl (x.den*y.den)≤2^35:=lTr (pK _ _) (by omega)
 have m5:=aMt (p:=x.num*(y.den:Int)+y.num*(x.den:Int)) (d:=x.den*y.den) (Nat.mul_pos hxd hyd) (lTr b3 (by decide)) (lTr b4 (by decide))
 rw[aPe]at m5;rw[jX]at m1 m2;have s1:oN x=true→oN y=true→Pure PP 237 [.int .i64 (x.num*(y.den:Int)+y.num*(x.den:Int)),.int .i64 ((x.den:Int)*(y.den:Int))] (cD (x+y)):=fun h1 h2=>by
  have q1:=lL h1
  have q2:=lL h2
  have a1:=gH (a:=x.num) (b:=(y.den:Int)) q1.1 (by rw[Int.natAbs_natCast];exact q2.2)
  have a2:=gH (a:=y.num) (b:=(x.den:Int)) q2.1 (by rw[Int.natAbs_natCast];exact q1.2)
  have a3:=gH (a:=(x.den:Int)) (b:=(y.den:Int)) (by rw[Int.natAbs_natCast];exact q1.2) (by rw[Int.natAbs_natCast];exact q2.2)
  have h:=rof (p:=x.num*(y.den:Int)+y.num*(x.den:Int)) (d:=x.den*y.den) (Nat.mul_pos hxd hyd) (by omega) (by rw[←Int.natCast_mul,Int.natAbs_natCast]at a3;omega)
  rw[aPe,Int.natCast_mul]at h;exact h
 have s2:oN x=true→oN y=true→(Obl.inR .i64 (.mul (.v x.num) (.v (y.den:Int)))).ok∧(Obl.inR .i64 (.mul (.v y.num) (.v (x.den:Int)))).ok∧(Obl.inR .i64 (.add (.mul (.v x.num) (.v (y.den:Int))) (.mul (.v y.num) (.v (x.den:Int))))).ok∧(Obl.inR .i64 (.mul (.v (x.den:Int)) (.v (y.den:Int)))).ok:=fun h1 h2=>by
  have q1:=lL h1
  have q2:=lL h2
  have a1:=gH (a:=x.num) (b:=(y.den:Int)) q1.1 (by rw[Int.natAbs_natCast];exact q2.2)
  have a2:=gH (a:=y.num) (b:=(x.den:Int)) q2.1 (by rw[Int.natAbs_natCast];exact q1.2)
  have a3:=gH (a:=(x.den:Int)) (b:=(y.den:Int)) (by rw[Int.natAbs_natCast];exact q1.2) (by rw[Int.natAbs_natCast];exact q2.2)
  refine⟨?_,?_,?_,?_⟩<;>(show lo _≤_∧_≤hi _;simp only[IE.den,lo,hi];omega)
 obtain⟨R,hR0⟩:=nm (cD (x+y));obtain⟨r1,hr1⟩:∃s,s=aU (x+y).num:=⟨_,rfl⟩;obtain⟨r2,hr2⟩:∃s,s=aK (x+y).den:=⟨_,rfl⟩;have hR1:R=frV r1 r2:=by rw[hR0,hr1,hr2];rfl
 rw[←hR0]at m5 s1 ⊢;clear hR0 hr1 hr2 b1 b2 b3 b4;subst hR1;unfold aDu at l1 l2;unfold cD at l1 l2 ⊢;generalize oN x=kx at l1 s1 s2;generalize oN y=ky at l2 s1 s2;generalize aU (x.num*(y.den:Int))=t1 at m1 m3;generalize aU (y.num*(x.den:Int))=t2 at m2 m3;generalize aU (x.num*(y.den:Int)+y.num*(x.den:Int))=t3 at m3 m5;generalize aK (x.den*y.den)=t4 at m4 m5;generalize aU x.num=sx at l1 m1 ⊢;generalize aU y.num=sy at l2 m2 ⊢;generalize aK x.den=ex at l1 m2 m4 ⊢;generalize aK y.den=ey at l2 m1 m4 ⊢;generalize (x.den:Int)=dx' at l1 s1 s2;generalize (y.den:Int)=dy' at l2 s1 s2;generalize x.num=nx' at l1 s1 s2;generalize y.num=ny' at l2 s1 s2;refine aG mixed tok [.g [.s (.v sx),.s (.v ex)],.g [.s (.v sy),.s (.v ey)]] Tryz.func219 rfl rfl (lbl rfl) rfl fun c hc hR=>?_
 refine zN hc ?_;cbv;cases kx<;>cases ky
 ·refine zC hc (.t [.i .i64 (.l 0),.i .i64 (.l 0),.b (.l false)]) l1 dF ?_;cbv;refine zC hc (.t [.i .i64 (.l 0),.i .i64 (.l 0),.b (.l false)]) l2 dF ?_;cbv;refine zC hc (.t [.s (.v t1),.i .i64 (.l 0)]) m1 mB ?_;cbv;refine zC hc (.t [.s (.v t2),.i .i64 (.l 0)]) m2 mB ?_;cbv;refine zC hc (.t [.s (.v t3),.i .i64 (.l 0)]) m3 aI7 ?_;cbv;refine zC hc (.t [.s (.v t4),.i .i64 (.l 0)]) m4 tJ ?_;cbv;refine zC hc (.g [.s (.v r1),.s (.v r2)]) m5 wY ?_;cbv;exact aD hc hR rfl rfl
 ·refine zC hc (.t [.i .i64 (.l 0),.i .i64 (.l 0),.b (.l false)]) l1 dF ?_;cbv;refine zC hc (.t [.i .i64 (.v ny'),.i .i64 (.v dy'),.b (.l true)]) l2 dF ?_;cbv;refine zC hc (.t [.s (.v t1),.i .i64 (.l 0)]) m1 mB ?_;cbv;refine zC hc (.t [.s (.v t2),.i .i64 (.l 0)]) m2 mB ?_;cbv;refine zC hc (.t [.s (.v t3),.i .i64 (.l 0)]) m3 aI7 ?_;cbv;refine zC hc (.t [.s (.v t4),.i .i64 (.l 0)]) m4 tJ ?_;cbv;refine zC hc (.g [.s (.v r1),.s (.v r2)]) m5 wY ?_;cbv;exact aD hc hR rfl rfl
 ·refine zC hc (.t [.i .i64 (.v nx'),.i .i64 (.v dx'),.b (.l true)]) l1 dF ?_;cbv;refine zC hc (.t [.i .i64 (.l 0),.i .i64 (.l 0),.b (.l false)]) l2 dF ?_;cbv;refine zC hc (.t [.s (.v t1),.i .i64 (.l 0)]) m1 mB ?_;cbv;refine zC hc (.t [.s (.v t2),.i .i64 (.l 0)]) m2 mB ?_;cbv;refine zC hc (.t [.s (.v t3),.i .i64 (.l 0)]) m3 aI7 ?_;cbv;refine zC hc (.t [.s (.v t4),.i .i64 (.l 0)]) m4 tJ ?_;cbv;refine zC hc (.g [.s (.v r1),.s (.v r2)]) m5 wY ?_;cbv;exact aD hc hR rfl rfl
 ·refine zC hc (.t [.i .i64 (.v nx'),.i .i64 (.v dx'),.b (.l true)]) l1 dF ?_;cbv;refine zC hc (.t [.i .i64 (.v ny'),.i .i64 (.v dy'),.b (.l true)]) l2 dF ?_;cbv;obtain⟨o1,o2,o3,o4⟩:=s2 rfl rfl;refine aQ hc ⟨o1,o2,o3,o4,trivial⟩ ?_;refine zC hc (.g [.s (.v r1),.s (.v r2)]) (s1 rfl rfl) aWa ?_;cbv;exact aD hc hR rfl rfl
theorem aSj {x y:Rat}(hx:sz x≤2^34)(hy:sz y≤2^34):Pure PP 220 [cD x,cD y] (cD (x*y)):=by
 have hxd:=x.den_pos
 have hyd:=y.den_pos
 have l1:=aAa x
 have l2:=aAa y
 have nx:=lTr (oF x) hx
 have dx:=lTr (qB x) hx
 have ny:=lTr (oF y) hy
 have dy:=lTr (qB y) hy
 have m1:=aRw (z:=x.num) (y:=y.num) (lTr nx (by decide)) (lTr ny (by decide))
 have b1:dl (x.num*y.num).natAbs≤2^35:=by rw[Int.natAbs_mul];exact lTr (pK _ _) (by omega)
 have m4:=aZo (n:=x.den) (m:=y.den) (lTr dx (by decide)) (lTr dy (by decide))
 have b4:dl (x.den*y.den)≤2^35:=lTr (pK _ _) (by omega)
 have m5:=aMt (p:=x.num*y.num) (d:=x.den*y.den) (Nat.mul_pos hxd hyd) (lTr b1 (by decide)) (lTr b4 (by decide))
 rw[aR4]at m5;have s1:oN x=true→oN y=true→Pure PP 237 [.int .i64 (x.num*y.num),.int .i64 ((x.den:Int)*(y.den:Int))] (cD (x*y)):=fun h1 h2=>by
  have q1:=lL h1
  have q2:=lL h2
  have a1:=gH (a:=x.num) (b:=y.num) q1.1 q2.1
  have a3:=gH (a:=(x.den:Int)) (b:=(y.den:Int)) (by rw[Int.natAbs_natCast];exact q1.2) (by rw[Int.natAbs_natCast];exact q2.2)
  have h:=rof (p:=x.num*y.num) (d:=x.den*y.den) (Nat.mul_pos hxd hyd) (by omega) (by rw[←Int.natCast_mul,Int.natAbs_natCast]at a3;omega)
  rw[aR4,Int.natCast_mul]at h;exact h
 have s2:oN x=true→oN y=true→(Obl.inR .i64 (.mul (.v x.num) (.v y.num))).ok∧(Obl.inR .i64 (.mul (.v (x.den:Int)) (.v (y.den:Int)))).ok:=fun h1 h2=>by
  have q1:=lL h1
  have q2:=lL h2
  have a1:=gH (a:=x.num) (b:=y.num) q1.1 q2.1
  have a3:=gH (a:=(x.den:Int)) (b:=(y.den:Int)) (by rw[Int.natAbs_natCast];exact q1.2) (by rw[Int.natAbs_natCast];exact q2.2)
  refine⟨?_,?_⟩<;>(show lo _≤_∧_≤hi _;simp only[IE.den,lo,hi];omega)
 obtain⟨R,hR0⟩:=nm (cD (x*y));obtain⟨r1,hr1⟩:∃s,s=aU (x*y).num:=⟨_,rfl⟩;obtain⟨r2,hr2⟩:∃s,s=aK (x*y).den:=⟨_,rfl⟩;have hR1:R=frV r1 r2:=by rw[hR0,hr1,hr2];rfl
 rw[←hR0]at m5 s1 ⊢;clear hR0 hr1 hr2 b1 b4;subst hR1;unfold aDu at l1 l2;unfold cD at l1 l2 ⊢;generalize oN x=kx at l1 s1 s2;generalize oN y=ky at l2 s1 s2;generalize aU (x.num*y.num)=t1 at m1 m5;generalize aK (x.den*y.den)=t4 at m4 m5;generalize aU x.num=sx at l1 m1 ⊢;generalize aU y.num=sy at l2 m1 ⊢;generalize aK x.den=ex at l1 m4 ⊢;generalize aK y.den=ey at l2 m4 ⊢;generalize (x.den:Int)=dx' at l1 s1 s2;generalize (y.den:Int)=dy' at l2 s1 s2;generalize x.num=nx' at l1 s1 s2;generalize y.num=ny' at l2 s1 s2;refine aG mixed tok [.g [.s (.v sx),.s (.v ex)],.g [.s (.v sy),.s (.v ey)]] Tryz.func220 rfl rfl (lbl rfl) rfl fun c hc hR=>?_
 refine zN hc ?_;cbv;cases kx<;>cases ky
 ·refine zC hc (.t [.i .i64 (.l 0),.i .i64 (.l 0),.b (.l false)]) l1 dF ?_;cbv;refine zC hc (.t [.i .i64 (.l 0),.i .i64 (.l 0),.b (.l false)]) l2 dF ?_;cbv;refine zC hc (.t [.s (.v t1),.i .i64 (.l 0)]) m1 mB ?_;cbv;refine zC hc (.t [.s (.v t4),.i .i64 (.l 0)]) m4 tJ ?_;cbv;refine zC hc (.g [.s (.v r1),.s (.v r2)]) m5 wY ?_;cbv;exact aD hc hR rfl rfl
 ·refine zC hc (.t [.i .i64 (.l 0),.i .i64 (.l 0),.b (.l false)]) l1 dF ?_;cbv;refine zC hc (.t [.i .i64 (.v ny'),.i .i64 (.v dy'),.b (.l true)]) l2 dF ?_;cbv;refine zC hc (.t [.s (.v t1),.i .i64 (.l 0)]) m1 mB ?_;cbv;refine zC hc (.t [.s (.v t4),.i .i64 (.l 0)]) m4 tJ ?_;cbv;refine zC hc (.g [.s (.v r1),.s (.v r2)]) m5 wY ?_;cbv;exact aD hc hR rfl rfl
 ·refine zC hc (.t [.i .i64 (.v nx'),.i .i64 (.v dx'),.b (.l true)]) l1 dF ?_;cbv;refine zC hc (.t [.i .i64 (.l 0),.i .i64 (.l 0),.b (.l false)]) l2 dF ?_;cbv;refine zC hc (.t [.s (.v t1),.i .i64 (.l 0)]) m1 mB ?_;cbv;refine zC hc (.t [.s (.v t4),.i .i64 (.l 0)]) m4 tJ ?_;cbv;refine zC hc (.g [.s (.v r1),.s (.v r2)]) m5 wY ?_;cbv;exact aD hc hR rfl rfl
 ·refine zC hc (.t [.i .i64 (.v nx'),.i .i64 (.v dx'),.b (.l true)]) l1 dF ?_;cbv;refine zC hc (.t [.i .i64 (.v ny'),.i .i64 (.v dy'),.b (.l true)]) l2 dF ?_;cbv;obtain⟨o1,o2⟩:=s2 rfl rfl;refine aQ hc ⟨o1,o2,trivial⟩ ?_;refine zC hc (.g [.s (.v r1),.s (.v r2)]) (s1 rfl rfl) aWa ?_;cbv;exact aD hc hR rfl rfl
theorem aP6:aB PP 221:=zK
theorem aZ1 {x y:Rat}(hx:sz x≤2^34)(hy:sz y≤2^34):Pure PP 221 [cD x,cD y] (cD (x - y)):=by
 have h1:=bFd (q:=y) (lTr hy (by decide))
 have h2:=aWv (x:=x) (y:=-y) hx (by rw[fD];exact hy)
 rw[show x+-y=x - y from(Rat.sub_eq_add_neg x y).symm]at h2;unfold cD at h1 h2 ⊢;generalize aU (x - y).num=r1 at h2 ⊢;generalize aK (x - y).den=r2 at h2 ⊢;generalize aU (-y).num=u1 at h1 h2;generalize aK (-y).den=u2 at h1 h2;generalize aU x.num=sx at h2 ⊢;generalize aK x.den=ex at h2 ⊢;generalize aU y.num=sy at h1 ⊢;generalize aK y.den=ey at h1 ⊢;refine aG mixed tok [.g [.s (.v sx),.s (.v ex)],.g [.s (.v sy),.s (.v ey)]] Tryz.func221 rfl rfl (lbl rfl) rfl fun c hc hR=>?_
 refine zN hc ?_;cbv;refine zD hc (.g [.s (.v u1),.s (.v u2)]) h1 aXs ?_;cbv;refine zD hc (.g [.s (.v r1),.s (.v r2)]) h2 aLr ?_;cbv;refine zE hc ?_;cbv;exact aD hc hR rfl rfl
theorem aT9:aB PP 223:=zK
theorem bCy {x y:Rat}(h0:y≠0)(hx:sz x≤2^34)(hy:sz y≤2^34):Pure PP 223 [cD x,cD y] (cD (x/y)):=by
 have h1:=bFc (q:=y) h0 (lTr hy (by decide))
 have h2:=aSj (x:=x) (y:=y⁻¹) hx (lTr (aS8 y) hy)
 rw[show x*y⁻¹=x/y from(Rat.div_def x y).symm]at h2;unfold cD at h1 h2 ⊢;generalize aU (x/y).num=r1 at h2 ⊢;generalize aK (x/y).den=r2 at h2 ⊢;generalize aU (y⁻¹).num=u1 at h1 h2;generalize aK (y⁻¹).den=u2 at h1 h2;generalize aU x.num=sx at h2 ⊢;generalize aK x.den=ex at h2 ⊢;generalize aU y.num=sy at h1 ⊢;generalize aK y.den=ey at h1 ⊢;refine aG mixed tok [.g [.s (.v sx),.s (.v ex)],.g [.s (.v sy),.s (.v ey)]] Tryz.func223 rfl rfl (lbl rfl) rfl fun c hc hR=>?_
 refine zN hc ?_;cbv;refine zD hc (.g [.s (.v u1),.s (.v u2)]) h1 aXr ?_;cbv;refine zD hc (.g [.s (.v r1),.s (.v r2)]) h2 aGk ?_;cbv;refine zE hc ?_;cbv;exact aD hc hR rfl rfl
end Go.Ai
namespace Go.Num
open Go.Lib
theorem aJo:∀(l:List UInt8),(index l [47]=-1∧cU l=(l,none))∨(0≤index l [47]∧cU l=(l.take (index l [47]).toNat,some (l.drop ((index l [47]).toNat+1))))
 | []=>.inl ⟨rfl,rfl⟩
 | b::l=>by
  unfold index cU
  by_cases hb:b=47
  ·subst hb
   right
   rw[if_pos (by simp),if_pos rfl];exact⟨Int.le_refl _,rfl⟩
  ·rw[if_neg (by simp;exact fun h=>hb (Eq.symm h)),if_neg hb]
   rcases aJo l with⟨h1,h2⟩ | ⟨h1,h2⟩
   ·left;rw[h1,h2];exact⟨rfl,rfl⟩
   ·right
    have hne:(index l [47]==-1)=false:=by simp;omega
    rw[hne,h2];obtain⟨k,hk⟩:∃k:Nat,index l [47]=k:=⟨(index l [47]).toNat,by omega⟩;rw[hk];refine⟨by simp;omega,?_⟩;simp only[Bool.false_eq_true,if_false,Int.toNat_natCast];rw[show((k:Int)+1).toNat=k+1 by omega];simp
theorem aQn (l:List UInt8):cut l [47]=((cU l).1,(cU l).2.getD [],(cU l).2.isSome):=by
 unfold cut
 rcases aJo l with⟨h1,h2⟩ | ⟨h1,h2⟩
 ·rw[if_neg (by omega),h2];rfl
 ·rw[if_pos h1,h2];rfl
end Go.Num
namespace Go.Ai
open Go Go.Proofs Go.Num
theorem aEu:aB PP 174:=zK
theorem uP:aB PP 169:=zK
theorem bW:aB PP 136:=zK
theorem aGd:aB PP 203:=zK
theorem aHu {w:World}(h:Glob PP w):∃m,w.cell? ⟨0,0,none⟩=some (.int .i64 m):=by
 obtain⟨m,hm⟩:=h.maxLen;refine⟨m,?_⟩;unfold World.var? at hm;rw[show PP.globalNamed "internal/bytealg.MaxLen"=some 0 by kernel_rfl]at hm;simp only[Option.bind_some]at hm;split at hm
 ·rename_i cs t fz hh;injection hm with hm
  subst hm;simp[World.cell?,hh]
 ·cases hm
theorem aG3 (n:Nat)(w:World):RowKit.Below w.heap.size w (w.drewN n):=⟨rfl,rfl,rfl,lRf _,fun _ _=>rfl⟩
theorem bDf (s:ByteArray)(hs:s.size≤2^31):Pure PP 203 [.string s,.string ⟨#[47]⟩] (.tuple #[.string ⟨(cU s.data.toList).1.toArray⟩,.string ⟨((cU s.data.toList).2.getD []).toArray⟩,.bool (cU s.data.toList).2.isSome]):=by
 intro w hgl;obtain⟨m,hm⟩:=aHu hgl;have hs':s.size<4294967281:=Nat.lt_of_le_of_lt hs (by decide)
 refine Calls.mono (Tryz.strings_Cut s ⟨#[47]⟩ m w hs' hm) ?_;rintro e w' ⟨rfl,n,rfl⟩;rw[show(⟨#[47]⟩:ByteArray).data.toList=[47] from rfl,aQn];exact⟨rfl,aG3 n w⟩
def rp (l:List UInt8):ByteArray:=⟨(cU l).1.toArray⟩
def rq (l:List UInt8):ByteArray:=match (cU l).2 with | some r=>⟨r.toArray⟩ | none=>⟨#[49]⟩
theorem bC4 {s:ByteArray}{z:Int}(hs:s=aU z):(BE.not (BE.seq (.v s) (.v ⟨#[48]⟩))).den=decide (z≠0):=by
 show(!(BE.seq (.v s) (.v ⟨#[48]⟩)).den)=_
 rw[aKv,hs,cQ];have e0:([48]:List UInt8)=Lib.itoa 0:=by unfold Lib.itoa;rw[if_neg (by decide)];exact aJp.symm
 show(!decide (Lib.itoa z=[48]))=_
 rw[e0]
 by_cases h:z=0
 ·subst h;simp
 ·rw[decide_eq_false (fun e=>h (aR0 e)),decide_eq_true h];rfl
theorem bCq {s:ByteArray}{a:Nat}(hs:s=aK a):(BE.not (BE.seq (.v s) (.v ⟨#[49]⟩))).den=decide (a≠1):=by
 show(!(BE.seq (.v s) (.v ⟨#[49]⟩)).den)=_
 rw[aS0 hs aIy.symm];simp
theorem aSg {l:List UInt8}(h:(cU l).2=none):(nU l).isSome=(vX (cU l).1).isSome:=by
 unfold nU;rw[h,rX h];cases vX l<;>rfl
def aKo (a:Option Int)(b:Option Nat):Option Rat:=match a,b with
 | some z,some n=>if h:z≠0∧n≠0∧n≠1∧z.natAbs.gcd n=1 then some ⟨z,n,h.2.1,h.2.2.2⟩else none
 | _,_=>none
theorem aZ0 {l r:List UInt8}(h:(cU l).2=some r):nU l=aKo (vX (cU l).1) (rdN r):=by
 unfold nU aKo;rw[h]
 dsimp only
 generalize vX (cU l).1=a;generalize rdN r=b;cases a<;>cases b<;>rfl
theorem aZz (b:Option Nat):aKo (some 0) b=none:=by
 cases b with
 | none=>rfl
 | some n=>simp only[aKo];rw[dif_neg (fun hh=>hh.1 rfl)]
theorem aZy (a:Option Int):aKo a none=none:=by cases a<;>rfl
theorem aOo {z:Int}(h0:z≠0)(n:Nat):(aKo (some z) (some n)).isSome=(decide (n≠0)&&(decide (n≠1)&&decide (z.natAbs.gcd n=1))):=by
 simp only[aKo]
 by_cases hh:z≠0∧n≠0∧n≠1∧z.natAbs.gcd n=1
 ·rw[dif_pos hh,decide_eq_true hh.2.1,decide_eq_true hh.2.2.1,decide_eq_true hh.2.2.2];rfl
 ·rw[dif_neg hh]
  by_cases a:n=0
  ·rw[decide_eq_false (by simpa using a)];rfl
  ·by_cases b:n=1
   ·rw[decide_eq_false (p:=n≠1) (by simpa using b),Bool.false_and,Bool.and_false];rfl
   ·rw[decide_eq_false (p:=z.natAbs.gcd n=1) (fun k=>hh ⟨h0,a,b,k⟩),Bool.and_false,Bool.and_false];rfl
theorem aOp {l r:List UInt8}(h:(cU l).2=some r):
  (vX (cU l).1=none∧(nU l).isSome=false)∨∃z,vX (cU l).1=some z∧((z=0∧(nU l).isSome=false)∨(z≠0∧((isNat r=false∧(nU l).isSome=false)∨∃n,isNat r=true∧r=Lib.decDigits n∧
   (nU l).isSome=(decide (n≠0)&&(decide (n≠1)&&decide (z.natAbs.gcd n=1)))))):=by
 rw[aZ0 h];cases hz:vX (cU l).1 with
 | none=>exact .inl ⟨rfl,rfl⟩
 | some z=>
  refine .inr ⟨z,rfl,?_⟩
  by_cases h0:z=0
  ·exact .inl ⟨h0,by rw[h0,aZz];rfl⟩
  ·refine .inr ⟨h0,?_⟩;cases hn:isNat r with
   | false=>exact .inl ⟨rfl,by rw[show rdN r=none by simp[rdN,hn],aZy];rfl⟩
   | true=>
    have hr:rdN r=some (dS 0 r):=by simp[rdN,hn]
    exact .inr ⟨dS 0 r,rfl,aBt hr,by rw[hr];exact aOo h0 _⟩
theorem aWw (s:ByteArray)(hs:s.size≤2^31):Pure PP 174 [.string s] (.tuple #[frV (rp s.data.toList) (rq s.data.toList),.bool (nU s.data.toList).isSome]):=by
 have hl:s.data.toList.length=s.size:=rfl
 have h1:=bDf s hs
 obtain⟨l,hll⟩:=nm (s.data.toList);rw[←hll]at h1 hl ⊢;have hpl:(cU l).1.length≤l.length:=by
  rcases aJo l with⟨_,h⟩ | ⟨_,h⟩<;>rw[h]<;>simp;omega
 have hps:(rp l).size≤2^31:=by show(cU l).1.toArray.size≤_;rw[List.size_toArray];omega
 have v1:=aZe (rp l) (lTr hps (by decide))
 rw[show(rp l).data.toList=(cU l).1 from rfl]at v1;obtain⟨ok,hok⟩:=nm ((nU l).isSome);rw[←hok];cases hc2:(cU l).2 with
 | none=>
  rw[←aSg hc2,←hok]at v1;rw[hc2]at h1;rw[show rq l=⟨#[49]⟩ by unfold rq;rw[hc2]];change Pure PP _ _ (.tuple #[.string (rp l),.string ⟨#[]⟩,.bool false])at h1;generalize rp l=p at h1 v1 ⊢;refine aG mixed tok [.s (.v s)] Tryz.func174 rfl rfl (lbl rfl) rfl fun c hc hR=>?_
  refine zN hc ?_;cbv;refine zC hc (.t [.s (.v p),.s (.v ⟨#[]⟩),.b (.l false)]) h1 aGd ?_;cbv;refine zC hc (.b (.v ok)) v1 qQ ?_;cbv;exact aD hc hR rfl rfl
 | some r=>
  have hcs:=aOp hc2
  rw[hc2]at h1;have hrq:rq l=⟨r.toArray⟩:=by unfold rq;rw[hc2]
  have hrl:r.length≤l.length:=by
   have:=rY hc2
   have:=congrArg List.length this
   simp at this;omega
  have hqs:(rq l).size≤2^31:=by rw[hrq];show r.toArray.size≤_;rw[List.size_toArray];omega
  have v2:=aKd (rq l) (lTr hqs (by decide))
  rw[show(rq l).data.toList=r by rw[hrq]]at v2;change Pure PP _ _ (.tuple #[.string (rp l),.string ⟨r.toArray⟩,.bool true])at h1;rw[←hrq]at h1
  rcases hcs with⟨z0,k0⟩ | ⟨z,z1,hcs⟩
  ·rw[←hok]at k0;rw[z0]at v1;change Pure PP _ _ (.bool false)at v1;subst k0;generalize rp l=p at h1 v1 ⊢;generalize rq l=q at h1 v2 ⊢;refine aG mixed tok [.s (.v s)] Tryz.func174 rfl rfl (lbl rfl) rfl fun c hc hR=>?_
   refine zN hc ?_;cbv;refine zC hc (.t [.s (.v p),.s (.v q),.b (.l true)]) h1 aGd ?_;cbv;refine zC hc (.b (.l false)) v1 qQ ?_;cbv;exact aD hc hR rfl rfl
  ·rw[z1]at v1;change Pure PP _ _ (.bool true)at v1;have hp:rp l=aU z:=jH (by rw[show(rp l).data.toList=(cU l).1 from rfl,cQ];exact vY z1)
   have sz1:=bC4 hp
   rcases hcs with⟨z2,k0⟩ | ⟨z2,hcs⟩
   ·rw[←hok]at k0;subst k0;generalize rp l=p at h1 v1 sz1 ⊢;generalize rq l=q at h1 v2 ⊢;refine aG mixed tok [.s (.v s)] Tryz.func174 rfl rfl (lbl rfl) rfl fun c hc hR=>?_
    refine zN hc ?_;cbv;refine zC hc (.t [.s (.v p),.s (.v q),.b (.l true)]) h1 aGd ?_;cbv;refine zC hc (.b (.l true)) v1 qQ ?_;cbv;refine bT hc 26 rfl rfl 100 (fun h=>absurd z2 (of_decide_eq_true (sz1.symm.trans h))) (fun h=>?_);cbv;exact aD hc hR rfl rfl
   ·rcases hcs with⟨n0,k0⟩ | ⟨n,n0,n1,k0⟩
    ·rw[←hok]at k0;rw[n0]at v2;subst k0;generalize rp l=p at h1 v1 sz1 ⊢;generalize rq l=q at h1 v2 ⊢;refine aG mixed tok [.s (.v s)] Tryz.func174 rfl rfl (lbl rfl) rfl fun c hc hR=>?_
     refine zN hc ?_;cbv;refine zC hc (.t [.s (.v p),.s (.v q),.b (.l true)]) h1 aGd ?_;cbv;refine zC hc (.b (.l true)) v1 qQ ?_;cbv;refine bT hc 26 rfl rfl 100 (fun h=>?_) (fun h=>absurd z2 (of_decide_eq_false (sz1.symm.trans h)));cbv;refine zC hc (.b (.l false)) v2 qU ?_;cbv;exact aD hc hR rfl rfl
    ·rw[n0]at v2;have hq:rq l=aK n:=jH (by rw[hrq,cM];exact n1)
     have sn0:=aR6 hq
     have sn1:=bCq hq
     have dz:dl z.natAbs≤2^37:=by
      have h2:(Lib.itoa z).length=(rp l).size:=by rw[hp];show _=(Lib.itoa z).toArray.size;rw[List.size_toArray]
      have h3:dl z.natAbs≤(Lib.itoa z).length:=by
       unfold Lib.itoa dl;split
       ·simp
       ·rw[show z.toNat=z.natAbs by omega];exact lRf _
      omega
     have dn:dl n≤2^37:=by have:=hqs;rw[hq,eR]at this;omega
     have g1:=aH7 (p:=z) (d:=n) dz dn
     rw[←hp,←hq]at g1;have sg:=aS0 (s:=aK (z.natAbs.gcd n)) rfl aIy.symm
     generalize aK (z.natAbs.gcd n)=g at g1 sg;rw[←hok]at k0;generalize rp l=p at h1 v1 sz1 g1 ⊢;generalize rq l=q at h1 v2 sn0 sn1 g1 ⊢;clear hok hc2 hpl hps hll;refine aG mixed tok [.s (.v s)] Tryz.func174 rfl rfl (lbl rfl) rfl fun c hc hR=>?_
     refine zN hc ?_;cbv;refine zC hc (.t [.s (.v p),.s (.v q),.b (.l true)]) h1 aGd ?_;cbv;refine zC hc (.b (.l true)) v1 qQ ?_;cbv;refine bT hc 26 rfl rfl 100 (fun h=>?_) (fun h=>absurd z2 (of_decide_eq_false (sz1.symm.trans h)));cbv;refine zC hc (.b (.l true)) v2 qU ?_;cbv;refine bT hc 34 rfl rfl 100 (fun h=>?_) (fun h=>?_)
     ·have a1:=sn0.symm.trans h
      rw[a1]at k0;cbv;refine bT hc 38 rfl rfl 100 (fun h=>?_) (fun h=>?_)
      ·have a2:=sn1.symm.trans h
       rw[a2]at k0;cbv;refine zC hc (.s (.v g)) g1 aP4 ?_;cbv;exact aD hc hR rfl (by rw[k0,Bool.true_and,Bool.true_and,←sg];rfl)
      ·have a2:=sn1.symm.trans h
       rw[a2]at k0;subst k0;cbv;exact aD hc hR rfl rfl
     ·have a1:=sn0.symm.trans h
      rw[a1]at k0;subst k0;cbv;exact aD hc hR rfl rfl
theorem aSi (q:Rat):rp (aA q).data.toList=aU q.num∧rq (aA q).data.toList=aK q.den:=by
 rw[lZ];split
 ·rename_i hd;have e:=zL (sE q.num)
  exact⟨by unfold rp;rw[e];rfl,by unfold rq;rw[e,hd,aIy]⟩
 ·rename_i hd;have e:=zJ (r:=Lib.decDigits q.den) (sE q.num)
  exact⟨by unfold rp;rw[e];rfl,by unfold rq;rw[e];rfl⟩
theorem bH (q:Rat):(aA q).size≤2*sz q+2:=by
 have h1:=kV q.num
 have h2:=eR q.den
 have h3:=oF q
 have h4:=qB q
 unfold aA;split
 ·omega
 ·rw[ByteArray.size_append,ByteArray.size_append,show(⟨#[47]⟩:ByteArray).size=1 from rfl];omega
theorem aD1 {q:Rat}(hq:sz q≤2^29):Pure PP 174 [.string (aA q)] (.tuple #[cD q,.bool true]):=by
 have h:=aWw (aA q) (lTr (bH q) (by omega))
 rw[(aSi q).1,(aSi q).2,cT]at h;exact h
theorem aH6 {x y:Rat}(hx:sz x≤2^29)(hy:sz y≤2^29):Pure PP 169 [.string (aA x),.string (aA y)] (.tuple #[cD x,cD y,.int .i64 0]):=by
 have h1:=aD1 hx
 have h2:=aD1 hy
 unfold cD at h1 h2 ⊢;generalize aA x=sx at h1 ⊢;generalize aA y=sy at h2 ⊢;generalize aU x.num=a at h1 ⊢;generalize aK x.den=b at h1 ⊢;generalize aU y.num=a' at h2 ⊢;generalize aK y.den=b' at h2 ⊢;refine aG mixed tok [.s (.v sx),.s (.v sy)] Tryz.func169 rfl rfl (lbl rfl) rfl fun c hc hR=>?_
 refine zN hc ?_;cbv;refine zC hc (.t [.g [.s (.v a),.s (.v b)],.b (.l true)]) h1 aEu ?_;cbv;refine fX hc (.t [.g [.s (.v a'),.s (.v b')],.b (.l true)]) h2 aEu rfl rfl 1 ?_;cbv;refine aWy hc 100 ?_;cbv;obtain⟨G,hG⟩:∃G:Nat→List AV→OF,∀b l,G b l=OF.cells b 234 l:=⟨fun b l=>OF.cells b _ l,fun _ _=>rfl⟩;refine aSn 4 0 hG (l:=[(5,.p 1 0),(7,.p 2 0),(9,.p 3 0)]) (K':=[]) rfl rfl rfl ⟨⟨_,rfl,rfl,fun _=>rfl⟩,⟨_,rfl,rfl,fun _=>rfl⟩,⟨_,rfl,rfl,fun _=>rfl⟩,trivial⟩ rfl rfl trivial trivial (fun bk=>?_);refine zN hc ?_;cbv;refine sL hc _ hG [] rfl rfl rfl rfl rfl rfl rfl rfl rfl rfl rfl rfl 100 ?_;cbv;refine zE hc ?_;cbv;refine aAc 4 hG rfl rfl rfl ?_;cbv;exact aD hc hR rfl rfl
theorem fC (s:ByteArray)(hs:s.size≤2^31):Pure PP 136 [.string s] (.bool (nU s.data.toList).isSome):=by
 have h:=aWw s hs
 generalize (nU s.data.toList).isSome=ok at h ⊢;generalize rp s.data.toList=p at h;generalize rq s.data.toList=q at h;refine aG mixed tok [.s (.v s)] Tryz.func136 rfl rfl (lbl rfl) rfl fun c hc hR=>?_
 refine zN hc ?_;cbv;refine zC hc (.t [.g [.s (.v p),.s (.v q)],.b (.v ok)]) h aEu ?_;cbv;exact aD hc hR rfl rfl
end Go.Ai
namespace Go.Ai
open Go Go.Proofs Go.Num
theorem tL:aB PP 167:=zK
def kE (x y:Rat):Int:=if x<y then -1 else if y<x then 1 else 0
theorem aL1 (x y:Rat):bS (x.num*(y.den:Int)) (y.num*(x.den:Int))=kE x y:=by
 unfold bS kE;simp only[Rat.lt_iff]
theorem aNq (x:Rat):kE x x=0:=by unfold kE;rw[if_neg (Rat.lt_irrefl),if_neg (Rat.lt_irrefl)]
theorem aUf (z:Int):(bS z 0=-1∧z<0)∨(bS z 0=0∧z=0)∨(bS z 0=1∧0<z):=by
 unfold bS;split
 ·left;omega
 ·split
  ·right;right;omega
  ·right;left;omega
theorem aM2 {z d:Int}(hd:0<d):(z<0→z*d<0)∧(z=0→z*d=0)∧(0<z→0<z*d):=
 ⟨fun h=>Int.mul_neg_of_neg_of_pos h hd,fun h=>by rw[h,Int.zero_mul],fun h=>Int.mul_pos h hd⟩
theorem aJl {p q z w:Int}{s t:Int}(hs:s=bS p 0)(ht:t=bS q 0)(h:s≠t)(hz:(p<0→z<0)∧(p=0→z=0)∧(0<p→0<z))(hw:(q<0→w<0)∧(q=0→w=0)∧(0<q→0<w))
  {e:IE} (he:e=IE.max (.l (-1)) (.sub (.l 0) (.max (.sub (.l 0) (.sub (.v s) (.v t))) (.sub (.l 0) (.l 1))))):e.den=bS z w:=by
 obtain⟨z1,z2,z3⟩:=hz;obtain⟨w1,w2,w3⟩:=hw
 rcases aUf p with⟨a,ha⟩ | ⟨a,ha⟩ | ⟨a,ha⟩<;>rcases aUf q with⟨b,hb⟩ | ⟨b,hb⟩ | ⟨b,hb⟩<;>rw[←hs]at a<;>rw[←ht]at b<;>subst a<;>subst b
 ·exact absurd rfl h
 ·have e1:e.den=-1:=by rw[he];decide
  rw[e1];unfold bS;rw[if_pos (by omega)]
 ·have e1:e.den=-1:=by rw[he];decide
  rw[e1];unfold bS;rw[if_pos (by omega)]
 ·have e1:e.den=1:=by rw[he];decide
  rw[e1];unfold bS;rw[if_neg (by omega),if_pos (by omega)]
 ·exact absurd rfl h
 ·have e1:e.den=-1:=by rw[he];decide
  rw[e1];unfold bS;rw[if_pos (by omega)]
 ·have e1:e.den=1:=by rw[he];decide
  rw[e1];unfold bS;rw[if_neg (by omega),if_pos (by omega)]
 ·have e1:e.den=1:=by rw[he];decide
  rw[e1];unfold bS;rw[if_neg (by omega),if_pos (by omega)]
 ·exact absurd rfl h
theorem aJm {x y:Rat}{s t:Int}(hs:s=bS x.num 0)(ht:t=bS y.num 0)(h:s≠t){e:IE}(he:e=IE.max (.l (-1)) (.sub (.l 0) (.max (.sub (.l 0) (.sub (.v s) (.v t))) (.sub (.l 0) (.l 1))))):e.den=kE x y:=by
 rw[←aL1];exact aJl hs ht h (aM2 (by have:=y.den_pos;omega)) (aM2 (by have:=x.den_pos;omega)) he
theorem aS1 {s t:ByteArray}{x y:Rat}(hs:s=aA x)(ht:t=aA y):(BE.seq (.v s) (.v t)).den=decide (x=y):=by
 rw[aKv,hs,ht];exact decide_eq_decide.2 ⟨fun e=>aTk (jH e),fun e=>by rw[e]⟩
theorem aBs {x y:Rat}(hx:sz x≤2^29)(hy:sz y≤2^29):Pure PP 167 [.string (aA x),.string (aA y)] (.tuple #[.int .i64 (kE x y),.int .i64 0]):=by
 have h1:=aH6 hx hy
 have g1:=aWx (q:=x) (lTr hx (by decide))
 have g2:=aWx (q:=y) (lTr hy (by decide))
 have nx:=lTr (oF x) hx
 have dx:=lTr (qB x) hx
 have ny:=lTr (oF y) hy
 have dy:=lTr (qB y) hy
 have m1:=aRw (z:=x.num) (y:=(y.den:Int)) (lTr nx (by decide)) (by rw[Int.natAbs_natCast];exact lTr dy (by decide))
 have m2:=aRw (z:=y.num) (y:=(x.den:Int)) (lTr ny (by decide)) (by rw[Int.natAbs_natCast];exact lTr dx (by decide))
 have b1:dl (x.num*(y.den:Int)).natAbs≤2^30:=by rw[Int.natAbs_mul,Int.natAbs_natCast];exact lTr (pK _ _) (by omega)
 have b2:dl (y.num*(x.den:Int)).natAbs≤2^30:=by rw[Int.natAbs_mul,Int.natAbs_natCast];exact lTr (pK _ _) (by omega)
 have m3:=aRv (z:=x.num*(y.den:Int)) (y:=y.num*(x.den:Int)) (lTr b1 (by decide)) (lTr b2 (by decide))
 rw[aL1]at m3;rw[jX]at m1 m2;have es:=aS1 (s:=aA x) (t:=aA y) rfl rfl
 have r0:x=y→kE x y=0:=fun e=>by rw[e,aNq]
 obtain⟨s,hs⟩:=nm (bS x.num 0);obtain⟨t,ht⟩:∃s,s=bS y.num 0:=⟨_,rfl⟩;have sb:(Obl.inR .i64 (.sub (.v s) (.v t))).ok:=by
  show lo _≤s - t∧s - t≤hi _
  rcases aUf x.num with⟨a,_⟩ | ⟨a,_⟩ | ⟨a,_⟩<;>rcases aUf y.num with⟨b,_⟩ | ⟨b,_⟩ | ⟨b,_⟩<;>(rw[hs,ht,a,b];decide)
 have r1:=fun h:s≠t=>aJm hs ht h rfl
 rw[←hs]at g1;rw[←ht]at g2;clear hs ht b1 b2;unfold cD at h1 g1 g2;generalize kE x y=r at m3 r0 r1 ⊢;generalize aU (x.num*(y.den:Int))=t1 at m1 m3;generalize aU (y.num*(x.den:Int))=t2 at m2 m3;generalize aA x=sx at h1 es ⊢;generalize aA y=sy at h1 es ⊢;generalize aU x.num=a at h1 g1 m1;generalize aK x.den=b at h1 g1 m2;generalize aU y.num=a' at h1 g2 m2;generalize aK y.den=b' at h1 g2 m1;refine aG mixed tok [.s (.v sx),.s (.v sy)] Tryz.func167 rfl rfl (lbl rfl) rfl fun c hc hR=>?_
 refine zN hc ?_;cbv;refine zC hc (.t [.g [.s (.v a),.s (.v b)],.g [.s (.v a'),.s (.v b')],.i .i64 (.l 0)]) h1 uP ?_;cbv;refine aE hc rfl 100 (fun h=>?_) (fun h=>?_)
 ·have hr:=r0 (of_decide_eq_true (es.symm.trans h))
  subst hr;cbv;exact aD hc hR rfl rfl
 cbv;refine zD hc (.i .i64 (.v s)) g1 aLs ?_;cbv;refine zD hc (.i .i64 (.v t)) g2 aLs ?_;cbv;refine zE hc ?_;cbv;refine aE hc rfl 100 (fun h=>?_) (fun h=>?_)
 ·have hne:s≠t:=fun e=>BE.eq_f (BE.not_t h) e
  have hr:=r1 hne
  cbv;refine aQ hc ⟨sb,trivial⟩ ?_;exact aD hc hR rfl (by rw[←hr];rfl)
 ·cbv;refine zC hc (.t [.s (.v t1),.i .i64 (.l 0)]) m1 mB ?_;cbv;refine zC hc (.t [.s (.v t2),.i .i64 (.l 0)]) m2 mB ?_;cbv;refine zC hc (.t [.i .i64 (.v r),.i .i64 (.l 0)]) m3 aI8 ?_;cbv;exact aD hc hR rfl rfl
end Go.Ai
namespace Go.Ai
open Go Go.Proofs Go.Num Go.RowKit Go.MapKept
theorem aVo {P:Program}{mty kt et r clock:Nat}{d:TypeDesc}{es:Array MapEntry}{key value:Value}{w:World}(hm:P.underlying mty=some (.map kt et))(hd:P.underlying kt=some d)(hb:w.heap[r]?=some (.map es clock))(hk:IsKey d key)
  (hf:Instr.findNow d key es.toList 0=some none):(Instr.mapUpdate mty (.map (some r)) key value).run P w=.ok () {w with heap:=w.heap.setIfInBounds r (.map (es.push {key,val:=value,born:=clock}) (clock+1))}:=by
 simp[Instr.mapUpdate,run_underlying hm,MapKept.run_getObj_map hb,MapKept.run_checkKey hd hk,MapKept.run_findKey hd hf,MapKept.run_setObj_map _ hb,Result.andThen]
def fnV (g:Nat):Value:=.func (.func g) #[] #[]
def E1:Array MapEntry:=#[⟨.int .u8 43,fnV 219,0⟩]
def E2:Array MapEntry:=E1.push ⟨.int .u8 42,fnV 220,1⟩
def E3:Array MapEntry:=E2.push ⟨.int .u8 45,fnV 221,2⟩
def E4:Array MapEntry:=E3.push ⟨.int .u8 47,fnV 223,3⟩
def tY (w:World)(es:Array MapEntry)(n:Nat):World:=w.alloc (.map es n)
theorem aMj (w:World)(es:Array MapEntry)(n:Nat):(tY w es n).heap[w.heap.size]?=some (.map es n):=(heap_alloc w _).1
theorem vZ {P:Program}{mty kt et clock:Nat}{d:TypeDesc}{es:Array MapEntry}{key value:Value}{w:World}(hm:P.underlying mty=some (.map kt et))(hd:P.underlying kt=some d)(hk:IsKey d key)
  (hf:Instr.findNow d key es.toList 0=some none):(Instr.mapUpdate mty (.map (some w.heap.size)) key value).run P (tY w es clock)=.ok () (tY w (es.push {key,val:=value,born:=clock}) (clock+1)):=by
 rw[aVo hm hd (aMj w es clock) hk hf];unfold tY World.alloc;simp[Array.setIfInBounds,-World.alloc_eq,Array.set_push]
set_option maxHeartbeats 1000000 in
set_option maxRecDepth 100000 in
theorem aOg (w:World):Calls PP 202 #[] w fun e w'=>e=.returned (.map (some w.heap.size))∧w'=tY w E4 4:=by
 have hmm:∀w,(Instr.makeMap 238 none).run PP w=.ok (.map (some w.heap.size)) (tY w #[] 0):=fun w=>run_makeMap _ w
 have m1:(Instr.mapUpdate 238 (.map (some w.heap.size)) (.int .u8 43) (.func (.func 219) #[] #[])).run PP (tY w #[] 0)=.ok () (tY w E1 1):=vZ Tryz.underlying238 Tryz.underlying5 (by trivial) rfl
 have m2:(Instr.mapUpdate 238 (.map (some w.heap.size)) (.int .u8 42) (.func (.func 220) #[] #[])).run PP (tY w E1 1)=.ok () (tY w E2 2):=vZ Tryz.underlying238 Tryz.underlying5 (by trivial) rfl
 have m3:(Instr.mapUpdate 238 (.map (some w.heap.size)) (.int .u8 45) (.func (.func 221) #[] #[])).run PP (tY w E2 2)=.ok () (tY w E3 3):=vZ Tryz.underlying238 Tryz.underlying5 (by trivial) rfl
 have m4:(Instr.mapUpdate 238 (.map (some w.heap.size)) (.int .u8 47) (.func (.func 223) #[] #[])).run PP (tY w E3 3)=.ok () (tY w E4 4):=vZ Tryz.underlying238 Tryz.underlying5 (by trivial) rfl
 go_enter Tryz.func202,Tryz.ntmps202
 go_wp2
 go_ret
 exact⟨rfl,rfl⟩
def aHt (es:Array MapEntry):VF where
 p v X w:=∃r n,v=.map (some r)∧X r∧w.heap[r]?=some (.map es n)
 st v X X' w w' hs hw h:=by
  obtain⟨r,n,h1,h2,h3⟩:=h;exact⟨r,n,h1,hs _ h2,by rw[hw _ h2];exact h3⟩
theorem aEs:aB PP 202:=zK
theorem aLi:aB PP 170:=zK
theorem aCq {X:Nat→Prop}{w:World}:Fn PP 202 [] X w (aHt E4):=by
 intro hgl;refine Calls.mono (aOg w) ?_;rintro e w' ⟨rfl,rfl⟩;refine⟨_,fun b=>X b∨b=w.heap.size,rfl,(Below.refl _ _).alloc (lRf _) _,fun b hb=>.inl hb,fun b hb=>?_,w.heap.size,4,rfl,.inr rfl,aMj w E4 4⟩
 rcases hb with hb | rfl
 ·exact .inl hb
 ·exact .inr ⟨lRf _,by simp[tY]⟩
theorem aEl {X:Nat→Prop}{w:World}(hX:∀b,X b→b<w.heap.size):Fn PP 170 [] X w (aHt E4):=by
 obtain⟨R,hRR⟩:=nm (aHt E4);rw[←hRR];refine bE mixed tok [] (K:=[]) Tryz.func170 rfl rfl (lbl rfl) rfl hX (by simp) fun c hc hR=>?_
 refine zN hc ?_;cbv;refine eE hc (R:=R) aEs (fun n0 D X μ a w aL H aJ=>?_) 100 ?_
 ·simp only[aH]at aJ;injection aJ with aJ;subst aJ
  rw[hRR];exact aCq
 cbv;refine aS hc hR rfl (fun X μ a w v' H hv'=>?_);exact H.toP.val (R:=R) (.head _) hv'
theorem wB {c:Cx}{P:Program}{ty:Nat→Option TyI}{nt:Nat}{K:List KF}(hc:Ctx c P ty nt){all:Array Oper}{i n0:Nat}{K0:List KF}{k:List KI}{S:St}(o:Oper)(ho:all[i]?=some o)(hg:guardOf all S.sl o=some true)(hic:bZ o=true)(hd:cF nt o.dst=true)
  {av:AV} {nb:Option Blk} {Kn:List KF} {ow:List OF} (bBt:∀D:Nat→Prop,(∀t,Operand.tmp t∈o.op.operands→D t)→Cert c K n0 D S o av nb Kn ow) (n:Nat)
  (h:Goal c (Kn++K) (run ty nt (Kn++K) n (.dops all (i+1) n0 K0::k) (S.putO o.dst av nb ow) [])):Goal c K ⟨.dops all i n0 K0::k,S,[]⟩:=by
 have hs:=dP hc n h
 refine .mk0 (show DPath c all n0 K0 k i S K from ?_);refine DPath.op ho hg (by rw[hc.hnt];exact hd) (by
  rw[hic];simp only[if_true,fl,hic];exact bBt _ (fun t ht=>by simp only[uV,dO,List.mem_append];exact .inl (fA (by simpa using ht)))) (fun hf=>by rw[hic]at hf;cases hf) ?_ hs
 rw[hic];exact Wk.refl _
theorem aSk {P:Program}{mty kt et r n j:Nat}{d:TypeDesc}{es:Array MapEntry}{key v:Value}{w:World}(hm:P.underlying mty=some (.map kt et))(hd:P.underlying kt=some d)(hb:w.heap[r]?=some (.map es n))(hk:IsKey d key)
  (hf:Instr.findNow d key es.toList 0=some (some (j,v))):(Instr.lookup mty (.map (some r)) key false).run P w=.ok v w:=by
 simp[Instr.lookup,run_underlying hm,MapKept.run_getObj_map hb,MapKept.run_checkKey hd hk,MapKept.run_findKey hd hf,Result.andThen]
theorem rW {c:Cx}{K:List KF}{n0:Nat}{D:Nat→Prop}{S:St}{o:Oper}{m x:Operand}{mty kt et b j:Nat}{d:TypeDesc}{es:Array MapEntry}{key v:Value}{F:VF}{av kv:AV}(hm:c.P.underlying mty=some (.map kt et))(hd:c.P.underlying kt=some d)(hk:IsKey d key)
  (hf:Instr.findNow d key es.toList 0=some (some (j,v))) (hop:o.op=Op.lookup mty m x false) (hF:KF.at b F∈K) (e:F=aHt es) (h1:fG S.sl m=some (.e b)) (h2:fG S.sl x=some kv) (hkv:aC iJ kv=some key) (hv:aC iJ av=some v)
  (hD:∀t,Operand.tmp t∈o.op.operands→D t):Cert c K n0 D S o av none [] S.ow:=by
 intro X μ a w next Q H hfr hn
 rw[hop]at hD;have a1:=aI H h1 (fun t e=>hD t (by simp[Op.operands,e]))
 have a2:=aI H h2 (fun t e=>hD t (by simp[Op.operands,e]))
 have a3:=H.val hF a1
 rw[e]at a3;obtain⟨r,n,e1,_,e2⟩:=a3;rw[eS hkv]at a2;injection a2 with a2
 have hr:(execOp a.eval o).run c.P w=.ok (.value v) w:=by
  simp[execOp,hop,e1,←a2,aSk hm hd e2 hk hf,Result.andThen]
 exact aAd hr (hn X μ v w (cK.same H.own (eS hv)) (fun f hf=>(by cases hf)))
theorem uO:aB PP 131:=zK
theorem aKj {x y:Rat}(hx:sz x≤2^29)(hy:sz y≤2^29):Pure PP 131 [.int .u8 43,.string (aA x),.string (aA y)] (.tuple #[.string (aA (x+y)),.int .i64 0]):=by
 have hb:=aH6 hx hy
 have aJ1:=lTr hx (show 2^29≤2^34 by decide)
 have aJ3:=lTr hy (show 2^29≤2^34 by decide)
 have h1:=aWv aJ1 aJ3
 have h2:=aMv (q:=x+y) (lTr (xY x y) (by omega))
 obtain⟨R,hRR⟩:=nm (aHt E4);unfold cD at hb h1 h2;generalize aA (x+y)=r at h2 ⊢;generalize aU (x+y).num=r1 at h1 h2;generalize aK (x+y).den=r2 at h1 h2;generalize aA x=sx at hb ⊢;generalize aA y=sy at hb ⊢;generalize aU x.num=a at hb h1;generalize aK x.den=b at hb h1;generalize aU y.num=a' at hb h1;generalize aK y.den=b' at hb h1;refine aG mixed tok [.i .u8 (.l 43),.s (.v sx),.s (.v sy)] Tryz.func131 rfl rfl (lbl rfl) rfl fun c hc hR=>?_
 refine zN hc ?_;cbv;refine zC hc (.t [.g [.s (.v a),.s (.v b)],.g [.s (.v a'),.s (.v b')],.i .i64 (.l 0)]) hb uP ?_;cbv;refine mY hc (R:=R) aLi (fun D X μ a w aL H aJ=>?_) 100 ?_
 ·simp only[aH]at aJ;injection aJ with aJ;subst aJ
  rw[hRR];exact aEl H.xlt
 cbv;refine wB hc (av:=.f (.func 219) [] []) (Kn:=[]) _ rfl rfl rfl rfl (fun D hD=>rW (by rw[hc.hP];exact Tryz.underlying238) (by rw[hc.hP];exact Tryz.underlying5) (by trivial) (key:=.int .u8 43) rfl rfl (.head _) hRR rfl rfl rfl rfl hD) 100 ?_;cbv;refine zD hc (.g [.s (.v r1),.s (.v r2)]) h1 aLr ?_;cbv;refine zD hc (.s (.v r)) h2 zG ?_;cbv;refine zE hc ?_;cbv;exact aD hc hR rfl rfl
theorem mD:aB PP 146:=zK
theorem aBr {x y:Rat}(hx:sz x≤2^29)(hy:sz y≤2^29):Pure PP 146 [.string (aA x),.string (aA y)] (.tuple #[.string (aA (x+y)),.int .i64 0]):=by
 have h1:=aKj hx hy
 generalize aA (x+y)=r at h1 ⊢;generalize aA x=sx at h1 ⊢;generalize aA y=sy at h1 ⊢;refine aG mixed tok [.s (.v sx),.s (.v sy)] Tryz.func146 rfl rfl (lbl rfl) rfl fun c hc hR=>?_
 refine zN hc ?_;cbv;refine zC hc (.t [.s (.v r),.i .i64 (.l 0)]) h1 uO ?_;cbv;exact aD hc hR rfl rfl
theorem aKl {x y:Rat}(hx:sz x≤2^29)(hy:sz y≤2^29):Pure PP 131 [.int .u8 42,.string (aA x),.string (aA y)] (.tuple #[.string (aA (x*y)),.int .i64 0]):=by
 have hb:=aH6 hx hy
 have aJ1:=lTr hx (show 2^29≤2^34 by decide)
 have aJ3:=lTr hy (show 2^29≤2^34 by decide)
 have h1:=aSj aJ1 aJ3
 have h2:=aMv (q:=x*y) (lTr (yA x y) (by omega))
 obtain⟨R,hRR⟩:=nm (aHt E4);unfold cD at hb h1 h2;generalize aA (x*y)=r at h2 ⊢;generalize aU (x*y).num=r1 at h1 h2;generalize aK (x*y).den=r2 at h1 h2;generalize aA x=sx at hb ⊢;generalize aA y=sy at hb ⊢;generalize aU x.num=a at hb h1;generalize aK x.den=b at hb h1;generalize aU y.num=a' at hb h1;generalize aK y.den=b' at hb h1;refine aG mixed tok [.i .u8 (.l 42),.s (.v sx),.s (.v sy)] Tryz.func131 rfl rfl (lbl rfl) rfl fun c hc hR=>?_
 refine zN hc ?_;cbv;refine zC hc (.t [.g [.s (.v a),.s (.v b)],.g [.s (.v a'),.s (.v b')],.i .i64 (.l 0)]) hb uP ?_;cbv;refine mY hc (R:=R) aLi (fun D X μ a w aL H aJ=>?_) 100 ?_
 ·simp only[aH]at aJ;injection aJ with aJ;subst aJ
  rw[hRR];exact aEl H.xlt
 cbv;refine wB hc (av:=.f (.func 220) [] []) (Kn:=[]) _ rfl rfl rfl rfl (fun D hD=>rW (by rw[hc.hP];exact Tryz.underlying238) (by rw[hc.hP];exact Tryz.underlying5) (by trivial) (key:=.int .u8 42) rfl rfl (.head _) hRR rfl rfl rfl rfl hD) 100 ?_;cbv;refine zD hc (.g [.s (.v r1),.s (.v r2)]) h1 aGk ?_;cbv;refine zD hc (.s (.v r)) h2 zG ?_;cbv;refine zE hc ?_;cbv;exact aD hc hR rfl rfl
theorem qV:aB PP 145:=zK
theorem aH5 {x y:Rat}(hx:sz x≤2^29)(hy:sz y≤2^29):Pure PP 145 [.string (aA x),.string (aA y)] (.tuple #[.string (aA (x*y)),.int .i64 0]):=by
 have h1:=aKl hx hy
 generalize aA (x*y)=r at h1 ⊢;generalize aA x=sx at h1 ⊢;generalize aA y=sy at h1 ⊢;refine aG mixed tok [.s (.v sx),.s (.v sy)] Tryz.func145 rfl rfl (lbl rfl) rfl fun c hc hR=>?_
 refine zN hc ?_;cbv;refine zC hc (.t [.s (.v r),.i .i64 (.l 0)]) h1 uO ?_;cbv;exact aD hc hR rfl rfl
theorem aKm {x y:Rat}(hx:sz x≤2^29)(hy:sz y≤2^29):Pure PP 131 [.int .u8 45,.string (aA x),.string (aA y)] (.tuple #[.string (aA (x - y)),.int .i64 0]):=by
 have hb:=aH6 hx hy
 have aJ1:=lTr hx (show 2^29≤2^34 by decide)
 have aJ3:=lTr hy (show 2^29≤2^34 by decide)
 have h1:=aZ1 aJ1 aJ3
 have h2:=aMv (q:=x - y) (lTr (aB6 x y) (by omega))
 obtain⟨R,hRR⟩:=nm (aHt E4);unfold cD at hb h1 h2;generalize aA (x - y)=r at h2 ⊢;generalize aU (x - y).num=r1 at h1 h2;generalize aK (x - y).den=r2 at h1 h2;generalize aA x=sx at hb ⊢;generalize aA y=sy at hb ⊢;generalize aU x.num=a at hb h1;generalize aK x.den=b at hb h1;generalize aU y.num=a' at hb h1;generalize aK y.den=b' at hb h1;refine aG mixed tok [.i .u8 (.l 45),.s (.v sx),.s (.v sy)] Tryz.func131 rfl rfl (lbl rfl) rfl fun c hc hR=>?_
 refine zN hc ?_;cbv;refine zC hc (.t [.g [.s (.v a),.s (.v b)],.g [.s (.v a'),.s (.v b')],.i .i64 (.l 0)]) hb uP ?_;cbv;refine mY hc (R:=R) aLi (fun D X μ a w aL H aJ=>?_) 100 ?_
 ·simp only[aH]at aJ;injection aJ with aJ;subst aJ
  rw[hRR];exact aEl H.xlt
 cbv;refine wB hc (av:=.f (.func 221) [] []) (Kn:=[]) _ rfl rfl rfl rfl (fun D hD=>rW (by rw[hc.hP];exact Tryz.underlying238) (by rw[hc.hP];exact Tryz.underlying5) (by trivial) (key:=.int .u8 45) rfl rfl (.head _) hRR rfl rfl rfl rfl hD) 100 ?_;cbv;refine zD hc (.g [.s (.v r1),.s (.v r2)]) h1 aP6 ?_;cbv;refine zD hc (.s (.v r)) h2 zG ?_;cbv;refine zE hc ?_;cbv;exact aD hc hR rfl rfl
theorem aP3:aB PP 85:=zK
theorem bCv {x y:Rat}(hx:sz x≤2^29)(hy:sz y≤2^29):Pure PP 85 [.string (aA x),.string (aA y)] (.tuple #[.string (aA (x - y)),.int .i64 0]):=by
 have h1:=aKm hx hy
 generalize aA (x - y)=r at h1 ⊢;generalize aA x=sx at h1 ⊢;generalize aA y=sy at h1 ⊢;refine aG mixed tok [.s (.v sx),.s (.v sy)] Tryz.func85 rfl rfl (lbl rfl) rfl fun c hc hR=>?_
 refine zN hc ?_;cbv;refine zC hc (.t [.s (.v r),.i .i64 (.l 0)]) h1 uO ?_;cbv;exact aD hc hR rfl rfl
theorem aKk {x y:Rat}(h0:y≠0)(hx:sz x≤2^29)(hy:sz y≤2^29):Pure PP 131 [.int .u8 47,.string (aA x),.string (aA y)] (.tuple #[.string (aA (x/y)),.int .i64 0]):=by
 have hb:=aH6 hx hy
 have aJ1:=lTr hx (show 2^29≤2^34 by decide)
 have aJ3:=lTr hy (show 2^29≤2^34 by decide)
 have h1:=bCy h0 aJ1 aJ3
 have h2:=aMv (q:=x/y) (lTr (xZ x y) (by omega))
 have z0:(BE.seq (.v (aU y.num)) (.v ⟨#[48]⟩)).den=true→False:=fun h=>by
  have e:=bC4 (s:=aU y.num) (z:=y.num) rfl
  have e2:(BE.not (BE.seq (.v (aU y.num)) (.v ⟨#[48]⟩))).den=false:=by show(! _)=false;rw[h];rfl
  rw[e2]at e;exact absurd e (by simp;exact h0)
 obtain⟨R,hRR⟩:=nm (aHt E4);unfold cD at hb h1 h2;generalize aA (x/y)=r at h2 ⊢;generalize aU (x/y).num=r1 at h1 h2;generalize aK (x/y).den=r2 at h1 h2;generalize aA x=sx at hb ⊢;generalize aA y=sy at hb ⊢;generalize aU x.num=a at hb h1;generalize aK x.den=b at hb h1;generalize aU y.num=a' at hb h1 z0;generalize aK y.den=b' at hb h1;refine aG mixed tok [.i .u8 (.l 47),.s (.v sx),.s (.v sy)] Tryz.func131 rfl rfl (lbl rfl) rfl fun c hc hR=>?_
 refine zN hc ?_;cbv;refine zC hc (.t [.g [.s (.v a),.s (.v b)],.g [.s (.v a'),.s (.v b')],.i .i64 (.l 0)]) hb uP ?_;cbv;refine aE hc rfl 100 (fun h=>(z0 h).elim) (fun h=>?_);cbv;refine mY hc (R:=R) aLi (fun D X μ a w aL H aJ=>?_) 100 ?_
 ·simp only[aH]at aJ;injection aJ with aJ;subst aJ
  rw[hRR];exact aEl H.xlt
 cbv;refine wB hc (av:=.f (.func 223) [] []) (Kn:=[]) _ rfl rfl rfl rfl (fun D hD=>rW (by rw[hc.hP];exact Tryz.underlying238) (by rw[hc.hP];exact Tryz.underlying5) (by trivial) (key:=.int .u8 47) rfl rfl (.head _) hRR rfl rfl rfl rfl hD) 100 ?_;cbv;refine zD hc (.g [.s (.v r1),.s (.v r2)]) h1 aT9 ?_;cbv;refine zD hc (.s (.v r)) h2 zG ?_;cbv;refine zE hc ?_;cbv;exact aD hc hR rfl rfl
theorem aJd:aB PP 123:=zK
theorem aZt {x y:Rat}(h0:y≠0)(hx:sz x≤2^29)(hy:sz y≤2^29):Pure PP 123 [.string (aA x),.string (aA y)] (.tuple #[.string (aA (x/y)),.int .i64 0]):=by
 have h1:=aKk h0 hx hy
 generalize aA (x/y)=r at h1 ⊢;generalize aA x=sx at h1 ⊢;generalize aA y=sy at h1 ⊢;refine aG mixed tok [.s (.v sx),.s (.v sy)] Tryz.func123 rfl rfl (lbl rfl) rfl fun c hc hR=>?_
 refine zN hc ?_;cbv;refine zC hc (.t [.s (.v r),.i .i64 (.l 0)]) h1 uO ?_;cbv;exact aD hc hR rfl rfl
end Go.Ai
namespace Go.Ai
open Go Go.Proofs Go.Num
theorem aJf:aB PP 179:=zK
theorem aTp {x y:Rat}(hx:sz x≤2^29)(hy:sz y≤2^29):Pure PP 179 [.string (aA x),.string (aA y)] (.string (aA (x+y))):=by
 have h1:=aBr hx hy
 generalize aA (x+y)=r at h1 ⊢;generalize aA x=sx at h1 ⊢;generalize aA y=sy at h1 ⊢;refine aG mixed tok [.s (.v sx),.s (.v sy)] Tryz.func179 rfl rfl (lbl rfl) rfl fun c hc hR=>?_
 refine zN hc ?_;cbv;refine zC hc (.t [.s (.v r),.i .i64 (.l 0)]) h1 mD ?_;cbv;exact aD hc hR rfl rfl
theorem xA:aB PP 141:=zK
theorem aI1 {x y:Rat}(hx:sz x≤2^29)(hy:sz y≤2^29):Pure PP 141 [.string (aA x),.string (aA y)] (.string (aA (x - y))):=by
 have h1:=bCv hx hy
 generalize aA (x - y)=r at h1 ⊢;generalize aA x=sx at h1 ⊢;generalize aA y=sy at h1 ⊢;refine aG mixed tok [.s (.v sx),.s (.v sy)] Tryz.func141 rfl rfl (lbl rfl) rfl fun c hc hR=>?_
 refine zN hc ?_;cbv;refine zC hc (.t [.s (.v r),.i .i64 (.l 0)]) h1 aP3 ?_;cbv;exact aD hc hR rfl rfl
theorem tM:aB PP 178:=zK
theorem aF1 {x y:Rat}(hx:sz x≤2^29)(hy:sz y≤2^29):Pure PP 178 [.string (aA x),.string (aA y)] (.string (aA (x*y))):=by
 have h1:=aH5 hx hy
 generalize aA (x*y)=r at h1 ⊢;generalize aA x=sx at h1 ⊢;generalize aA y=sy at h1 ⊢;refine aG mixed tok [.s (.v sx),.s (.v sy)] Tryz.func178 rfl rfl (lbl rfl) rfl fun c hc hR=>?_
 refine zN hc ?_;cbv;refine zC hc (.t [.s (.v r),.i .i64 (.l 0)]) h1 qV ?_;cbv;exact aD hc hR rfl rfl
theorem aXv:aB PP 194:=zK
theorem bFh {x y:Rat}(h0:y≠0)(hx:sz x≤2^29)(hy:sz y≤2^29):Pure PP 194 [.string (aA x),.string (aA y)] (.string (aA (x/y))):=by
 have h1:=aZt h0 hx hy
 generalize aA (x/y)=r at h1 ⊢;generalize aA x=sx at h1 ⊢;generalize aA y=sy at h1 ⊢;refine aG mixed tok [.s (.v sx),.s (.v sy)] Tryz.func194 rfl rfl (lbl rfl) rfl fun c hc hR=>?_
 refine zN hc ?_;cbv;refine zC hc (.t [.s (.v r),.i .i64 (.l 0)]) h1 aJd ?_;cbv;exact aD hc hR rfl rfl
theorem fQ:aA 0=⟨#[48]⟩:=by
 have:aA 0=aU 0:=rfl
 rw[this,show(0:Int)=((0:Nat):Int) from rfl,jX,bAg]
theorem sz0:sz 0≤2^29:=lTr (fE 0) (by rw[fQ];decide)
theorem aEw:aB PP 140:=zK
theorem aTu {x:Rat}(hx:sz x≤2^29):Pure PP 140 [.string (aA x)] (.int .i64 (kE x 0)):=by
 have h1:=aBs (y:=0) hx sz0
 rw[fQ]at h1;generalize kE x 0=r at h1 ⊢;generalize aA x=sx at h1 ⊢;refine aG mixed tok [.s (.v sx)] Tryz.func140 rfl rfl (lbl rfl) rfl fun c hc hR=>?_
 refine zN hc ?_;cbv;refine zC hc (.t [.i .i64 (.v r),.i .i64 (.l 0)]) h1 tL ?_;cbv;exact aD hc hR rfl rfl
def kR (a b c:ByteArray):Value:=.agg #[.string a,.string b,.string c]
abbrev iL (a b c:ByteArray):AV:=.g [.s (.v a),.s (.v b),.s (.v c)]
theorem aLu:aB PP 195:=zK
theorem vof (a b d:ByteArray):Pure PP 195 [kR a b d] (kR a b d):=by
 unfold kR;refine aG mixed tok [.g [.s (.v a),.s (.v b),.s (.v d)]] Tryz.func195 rfl rfl (lbl rfl) rfl fun c hc hR=>?_
 refine zN hc ?_;cbv;exact aD hc hR rfl rfl
theorem qY:aB PP 144:=zK
theorem aCd (a b d:ByteArray):Pure PP 144 [kR a b d] (kR a b d):=by
 unfold kR;refine aG mixed tok [.g [.s (.v a),.s (.v b),.s (.v d)]] Tryz.func144 rfl rfl (lbl rfl) rfl fun c hc hR=>?_
 refine zN hc ?_;cbv;exact aD hc hR rfl rfl
theorem aEx:aB PP 177:=zK
theorem bAl {g:Nat}(cg:aB PP g){a b d a' b' d' r1 r2 r3:ByteArray}(h1:Pure PP g [.string a,.string a'] (.string r1))(h2:Pure PP g [.string b,.string b'] (.string r2))(h3:Pure PP g [.string d,.string d'] (.string r3)):
  Pure PP 177 [.func (.func g) #[] #[],kR a b d,kR a' b' d'] (kR r1 r2 r3):=by
 have k1:=aCd a b d
 have k2:=aCd a' b' d'
 have k3:=vof r1 r2 r3
 unfold kR at k1 k2 k3 ⊢;refine aG mixed tok [.f (.func g) [] [],.g [.s (.v a),.s (.v b),.s (.v d)],.g [.s (.v a'),.s (.v b'),.s (.v d')]] Tryz.func177 rfl rfl (lbl rfl) rfl fun c hc hR=>?_
 refine zN hc ?_;cbv;refine zD hc (iL a b d) k1 qY ?_;cbv;refine zD hc (iL a' b' d') k2 qY ?_;cbv;refine zE hc ?_;cbv;refine aW 4 (fun p hp=>?_);refine hp _ _ _ ?_;refine zN hc ?_;cbv;refine zD hc (.s (.v r1)) h1 cg ?_;cbv;refine zE hc ?_;cbv;refine hp _ _ _ ?_;refine zN hc ?_;cbv;refine zD hc (.s (.v r2)) h2 cg ?_;cbv;refine zE hc ?_;cbv;refine hp _ _ _ ?_;refine zN hc ?_;cbv;refine zD hc (.s (.v r3)) h3 cg ?_;cbv;refine zE hc ?_;cbv;refine hp _ _ _ ?_;refine zN hc ?_;cbv;refine zC hc (iL r1 r2 r3) k3 aLu ?_;cbv;exact aD hc hR rfl rfl
structure V3 where
 x:Rat
 y:Rat
 z:Rat
deriving DecidableEq
namespace V3
def add (u v:V3):V3:=⟨u.x+v.x,u.y+v.y,u.z+v.z⟩
def sub (u v:V3):V3:=⟨u.x - v.x,u.y - v.y,u.z - v.z⟩
def scale (u:V3)(s:Rat):V3:=⟨u.x*s,u.y*s,u.z*s⟩
def dot (u v:V3):Rat:=u.x*v.x+u.y*v.y+u.z*v.z
def cross (u v:V3):V3:=⟨u.y*v.z - u.z*v.y,u.z*v.x - u.x*v.z,u.x*v.y - u.y*v.x⟩
def le (u:V3)(k:Nat):Prop:=sz u.x≤k∧sz u.y≤k∧sz u.z≤k
theorem le.mono {u:V3}{k m:Nat}(h:u.le k)(hm:k≤m):u.le m:=⟨lTr h.1 hm,lTr h.2.1 hm,lTr h.2.2 hm⟩
theorem le_add {u v:V3}{k m:Nat}(h:u.le k)(h':v.le m):(u.add v).le (k+m+1):=by
 obtain⟨a,b,c⟩:=h;obtain⟨a',b',c'⟩:=h';exact⟨lTr (xY _ _) (by omega),lTr (xY _ _) (by omega),lTr (xY _ _) (by omega)⟩
theorem le_sub {u v:V3}{k m:Nat}(h:u.le k)(h':v.le m):(u.sub v).le (k+m+1):=by
 obtain⟨a,b,c⟩:=h;obtain⟨a',b',c'⟩:=h';exact⟨lTr (aB6 _ _) (by omega),lTr (aB6 _ _) (by omega),lTr (aB6 _ _) (by omega)⟩
theorem le_scale {u:V3}{k m:Nat}{s:Rat}(h:u.le k)(h':sz s≤m):(u.scale s).le (k+m):=by
 obtain⟨a,b,c⟩:=h;exact⟨lTr (yA _ _) (by omega),lTr (yA _ _) (by omega),lTr (yA _ _) (by omega)⟩
theorem sz_mm {a b:Rat}{k m:Nat}(h:sz a≤k)(h':sz b≤m):sz (a*b)≤k+m:=lTr (yA _ _) (by omega)
theorem sz_aa {a b:Rat}{k m:Nat}(h:sz a≤k)(h':sz b≤m):sz (a+b)≤k+m+1:=lTr (xY _ _) (by omega)
theorem sz_ss {a b:Rat}{k m:Nat}(h:sz a≤k)(h':sz b≤m):sz (a - b)≤k+m+1:=lTr (aB6 _ _) (by omega)
theorem sz_dot {u v:V3}{k m:Nat}(h:u.le k)(h':v.le m):sz (u.dot v)≤3*(k+m)+2:=by
 have:=sz_aa (sz_aa (sz_mm h.1 h'.1) (sz_mm h.2.1 h'.2.1)) (sz_mm h.2.2 h'.2.2)
 exact lTr this (by omega)
theorem le_cross {u v:V3}{k m:Nat}(h:u.le k)(h':v.le m):(u.cross v).le (2*(k+m)+1):=
 ⟨lTr (sz_ss (sz_mm h.2.1 h'.2.2) (sz_mm h.2.2 h'.2.1)) (by omega),lTr (sz_ss (sz_mm h.2.2 h'.1) (sz_mm h.1 h'.2.2)) (by omega),lTr (sz_ss (sz_mm h.1 h'.2.1) (sz_mm h.2.1 h'.1)) (by omega)⟩
end V3
def fS (u:V3):Value:=kR (aA u.x) (aA u.y) (aA u.z)
theorem aI2 {u v:V3}(hu:u.le (2^29))(hv:v.le (2^29)):Pure PP 177 [.func (.func 178) #[] #[],fS u,fS v] (kR (aA (u.x*v.x)) (aA (u.y*v.y)) (aA (u.z*v.z))):=
 bAl tM (aF1 hu.1 hv.1) (aF1 hu.2.1 hv.2.1) (aF1 hu.2.2 hv.2.2)
theorem aTv {u v:V3}(hu:u.le (2^29))(hv:v.le (2^29)):Pure PP 177 [.func (.func 179) #[] #[],fS u,fS v] (fS (u.add v)):=
 bAl aJf (aTp hu.1 hv.1) (aTp hu.2.1 hv.2.1) (aTp hu.2.2 hv.2.2)
theorem aTw {u v:V3}(hu:u.le (2^29))(hv:v.le (2^29)):Pure PP 177 [.func (.func 141) #[] #[],fS u,fS v] (fS (u.sub v)):=
 bAl xA (aI1 hu.1 hv.1) (aI1 hu.2.1 hv.2.1) (aI1 hu.2.2 hv.2.2)
theorem aGm:aB PP 165:=zK
theorem aTt {u:V3}{s:Rat}(hu:u.le (2^29))(hs:sz s≤2^29):Pure PP 165 [fS u,.string (aA s)] (fS (u.scale s)):=by
 have h1:=vof (aA s) (aA s) (aA s)
 have h2:=aI2 (v:=⟨s,s,s⟩) hu ⟨hs,hs,hs⟩
 unfold V3.scale fS kR at *
 dsimp only at h2 ⊢
 generalize aA (u.x*s)=r1 at h2 ⊢;generalize aA (u.y*s)=r2 at h2 ⊢;generalize aA (u.z*s)=r3 at h2 ⊢;generalize aA u.x=a at h2 ⊢;generalize aA u.y=b at h2 ⊢;generalize aA u.z=d at h2 ⊢;generalize aA s=t at h1 h2 ⊢;refine aG mixed tok [iL a b d,.s (.v t)] Tryz.func165 rfl rfl (lbl rfl) rfl fun c hc hR=>?_
 refine zN hc ?_;cbv;refine zD hc (iL t t t) h1 aLu ?_;cbv;refine zD hc (iL r1 r2 r3) h2 aEx ?_;cbv;refine zE hc ?_;cbv;exact aD hc hR rfl rfl
theorem aJg:aB PP 139:=zK
theorem bAk {u v:V3}(hu:u.le (2^26))(hv:v.le (2^26)):Pure PP 139 [fS u,fS v] (.string (aA (u.dot v))):=by
 have h1:=aI2 (hu.mono (by decide)) (hv.mono (by decide))
 have m1:=V3.sz_mm hu.1 hv.1
 have m2:=V3.sz_mm hu.2.1 hv.2.1
 have m3:=V3.sz_mm hu.2.2 hv.2.2
 have h2:=aTp (lTr m1 (by decide)) (lTr m2 (by decide))
 have h3:=aTp (lTr (V3.sz_aa m1 m2) (by decide)) (lTr m3 (by decide))
 unfold V3.dot fS kR at *;generalize aA (u.x*v.x+u.y*v.y+u.z*v.z)=r at h3 ⊢;generalize aA (u.x*v.x+u.y*v.y)=q at h2 h3;generalize aA (u.x*v.x)=r1 at h1 h2;generalize aA (u.y*v.y)=r2 at h1 h2;generalize aA (u.z*v.z)=r3 at h1 h3;generalize aA u.x=a at h1 ⊢;generalize aA u.y=b at h1 ⊢;generalize aA u.z=d at h1 ⊢;generalize aA v.x=a' at h1 ⊢;generalize aA v.y=b' at h1 ⊢;generalize aA v.z=d' at h1 ⊢;refine aG mixed tok [iL a b d,iL a' b' d'] Tryz.func139 rfl rfl (lbl rfl) rfl fun c hc hR=>?_
 refine zN hc ?_;cbv;refine zC hc (iL r1 r2 r3) h1 aEx ?_;cbv;refine zD hc (.s (.v q)) h2 aJf ?_;cbv;refine zD hc (.s (.v r)) h3 aJf ?_;cbv;refine zE hc ?_;cbv;exact aD hc hR rfl rfl
theorem pR:(Obl.nz (.l 3)).ok:=by show(3:Int)≠0;decide
theorem aP8:aB PP 201:=zK
theorem bAj {u v:V3}(hu:u.le (2^27))(hv:v.le (2^27)):Pure PP 201 [fS u,fS v] (fS (u.cross v)):=by
 have k1:=aCd (aA u.x) (aA u.y) (aA u.z)
 have k2:=aCd (aA v.x) (aA v.y) (aA v.z)
 have k3:=vof (aA (u.y*v.z - u.z*v.y)) (aA (u.z*v.x - u.x*v.z)) (aA (u.x*v.y - u.y*v.x))
 have big:2^27≤2^29:=by decide
 have hu':=hu.mono big
 have hv':=hv.mono big
 have h1:=aF1 hu'.2.1 hv'.2.2
 have h2:=aF1 hu'.2.2 hv'.2.1
 have h3:=aI1 (lTr (V3.sz_mm hu.2.1 hv.2.2) (by decide)) (lTr (V3.sz_mm hu.2.2 hv.2.1) (by decide))
 have h4:=aF1 hu'.2.2 hv'.1
 have h5:=aF1 hu'.1 hv'.2.2
 have h6:=aI1 (lTr (V3.sz_mm hu.2.2 hv.1) (by decide)) (lTr (V3.sz_mm hu.1 hv.2.2) (by decide))
 have h7:=aF1 hu'.1 hv'.2.1
 have h8:=aF1 hu'.2.1 hv'.1
 have h9:=aI1 (lTr (V3.sz_mm hu.1 hv.2.1) (by decide)) (lTr (V3.sz_mm hu.2.1 hv.1) (by decide))
 unfold V3.cross fS kR at *
 dsimp only at k3 ⊢
 generalize aA (u.y*v.z - u.z*v.y)=r1 at h3 k3 ⊢;generalize aA (u.z*v.x - u.x*v.z)=r2 at h6 k3 ⊢;generalize aA (u.x*v.y - u.y*v.x)=r3 at h9 k3 ⊢;generalize aA (u.y*v.z)=p1 at h1 h3;generalize aA (u.z*v.y)=p2 at h2 h3;generalize aA (u.z*v.x)=p3 at h4 h6;generalize aA (u.x*v.z)=p4 at h5 h6;generalize aA (u.x*v.y)=p5 at h7 h9;generalize aA (u.y*v.x)=p6 at h8 h9;generalize aA u.x=a at *;generalize aA u.y=b at *;generalize aA u.z=d at *;generalize aA v.x=a' at *;generalize aA v.y=b' at *;generalize aA v.z=d' at *;refine aG mixed tok [iL a b d,iL a' b' d'] Tryz.func201 rfl rfl (lbl rfl) rfl fun c hc hR=>?_
 refine zN hc ?_;cbv;refine zD hc (iL a b d) k1 qY ?_;cbv;refine zD hc (iL a' b' d') k2 qY ?_;cbv;refine zE hc ?_;cbv;refine aW 4 (fun p hp=>?_);refine hp _ _ _ ?_;refine zN hc ?_;cbv;refine aQ hc ⟨pR,pR,trivial⟩ ?_;refine zD hc (.s (.v p1)) h1 tM ?_;cbv;refine zD hc (.s (.v p2)) h2 tM ?_;cbv;refine zD hc (.s (.v r1)) h3 xA ?_;cbv;refine zE hc ?_;cbv;refine hp _ _ _ ?_;refine zN hc ?_;cbv;refine aQ hc ⟨pR,pR,trivial⟩ ?_;refine zD hc (.s (.v p3)) h4 tM ?_;cbv;refine zD hc (.s (.v p4)) h5 tM ?_;cbv;refine zD hc (.s (.v r2)) h6 xA ?_;cbv;refine zE hc ?_;cbv;refine hp _ _ _ ?_;refine zN hc ?_;cbv;refine aQ hc ⟨pR,pR,trivial⟩ ?_;refine zD hc (.s (.v p5)) h7 tM ?_;cbv;refine zD hc (.s (.v p6)) h8 tM ?_;cbv;refine zD hc (.s (.v r3)) h9 xA ?_;cbv;refine zE hc ?_;cbv;refine hp _ _ _ ?_;refine zN hc ?_;cbv;refine zC hc (iL r1 r2 r3) k3 aLu ?_;cbv;exact aD hc hR rfl rfl
structure Pl where
 n:V3
 a:Rat
def nF (p:Pl):Value:=.agg #[.string (aA p.n.x),.string (aA p.n.y),.string (aA p.n.z),.string (aA p.a)]
def Pl.height (p:Pl)(v:V3):Rat:=p.n.dot v - p.a
theorem oU {p:Pl}{v:V3}{k m l:Nat}(h:p.n.le k)(h':v.le m)(hl:sz p.a≤l):sz (p.height v)≤3*(k+m)+l+3:=lTr (V3.sz_ss (V3.sz_dot h h') hl) (by omega)
theorem wZ:aB PP 193:=zK
theorem aF0 {p:Pl}{v:V3}(hn:p.n.le (2^26))(hv:v.le (2^26))(ha:sz p.a≤2^29):Pure PP 193 [nF p,fS v] (.string (aA (p.height v))):=by
 have h1:=bAk hn hv
 have h2:=aI1 (lTr (V3.sz_dot hn hv) (by decide)) ha
 unfold Pl.height nF fS kR at *;generalize aA (p.n.dot v - p.a)=r at h2 ⊢;generalize aA (p.n.dot v)=q at h1 h2;generalize aA p.a=t at h2 ⊢;generalize aA p.n.x=a at h1 ⊢;generalize aA p.n.y=b at h1 ⊢;generalize aA p.n.z=d at h1 ⊢;generalize aA v.x=a' at h1 ⊢;generalize aA v.y=b' at h1 ⊢;generalize aA v.z=d' at h1 ⊢;refine aG mixed tok [.g [.s (.v a),.s (.v b),.s (.v d),.s (.v t)],iL a' b' d'] Tryz.func193 rfl rfl (lbl rfl) rfl fun c hc hR=>?_
 refine zN hc ?_;cbv;refine zD hc (.s (.v q)) h1 aJg ?_;cbv;refine zD hc (.s (.v r)) h2 xA ?_;cbv;refine zE hc ?_;cbv;exact aD hc hR rfl rfl
def iK (s:ByteArray):Bool:=(nU s.data.toList).isSome
theorem sI (q:Rat):iK (aA q)=true:=by unfold iK;rw[cT];rfl
theorem eI:aB PP 101:=zK
theorem aTo {a b d:ByteArray}(ha:a.size≤2^31)(hb:b.size≤2^31)(hd:d.size≤2^31):Pure PP 101 [kR a b d] (.bool (iK a&&iK b&&iK d)):=by
 have k0:=aCd a b d
 have k1:=fC a ha
 have k2:=fC b hb
 have k3:=fC d hd
 change Pure _ _ _ (.bool (iK a))at k1
 change Pure _ _ _ (.bool (iK b))at k2
 change Pure _ _ _ (.bool (iK d))at k3
 unfold kR at *;generalize iK a=x at k1 ⊢;generalize iK b=y at k2 ⊢;generalize iK d=z at k3 ⊢;refine aG mixed tok [iL a b d] Tryz.func101 rfl rfl (lbl rfl) rfl fun c hc hR=>?_
 refine zN hc ?_;cbv;refine zC hc (iL a b d) k0 qY ?_;cbv;refine aW 4 (fun p hp=>?_);refine hp _ _ _ ?_;refine zN hc ?_;cbv;cases x with
 | false=>
  refine zC hc (.b (.l false)) k1 bW ?_;cbv;exact aD hc hR rfl rfl
 | true=>
 refine zC hc (.b (.l true)) k1 bW ?_;cbv;refine hp _ _ _ ?_;refine zN hc ?_;cbv;cases y with
 | false=>
  refine zC hc (.b (.l false)) k2 bW ?_;cbv;exact aD hc hR rfl rfl
 | true=>
 refine zC hc (.b (.l true)) k2 bW ?_;cbv;refine hp _ _ _ ?_;refine zN hc ?_;cbv;cases z with
 | false=>
  refine zC hc (.b (.l false)) k3 bW ?_;cbv;exact aD hc hR rfl rfl
 | true=>
 refine zC hc (.b (.l true)) k3 bW ?_;cbv;refine hp _ _ _ ?_;refine zN hc ?_;cbv;exact aD hc hR rfl rfl
theorem dE {u:V3}(hu:u.le (2^29)):Pure PP 101 [fS u] (.bool true):=by
 have:=aTo (lTr (bH u.x) (by have:=hu.1;omega)) (lTr (bH u.y) (by have:=hu.2.1;omega)) (lTr (bH u.z) (by have:=hu.2.2;omega))
 rw[sI,sI,sI]at this;exact this
end Go.Ai
