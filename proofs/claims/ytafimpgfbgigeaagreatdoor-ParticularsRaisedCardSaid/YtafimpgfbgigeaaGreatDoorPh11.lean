/- Part 12: lemmas for the particulars laws -/
import Derived.Shelf.Strings.Builder1
import Derived.Lib.Walk
import Derived.Lib.ItoaMem
import Derived.Lib.AppendIntMem
import Derived.Lib.OthersKept
import Derived.WalkKit
import Derived.BigCall
import Derived.BigGuard
import Derived.RangeFuncNested
import Derived.RangeFuncBound
import Derived.RangeFuncCalls
import Derived.RangeFuncLeaves
import Derived.RangeFuncBox
import Derived.Shelf.Abstract
import Derived.Shelf.RegionOpen
import Derived.OwnWalkIn
import Derived.TacticsInMore
import Derived.LoopNIn
import Derived.LoopIn
import Derived.Lib.Hide
import Derived.Test.YtafimpgfbgigeaaGreatDoorProg
import Derived.Test.YtafimpgfbgigeaaGreatDoorPh10
set_option linter.all false
namespace Go.Proofs
open Go.Shelf Go.RowKit Go.Sort Go.Lib
set_option maxHeartbeats 1000000 in
set_option maxRecDepth 100000 in
theorem Tryz.cc_used (b:Nat)(w:World)(h0:w.cell? ⟨b,0,none⟩=some (.pointer (some ⟨b,0,none⟩))):
  Calls Tryz.prog 320 #[.pointer (some ⟨b,0,none⟩)] w λe w'=>e=.returned (.tuple #[])/\w'=w:=by
 obtain⟨j,hj,_⟩:=Option.map_eq_some_iff.1 (Tryz.Builder_Extra_169.toX72.sizeBuilder);have u1:=run_underlying (P:=Tryz.prog) Tryz.underlying337;have u2:=run_underlying (P:=Tryz.prog) Tryz.underlying335;go_enter Tryz.func320,Tryz.ntmps320;go_wp2;rw[Lib.run_neq_ptr_same w _ Tryz.underlying335 hj];go_wp2;go_end0;exact⟨rfl,rfl⟩
set_option maxHeartbeats 1000000 in
set_option maxRecDepth 100000 in
theorem Tryz.cc_fresh (b:Nat)(w:World)(h0:w.cell? ⟨b,0,none⟩=some (.pointer none))(hsh:w.shape? b=some (337,2))(hfz:w.frozen? ⟨b,0,none⟩=false):
  Calls Tryz.prog 320 #[.pointer (some ⟨b,0,none⟩)] w λe w'=>e=.returned (.tuple #[])/\w'=w.setCell ⟨b,0,none⟩ (.pointer (some ⟨b,0,none⟩)):=by
 obtain⟨j,hj,hjs⟩:=Option.map_eq_some_iff.1 (Tryz.Builder_Extra_169.toX72.sizeBuilder);have u1:=run_underlying (P:=Tryz.prog) Tryz.underlying337;have u2:=run_underlying (P:=Tryz.prog) Tryz.underlying335;go_enter Tryz.func320,Tryz.ntmps320;go_wp2;rw[Lib.run_to_unsafe w ⟨b,0,none⟩ Tryz.underlying335 Tryz.underlying374 hj (by rw[hjs];decide) hsh (Nat.zero_lt_succ 1)];simp only[Result.andThen];rw[Oper.upon_value];go_wp2;rw[run_callFunc_extern Tryz.func337 zG zG zG (e:=Extern.AbiNoEscape.same) zG];rw[Lib.run_noEscape];simp only[Result.andThen];rw[Oper.upon_value];go_wp2;rw[Lib.run_from_unsafe w ⟨b,0,none⟩ Tryz.underlying374 Tryz.underlying335 hj hsh (Tryz.Builder_Extra_169.toX72.liesBuilder)];simp only[Result.andThen];rw[Oper.upon_value];go_wp2;go_end0;exact⟨rfl,rfl⟩
theorem Tryz.cc (B b:Nat)(bs:List Value)(w:World)(h:Lib.IsBuilder 337 5 B b bs w):
  Calls Tryz.prog 320 #[.pointer (some ⟨b,0,none⟩)] w λe w'=>e=.returned (.tuple #[])/\(Lib.BuilderAt 337 5 B b (.pointer (some ⟨b,0,none⟩)) bs w'/\Below B w w'/\Lib.OthersKept 5 (some b) w w'):=by
 rcases h with h | h
 ·refine(Tryz.cc_fresh b w h.cell0 h.shape h.frozen0).mono ?_;rintro e w' ⟨rfl,rfl⟩;exact⟨rfl,h.used _,(Below.refl B w).setCell (p:=⟨b,0,none⟩) h.1 _,(Lib.OthersKept.refl _ _ w).setCell ⟨b,0,none⟩ rfl _⟩
 ·refine(Tryz.cc_used b w h.cell0).mono ?_;rintro e w' ⟨rfl,rfl⟩;exact⟨rfl,h,Below.refl B _,Lib.OthersKept.refl _ _ _⟩
set_option maxHeartbeats 2000000 in
set_option maxRecDepth 100000 in
theorem Tryz.writeS (B b:Nat)(bs:List Value)(s:ByteArray)(w:World)(h:Lib.IsBuilder 337 5 B b bs w)(hlen:bs.length+s.size<=140737488355328)(hBw:B<=w.heap.size):
  Calls Tryz.prog 302 #[.pointer (some ⟨b,0,none⟩),.string s] w λe w'=>e=.returned (.tuple #[.int .i64 s.size,.nilIface])/\(Lib.BuilderAt 337 5 B b (.pointer (some ⟨b,0,none⟩)) (bs++Lib.strCells s) w'/\Below B w w'/\Lib.OthersKept 5 (some b) w w'):=by
 obtain⟨i0,hi,hz0,hz1,hz2⟩:=info_parts (Tryz.Builder_Extra_169.infoByte);have u1:=run_underlying (P:=Tryz.prog) Tryz.underlying337;have u2:=run_underlying (P:=Tryz.prog) Tryz.underlying335;have u5:=run_underlying (P:=Tryz.prog) Tryz.underlying5;go_enter Tryz.func302,Tryz.ntmps302;go_wp2_with (go_at_call 320;refine(Tryz.cc B b bs _ h).mono ?_);rintro e w1 ⟨rfl,h1,hb1,hk1⟩;obtain⟨hB,v,hbk,fG,hne⟩:=h1;have c0:w1.cell? ⟨b,0,none⟩=some (.pointer (some ⟨b,0,none⟩)):=by rw[Lib.cell_of_heap hbk];rfl
 have c1:w1.cell? ⟨b,1,none⟩=some v:=by rw[Lib.cell_of_heap hbk];rfl
 go_wp2_with (at_builtin;refine Lib.wpList_append_own_string _ rfl _ _ 210 9 rfl B 5 i0 Tryz.underlying210 Tryz.underlying9 hi hz0 hz1 hz2 _ _ _ rfl fG s rfl ?c3 ?c4 ?c5 ?_)
 case c3=>unfold maxLen;omega
 case c4=>omega
 case c5=>have:=hb1.size;omega
 intro v' w2 aYz aTt _;have hlt:b<w1.heap.size:=by
  rcases Nat.lt_or_ge b w1.heap.size with h' | h'
  ·exact h'
  ·simp[Array.getElem?_eq_none h']at hbk
 have hb2:w2.heap[b]?=some (.cells #[.pointer (some ⟨b,0,none⟩),v] 337 (0,0)):=by
  rw[aTt.block b hlt (λe=>hne e.symm)];exact hbk
 have d0:w2.cell? ⟨b,0,none⟩=some (.pointer (some ⟨b,0,none⟩)):=by rw[Lib.cell_of_heap hb2];rfl
 have d1:w2.cell? ⟨b,1,none⟩=some v:=by rw[Lib.cell_of_heap hb2];rfl
 have f1:w2.frozen? ⟨b,1,none⟩=false:=Lib.frozen_of_heap hb2 1
 obtain⟨ao,n',cap,rfl⟩:∃ao n' cap,v'=.slice ao n' cap:=by
  rcases aYz.2 with⟨hv,_⟩ | ⟨g,cap,cur,hv,_⟩
  ·exact⟨_,_,_,hv⟩
  ·exact⟨_,_,_,hv⟩
 go_wp2
 go_ret2
 refine⟨rfl,?_,?_,(hk1.grown aTt ?_).setCell ⟨b,1,none⟩ rfl _⟩
 ·exact Lib.BuilderAt.put (T:=337) (e:=5) hB hb2 (bs':=bs++Lib.strCells s) (by simpa[Lib.strCells_length]using aYz) zV
 ·exact(hb1.grown aTt (by have:=hb1.size;omega) (λk hk=>(fG.lt k hk).1)).setCell (p:=⟨b,1,none⟩) hB _
 ·intro g hg;rcases fG.2 with⟨rfl,_⟩ | ⟨g',aU,cur,rfl,_,hgg,_⟩
  ·simp[Value.ownBlock]at hg
  ·simp[Value.ownBlock]at hg;subst hg;exact⟨cur,_,hgg⟩
theorem Tryz.fin0 (w:World)(o:Obj)(dk:Array UInt8)(k:Nat):∃os,(putRow (λ(b:UInt8)=>Value.int .u8 (b.toNat:Int)) (w.alloc o) w.heap.size 0 dk).drewN k=grow (w.drewN k) os:=by
 rw[alloc_eq_grow];obtain⟨os',_,e⟩:=putRow_grow_new (λ(b:UInt8)=>Value.int .u8 (b.toNat:Int)) w #[o] w.heap.size 0 dk (lRf _);exact⟨os',by rw[e];rfl⟩
set_option maxHeartbeats 6400000 in
set_option maxRecDepth 100000 in
theorem Tryz.ifmtU (u:Nat)(aMo:u<18446744073709551616)(w:World)(aEr:Lib.TabIs Tryz.prog w "internal/strconv.uint64pow10" .u64 Lib.pow10Tab):
  Calls Tryz.prog 319 #[.int .u64 u,.int .i64 10] w λe w'=>e=.returned (.string ⟨(Lib.decDigits u).toArray⟩)/\∃k os,w'=grow (w.drewN k) os:=by
 by_cases hs:u<100
 ·go_enter Tryz.func319,Tryz.ntmps319
  go_wp2_with (go_at_call 314;refine(Tryz.internal_strconv_small u hs _).mono ?_;rintro e w' ⟨rfl,rfl⟩)
  go_ret
  exact⟨rfl,0,#[],by simp[World.drewN_zero]⟩
 ·have hu1:1<=u:=zW
  have bI6:Lib.nDigits u<=20:=by have:=Lib.numDigits_eq u hu1 aMo;split at this<;>omega
  have hb3:Lib.nDigits u<=24:=zW
  have hal:Tryz.prog.arrayLen 354=24:=by simp[Program.arrayLen,Tryz.underlying354]
  have aXc:∀W,(Instr.sliceAt 354 (.pointer (some ⟨w.heap.size,0,none⟩)) none (some (.int .i64 (Lib.nDigits u:Int))) none).run Tryz.prog W=.ok (.slice (some ⟨w.heap.size,0,none⟩) (Lib.nDigits u) 24) W:=λW=>by
   rw[run_sliceAt_array_h W 354 ⟨w.heap.size,0,none⟩ (by simp[Program.arrayLen,Program.elem,Tryz.underlying354]) .i64 (Lib.nDigits u:Int) zW (by rw[hal];omega)];go_simp
  have hH0:Holds (λ(b:UInt8)=>Value.int .u8 (b.toNat:Int)) (w.alloc (.cells Lib.zeros24 354)) w.heap.size 0 (Array.replicate (Lib.nDigits u) (0:UInt8)):=λj hj=>by
   rw[Array.size_replicate]at hj;rw[World.cell?_alloc_new,Nat.zero_add,zeros24_at _ zW,getElem!_pos _ j (by rw[Array.size_replicate];exact hj)];simp
  have bEs:=Tryz.internal_strconv_formatBase10 w.heap.size 0 24 u (Array.replicate (Lib.nDigits u) 0) (w.alloc (.cells Lib.zeros24 354)) hH0 (by rw[Array.size_replicate];exact Lib.lt_pow_nDigits u) aMo (by rw[Array.size_replicate];omega)
  rw[Array.size_replicate]at bEs;have HH0:=Lib.hid hH0;clear hH0 hal;go_enter Tryz.func319,Tryz.ntmps319;go_wp2_with (first
   | (go_at_call 315;refine(Tryz.internal_strconv_numDigits u hu1 aMo _ (Lib.tabIs_alloc aEr _)).mono ?_;rintro e w' ⟨rfl,rfl⟩))
  go_at_call 316
  refine bEs.mono ?_;rintro e w' ⟨rfl,k,v',dk,rfl,hF⟩;have hcv:(convert 210 9 (.slice (some ⟨w.heap.size,0,none⟩) (Lib.nDigits u) 24)).run Tryz.prog ((putRow (λ(b:UInt8)=>Value.int .u8 (b.toNat:Int)) (w.alloc (.cells Lib.zeros24 354)) w.heap.size 0 dk).drewN k)=.ok (.string ⟨(Lib.decDigits u).toArray⟩) ((putRow (λ(b:UInt8)=>Value.int .u8 (b.toNat:Int)) (w.alloc (.cells Lib.zeros24 354)) w.heap.size 0 dk).drewN k):=by
   have h:=run_convert_bytes_back (P:=Tryz.prog) ((putRow (λ(b:UInt8)=>Value.int .u8 (b.toNat:Int)) (w.alloc (.cells Lib.zeros24 354)) w.heap.size 0 dk).drewN k) 210 9 5 ⟨w.heap.size,0,none⟩ 24 (Lib.decDigits u) Tryz.underlying210 Tryz.underlying5 Tryz.underlying9 (λj hj=>by
    rw[Lib.row_is_numeral hF j hj,Lib.add_plain,World.cell?_drewN];exact cell?_putRow (λ(b:UInt8)=>Value.int .u8 (b.toNat:Int)) _ w.heap.size 0 _ dk HH0.out (by rw[hF.size,Array.size_replicate]) j (by rw[hF.size];rw[Lib.decDigits_length]at hj;exact hj))
   rw[Lib.decDigits_length]at h;exact h
  go_wp2
  go_ret
  obtain⟨os,eo⟩:=Tryz.fin0 w (.cells Lib.zeros24 354) dk k;exact⟨rfl,k,os,eo⟩
theorem Tryz.fmtU (u:Nat)(aMo:u<18446744073709551616)(w:World)(aEr:Lib.TabIs Tryz.prog w "internal/strconv.uint64pow10" .u64 Lib.pow10Tab):
  Calls Tryz.prog 301 #[.int .u64 u,.int .i64 10] w λe w'=>e=.returned (.string ⟨(Lib.decDigits u).toArray⟩)/\Below w.heap.size w w':=by
 go_enter Tryz.func301,Tryz.ntmps301
 go_wp2_with (go_at_call 319;refine(Tryz.ifmtU u aMo _ aEr).mono ?_;rintro e w' ⟨rfl,k,os,rfl⟩)
 go_ret
 exact⟨rfl,Lib.below_grow _ _ (lRf _) _ _⟩
end Go.Proofs
namespace Go.Proofs
open Go.RowKit Go.Shelf
attribute [local go_sem] Oper.semAt_some
def Tryz.Kb (n₀ bb:Nat)(A B:World):Prop:=Below n₀ A B/\∀k c t fz,A.heap[k]?=some (.cells c t fz)->t≠5->k≠bb->B.heap[k]?=some (.cells c t fz)
theorem Tryz.Kb.refl (n₀ bb:Nat)(A:World):Tryz.Kb n₀ bb A A:=⟨Below.refl _ _,λ_ _ _ _ h _ _=>h⟩
theorem Tryz.Kb.trans {n₀ bb:Nat}{A B C:World}(h:Tryz.Kb n₀ bb A B)(h':Tryz.Kb n₀ bb B C):Tryz.Kb n₀ bb A C:=⟨h.1.trans h'.1,λk c t fz h1 h2 h3=>h'.2 k c t fz (h.2 k c t fz h1 h2 h3) h2 h3⟩
theorem Tryz.Kb.put {n₀ bb:Nat}{w:World}(hn:n₀<=w.heap.size)(W:World)(l:Nat)(o o':Obj)(hl:w.heap.size<=l)(h:W.heap[l]?=some o)(hc:o.isCells=false)(hw:o.isWalk=false):Tryz.Kb n₀ bb W (W.putObj l o'):=by
 refine⟨belowK_b hn W l o o' hl h hc hw,λk c t fz hk _ _=>?_⟩;have hne:k≠l:=by rintro rfl;rw[hk]at h;cases h;simp[Obj.isCells]at hc
 rw[<-hk];simp[World.putObj,Array.getElem?_setIfInBounds,Ne.symm hne]
set_option maxRecDepth 100000 in
set_option maxHeartbeats 2000000 in
theorem Tryz.back1_in (F:Fence)(n:Nat)(h7:F.fn 318)(hro:F.round=none)(hn:1<=n)(l Bs n₀ bb b off len cap:Nat)(zs:List Int)(hlen:len<=1099511627776)(hb:b<n₀)(J Jx:List Nat->World->Prop)
  (hY:∀pre x W,J pre W->pre.length<len->YieldAt F (n - 1) Tryz.prog l #[.int .i64 ((len - 1 - x:Nat):Int),.int .u32 (zs[len - 1 - x]?.getD 0)] W λe W'=>
   (e=.returned (.bool true)/\J (pre++[x]) W'/\Tryz.Kb n₀ bb W W')\/(e=.returned (.bool false)/\Jx (pre++[x]) W'))
  (W:World) (bA3:Bs≠bb) (hBs:W.heap[Bs]?=some (.cells #[.slice (some ⟨b,off,none⟩) len cap] 304 (0,0))) (hc:∀j,j<len->W.cell? ⟨b,off+j,none⟩=some (.int .u32 (zs[j]?.getD 0))) (h0:J [] W):
  CallsIn F n Tryz.prog 318 #[.func (.yield l) #[] #[],.pointer (some ⟨Bs,0,none⟩)] W λe W'=>(∃v,e=.returned v)/\
   ((∃ys,ys=List.range len/\J ys W')\/(∃pre,True/\Jx pre W')):=by
 refine callsIn_of_wp Tryz.func318 rfl h7 ?_ hro;simp only[Tryz.ntmps318,List.size_toArray,List.length_cons,List.length_nil,Nat.reduceAdd,Nat.reduceSub,Array.replicate_succ,Array.replicate_zero,List.push_toArray,List.append_toArray,List.nil_append,List.cons_append];have bI8:W.cell? ⟨Bs,0,none⟩=some (.slice (some ⟨b,off,none⟩) len cap):=by simp[World.cell?,hBs]
 have hw1:IntKind.i64.wrap ((len:Int) - 1)=(len:Int) - 1:=IntWalk.i64_in _ zW
 gi_wp2
 gi_loopw [3] (λi wr=>∃k:Nat,k<=len/\i=.int .i64 ((len:Int) - 1 - k)/\J (List.range k) wr/\Tryz.Kb n₀ bb W wr)
  (λi _=>(intOf i+1).toNat)
 case atStart=>exact⟨0,Nat.zero_le _,zA,h0,Tryz.Kb.refl _ _ _⟩
 case round=>
  obtain⟨k,hk,rfl,hJs,hnx⟩:=hrel;have hcx:k<len->wr.cell? ⟨b,off+(len - 1 - k),none⟩=some (.int .u32 (zs[len - 1 - k]?.getD 0)):=λh=>(hnx.1.cell (p:=⟨b,off+(len - 1 - k),none⟩) hb).trans (hc _ zW);have hbx:wr.cell? ⟨Bs,0,none⟩=some (.slice (some ⟨b,off,none⟩) len cap):=by have:=hnx.2 _ _ _ _ hBs zV bA3;simp[World.cell?,this]
  by_cases hlt:k<len
  ·obtain⟨fn,tmps,assign,body,hy,hR⟩:=hY _ k wr hJs (by rw[List.length_range];exact hlt);have bG7:=hcx hlt;have hi:(len:Int) - 1 - k=((len - 1 - k:Nat):Int):=zW;have hw2:IntKind.i64.wrap (((len - 1 - k:Nat):Int) - 1)=(len:Int) - 1 - ((k+1:Nat):Int):=by rw[IntWalk.i64_in _ zW];omega
   rw[hi];obtain⟨q,hq⟩:=nm (len - 1 - k);rw[<-hq]at hy hw2 bG7 hi |-;have hql:q<len:=zW;have hms:k+1<=len:=zW;have HI:=Lib.hid hi;clear hq hi
   gi_wp2
   refine hR.mono ?_;rintro e W3 (⟨rfl,hJ3,hk3⟩ | ⟨rfl,bGs⟩)
   ·gi_wp2
    go_roundw
    case rel=>exact⟨k+1,hms,rfl,by rw[List.range_succ];exact hJ3,hnx.trans hk3⟩
    case measure=>have:=HI.out;simp[intOf];omega
   ·gi_wp2
    refine bodyPost_ret (results_none rfl _ _ _) rfl ?_;exact⟨⟨_,rfl⟩,.inr ⟨_,trivial,bGs⟩⟩
  ·obtain rfl:k=len:=zW;have hi:((k:Int) - 1 - (k:Int))=-1:=zW;rw[hi]
   gi_wp2
   go_end0
   exact⟨⟨_,rfl⟩,.inl ⟨_,rfl,hJs⟩⟩
set_option maxHeartbeats 1000000 in
theorem Tryz.back_in (F:Fence)(n:Nat)(h5:F.fn 300)(hro:F.round=none)(a:Option Addr)(len cap:Nat)(w:World):
  CallsIn F n Tryz.prog 300 #[.slice a len cap] w λe w'=>e=.returned (.func (.func 318) #[] #[.pointer (some ⟨w.heap.size,0,none⟩)])/\w'=w.alloc (.cells #[.slice a len cap] 304):=by
 refine callsIn_of_wp Tryz.func300 rfl h5 ?_ hro;simp only[Tryz.ntmps300,List.size_toArray,List.length_cons,List.length_nil,Nat.reduceAdd,Nat.reduceSub,Array.replicate_succ,Array.replicate_zero,List.push_toArray,List.append_toArray,List.nil_append,List.cons_append]
 gi_wp2
 go_ret
 exact⟨rfl,rfl⟩
theorem Tryz.back_stops (F:Fence)(n:Nat)(h8:F.fn 318)(hro:F.round=none)(hn:1<=n)(Bs n₀ bb b off len cap:Nat)(zs:List Int)(hlen:len<=1099511627776)(hb:b<n₀)(w:World)(hn₀:n₀<=w.heap.size)(bA3:Bs≠bb)(bGp:Bs<w.heap.size)
  (hBs:w.heap[Bs]?=some (.cells #[.slice (some ⟨b,off,none⟩) len cap] 304 (0,0))) (hc:∀j,j<len->w.cell? ⟨b,off+j,none⟩=some (.int .u32 (zs[j]?.getD 0))):
  SeqStopsK F n Tryz.prog 318 #[.pointer (some ⟨Bs,0,none⟩)] (λx:Nat=>#[Value.int .i64 ((len - 1 - x:Nat):Int),Value.int .u32 (zs[len - 1 - x]?.getD 0)]) (Tryz.Kb n₀ bb) (λys=>ys=List.range len) (λ_=>True) len w:=λl J Jx W hW _ _ hY h0=>
 Tryz.back1_in F n h8 hro hn l Bs n₀ bb b off len cap zs hlen hb J Jx hY W bA3 (by rw[<-hBs];exact hW.block _ bGp) (λj hj=>(hW.cell (p:=⟨b,off+j,none⟩) (Nat.lt_of_lt_of_le hb hn₀)).trans (hc j hj)) h0
end Go.Proofs
namespace Go.Num
open Go.Lib
theorem aFo:∀(j n:Nat),(aC n)[j]?.getD 0=((n/1000000000^j%1000000000:Nat):Int)
 | j,0=>by rw[bV];simp
 | 0,n+1=>by rw[bZ zW];simp
 | j+1,n+1=>by
  rw[bZ zW,List.getElem?_cons_succ,aFo j,Nat.pow_succ,Nat.mul_comm (1000000000^j),Nat.div_div_eq_div_mul]
def piece (n k:Nat):List UInt8:=
 let w:=(n/1000000000^((aC n).length - 1 - k))%1000000000
 if(((aC n).length - 1 - k:Nat):Int)<(aC n).length - 1 then repeatL [48] (9 - (decDigits w).length)++decDigits w else decDigits w
def pieces (n:Nat)(l:List Nat):List UInt8:=l.foldl (λr k=>r++piece n k) []
theorem tQ (n:Nat)(l:List Nat)(k:Nat):pieces n (l++[k])=pieces n l++piece n k:=by simp[pieces]
theorem repeatL_one:∀(k:Nat) (b:UInt8),repeatL [b] k=List.replicate k b
 | 0,b=>rfl
 | k+1,b=>by rw[repeatL,repeatL_one k b];rfl
theorem tC {w:Nat}(h:w<1000000000):(decDigits w).length<=9:=by
 exact tE (k:=9) (n:=w) zV h
theorem aGa (n k:Nat):(piece n k).length<=9:=by
 unfold piece;have h:=tC (Nat.mod_lt (n/1000000000^((aC n).length - 1 - k)) (zV:0<1000000000));dsimp only;split
 ·rw[List.length_append,repeatL_one,List.length_replicate];omega
 ·exact h
theorem aKk (n:Nat):∀(l:List Nat) (r:List UInt8),(l.foldl (λr k=>r++piece n k) r).length<=r.length+9*l.length:=by
 intro l;induction l with
 | nil=>simp
 | cons k l ih=>intro r;rw[List.foldl_cons];have:=ih (r++piece n k);have:=aGa n k;simp at *;omega
theorem aM5 (n:Nat)(l:List Nat):(pieces n l).length<=9*l.length:=by have:=aKk n l [];simpa[pieces]using this
theorem yG {n:Nat}(hn:n≠0):∀(k:Nat),k<(aC n).length->pieces n (List.range (k+1))=decDigits (n/1000000000^((aC n).length - 1 - k))
 | 0,hk=>by
  rw[List.range_succ,tQ];show []++_=_
  rw[List.nil_append];unfold piece;dsimp only;rw[if_neg zW];congr 1;apply Nat.mod_eq_of_lt;rw[Nat.div_lt_iff_lt_mul (Nat.pow_pos zV),Nat.mul_comm,<-Nat.pow_succ];exact aT zW
 | k+1,hk=>by
  rw[List.range_succ,tQ,yG hn k zW];unfold piece;dsimp only;rw[if_pos zW];obtain⟨j,hj⟩:=nm ((aC n).length - 1 - (k+1));rw[show(aC n).length - 1 - k=j+1 by omega,<-hj,repeatL_one];have h9:n/1000000000^j%1000000000<10^(8+1):=Nat.mod_lt _ zV;rw[<-aUu 8 _ h9];have hp:0<n/1000000000^(j+1):=by
   apply Nat.div_pos _ (Nat.pow_pos zV);rcases Nat.lt_or_ge n (1000000000^(j+1))with h | h
   ·have:=bP h;omega
   ·exact h
  rw[<-vE hp 9 _ h9];congr 1;rw[Nat.pow_succ,<-Nat.div_div_eq_div_mul];show n/1000000000^j/1000000000*1000000000+_=_
  exact Nat.div_add_mod' _ _
theorem aM4 {n:Nat}(hn:n≠0):pieces n (List.range (aC n).length)=decDigits n:=by
 have h0:(aC n).length≠0:=by rw[bZ hn];simp
 obtain⟨k,hk⟩:∃k,(aC n).length=k+1:=⟨(aC n).length - 1,zW⟩;rw[hk,yG hn k zW,hk];simp
end Go.Num
namespace Go.Proofs
open Go.RowKit Go.Shelf Go.Num
attribute [local go_sem] Oper.semAt_some
theorem Tryz.Kb.of_below {n₀ bb:Nat}{A B:World}(hn:n₀<=A.heap.size)(h:Below A.heap.size A B):Tryz.Kb n₀ bb A B:=
 ⟨h.mono hn,λk c t fz hk _ _=>(h.block k (Array.getElem?_eq_some_iff.1 hk).1).trans hk⟩
theorem Tryz.Kb.of_others {n₀ bb:Nat}{A B:World}(h:Below n₀ A B)(h':Lib.OthersKept 5 (some bb) A B):Tryz.Kb n₀ bb A B:=
 ⟨h,λk c t fz hk ht hb=>h' k _ hk (by simpa using hb) (λc' fz' e=>by injection e with _ e _;exact ht e)⟩
theorem Tryz.bldAt_keep {T e:TypeId}{B b:Nat}{p:Value}{bs:List Value}{W W':World}(h:Lib.BuilderAt T e B b p bs W)(hk:∀(k:Nat) (c:Array Value) (t:TypeId) (fz:Nat × Nat),W.heap[k]?=some (Obj.cells c t fz)->W'.heap[k]?=some (Obj.cells c t fz)):Lib.BuilderAt T e B b p bs W':=by
 obtain⟨h1,v,h2,h3,h4⟩:=h;refine⟨h1,v,hk _ _ _ _ h2,⟨h3.1,?_⟩,h4⟩;rcases h3.2 with h | ⟨g,cap,cur,e1,e2,e3,e4⟩
 ·exact .inl h
 ·exact .inr ⟨g,cap,cur,e1,e2,hk _ _ _ _ e3,e4⟩
theorem Tryz.bld_keep {T e:TypeId}{B b:Nat}{bs:List Value}{W W':World}(h:Lib.IsBuilder T e B b bs W)(hk:∀(k:Nat) (c:Array Value) (t:TypeId) (fz:Nat × Nat),W.heap[k]?=some (Obj.cells c t fz)->W'.heap[k]?=some (Obj.cells c t fz)):Lib.IsBuilder T e B b bs W':=h.imp (Tryz.bldAt_keep · hk) (Tryz.bldAt_keep · hk)
theorem Tryz.bld_own {T e:TypeId}{B b n:Nat}{f:List Nat->List Value}:OwnFrom n (λpre W=>Lib.IsBuilder T e B b (f pre) W):=by
 intro s W W' row h hg hr;refine Tryz.bld_keep h λk c t fz hk=>(hg.block k (Array.getElem?_eq_some_iff.1 hk).1 λe=>?_).trans hk;obtain⟨_,o,ho,hc⟩:=hr k e.symm;rw[hk]at ho;cases ho;cases hc
theorem Tryz.cells_below {W W':World}(h:Below W.heap.size W W'):∀(k:Nat) (c:Array Value) (t:TypeId) (fz:Nat × Nat),W.heap[k]?=some (Obj.cells c t fz)->W'.heap[k]?=some (Obj.cells c t fz):=λk c t fz hk=>(h.block k (Array.getElem?_eq_some_iff.1 hk).1).trans hk
theorem Tryz.kf_below {B:Nat}{W W':World}(h:Below W.heap.size W W'):KeepsFrom B W W':=⟨h.size,λk o _ hk _=>(h.block k (Array.getElem?_eq_some_iff.1 hk).1).trans hk⟩
theorem Tryz.kf_others {B b:Nat}{W W':World}{c:Array Value}{t:TypeId}{fz:Nat × Nat}(hs:W.heap.size<=W'.heap.size)(hb:W.heap[b]?=some (.cells c t fz))(h:Lib.OthersKept 5 (some b) W W'):KeepsFrom B W W':=
 ⟨hs,λk o _ hk ho=>h k o hk (by intro e;cases e;rw[hb]at hk;cases hk;cases ho) (by rintro c fz rfl;cases ho)⟩
set_option maxRecDepth 100000 in
set_option maxHeartbeats 0 in
theorem Tryz.text_lib (m:Nat)(hm0:m≠0)(b off cap:Nat)(hlen:(aC m).length<=1099511627776)(w:World)(aEr:Lib.TabIs Tryz.prog w "internal/strconv.uint64pow10" .u64 Lib.pow10Tab)(hb:b<w.heap.size)
  (hc:∀j,j<(aC m).length->w.cell? ⟨b,off+j,none⟩=some (.int .u32 ((aC m)[j]?.getD 0))):
  Calls Tryz.prog 284 #[.slice (some ⟨b,off,none⟩) (aC m).length cap] w λe w'=>e=.returned (.string (aJ m))/\Below w.heap.size w w':=by
 refine(callsIn_wide (n:=6)).1 ?_;obtain⟨len,lQ⟩:∃len,(aC m).length=len:=⟨_,rfl⟩;have bI5:0<len:=by rw[<-lQ,bZ hm0];simp
 rw[lQ]at hlen hc |-;have HL:=Lib.hid lQ;clear lQ;have hpw:∀W,Below w.heap.size w W->Lib.TabIs Tryz.prog W "internal/strconv.uint64pow10" .u64 Lib.pow10Tab:=λW h=>Go.Ai.var_below aEr h;clear aEr;refine callsIn_of_wp_marks Tryz.func284 rfl trivial ?_ rfl;simp only[Tryz.ntmps284,List.size_toArray,List.length_cons,List.length_nil,Nat.reduceAdd,Nat.reduceSub,Array.replicate_succ,Array.replicate_zero,List.push_toArray,List.append_toArray,List.nil_append,List.cons_append]
 gi_wp2_with (refine⟨trivial,?_⟩;gi_at_call 300;refine(Tryz.back_in Fence.wide _ trivial rfl _ _ _ _).mono ?_;rintro e w' ⟨rfl,rfl⟩)
 obtain⟨bb,hbb⟩:=nm (w.heap.size+1);rw[<-hbb];obtain⟨W0,hW0⟩:=nm (((w.alloc (.cells #[.slice (some ⟨b,off,none⟩) len cap] 304)).alloc (.cells #[.pointer none,.slice none 0 0] 337)).alloc (.cells #[.slice (some ⟨b,off,none⟩) len cap] 304));rw[<-hW0];have hsz:W0.heap.size=bb+2:=by rw[hW0,hbb];simp
 have hB0:Below w.heap.size w W0:=by rw[hW0];exact(((Below.refl _ w).alloc (lRf _) _).alloc zA _).alloc (by simp;omega) _
 have h0:W0.heap[w.heap.size]?=some (.cells #[.slice (some ⟨b,off,none⟩) len cap] 304 (0,0)):=by
  rw[hW0,Below.heap_alloc _ _ _ (by simp;omega),Below.heap_alloc _ _ _ zA,World.alloc_heap_new]
 have h1:W0.heap[bb]?=some (.cells #[.pointer none,.slice none 0 0] 337 (0,0)):=by
  rw[hW0,hbb,Below.heap_alloc _ _ _ zA];have:=World.alloc_heap_new (w.alloc (.cells #[.slice (some ⟨b,off,none⟩) len cap] 304)) (.cells #[.pointer none,.slice none 0 0] 337);rwa [World.size_alloc]at this
 have h2:W0.heap[bb+1]?=some (.cells #[.slice (some ⟨b,off,none⟩) len cap] 304 (0,0)):=by
  rw[hW0,hbb];have:=World.alloc_heap_new ((w.alloc (.cells #[.slice (some ⟨b,off,none⟩) len cap] 304)).alloc (.cells #[.pointer none,.slice none 0 0] 337)) (.cells #[.slice (some ⟨b,off,none⟩) len cap] 304);rwa [World.size_alloc,World.size_alloc]at this
 have bG3:Lib.IsBuilder 337 5 bb bb [] W0:=.inl ⟨lRf _,_,h1,World.ownsRow_nil _ _ _ _,by simp[Value.ownBlock]⟩
 have bG2:w.heap.size<bb:=zW
 have HB:=Lib.hid hbb
 have HW:=Lib.hid hW0
 clear hbb hW0;refine wpIn_rangeFunc_ownG rfl zW (gf:=318) (lb:=#[.pointer (some ⟨bb+1,0,none⟩)]) rfl trivial (enters_of Tryz.func318 zG rfl)
  (Tryz.back_stops Fence.wide _ trivial rfl zW (bb+1) bb bb b off len cap (aC m) hlen zW W0 zW zW zW h2 (λj hj=>(hB0.cell (p:=⟨b,off+j,none⟩) hb).trans (hc j hj)))
  (λh k=>h.trans k) (Tryz.Kb.put zW) (Below.refl _ _) (λ_=>rfl)
  (λpre W=>Lib.IsBuilder 337 5 bb bb (Lib.byteCells (pieces m pre)) W/\Below bb W0 W)
  (λ_ _ _=>False)
  (OwnFrom.and Tryz.bld_own (ownFrom_below zW zW))
  (λ_ _ _ _ _ hs _ _=>hs)
  ⟨by simpa[pieces,Lib.byteCells]using bG3,Below.refl _ _⟩
  (λx=>{tmps:=#[.slice (some ⟨b,off,none⟩) len cap,.pointer (some ⟨w.heap.size,0,none⟩),.string ⟨#[]⟩,.pointer (some ⟨bb,0,none⟩),.int .i64 ((len - 1 - x:Nat):Int),.int .u32 ((aC m)[len - 1 - x]?.getD 0),undef,.slice (some ⟨b,off,none⟩) len cap,.int .i64 len,.bool false,.slice (some ⟨b,off,none⟩) len cap,.func (.func 318) #[] #[.pointer (some ⟨bb+1,0,none⟩)],.int .i64 ((len - 1 - x:Nat):Int),.int .u32 ((aC m)[len - 1 - x]?.getD 0),undef,undef,undef,undef,undef,undef,undef,undef,undef,undef,undef,undef,undef,undef,undef,undef],defers:=[]}) ?assign ?body ?done ?stop
 case assign=>
  intro l x W K hK
  gi_wp2
  exact hK
 case body=>
  rintro l pre x W ⟨hbd,hBW⟩ hpl;have hwd:=bA (bG m) (len - 1 - x);have hdg:=aFo (len - 1 - x) m;rw[List.getD_eq_getElem?_getD]at hwd;have hpx:pieces m (pre++[x])=pieces m pre++piece m x:=tQ m pre x;have bHx:=aM5 m pre;have hpi:=aGa m x;unfold piece at hpi hpx;rw[HL.out]at hpi hpx;obtain⟨u,hu⟩:∃u,m/1000000000^(len - 1 - x)%1000000000=u:=⟨_,rfl⟩;rw[hu]at hdg hpi hpx;rw[hdg]at hwd |-;clear hdg hu;have hu9:u<1000000000:=zW;have hul:=tC hu9;obtain⟨q,hq⟩:∃q,len - 1 - x=q:=⟨_,rfl⟩;rw[hq]at hpi hpx |-;clear hq;obtain⟨P0,hP0⟩:∃P0,pieces m pre=P0:=⟨_,rfl⟩;rw[hP0]at hbd bHx hpx;clear hP0;have bG4:W.cell? ⟨w.heap.size,0,none⟩=some (.slice (some ⟨b,off,none⟩) len cap):=(hBW.cell (p:=⟨w.heap.size,0,none⟩) bG2).trans (by simp[World.cell?,h0])
  gi_wp2
  refine⟨trivial,?_⟩;refine(CallsIn.inRound l (callsIn_wide.2 (Tryz.fmtU u zW W (hpw W (hB0.trans (hBW.mono zW)))))).mono ?_;rintro e W1 ⟨rfl,hb1⟩;have bI0:=(hb1.cell (p:=⟨w.heap.size,0,none⟩) (by have:=hBW.size;simp;omega)).trans bG4;have bBa:=Tryz.bld_keep hbd (Tryz.cells_below hb1);have bE0:=Tryz.kf_below (B:=W0.heap.size) hb1;have bEz:=Tryz.Kb.of_below (n₀:=bb) (bb:=bb) (by have:=hBW.size;omega) hb1;have bBe:bb<=W1.heap.size:=by have:=hBW.size;have:=hb1.size;omega
  have hc9:(9:Int) - ((Lib.decDigits u).length:Int)=((9 - (Lib.decDigits u).length:Nat):Int):=zW
  have fin:∀(W2 W3:World) (P1:List UInt8),KeepsFrom W0.heap.size W W2->Tryz.Kb bb bb W W2->bb<=W2.heap.size->Lib.IsBuilder 337 5 bb bb (Lib.byteCells P1) W2->Lib.BuilderAt 337 5 bb bb (.pointer (some ⟨bb,0,none⟩)) (Lib.byteCells P1++Lib.strCells ⟨(Lib.decDigits u).toArray⟩) W3->Below bb W2 W3->Lib.OthersKept 5 (some bb) W2 W3->
    pieces m (pre++[x])=P1++Lib.decDigits u->KeepsFrom W0.heap.size W W3/\Tryz.Kb bb bb W W3/\Lib.IsBuilder 337 5 bb bb (Lib.byteCells (pieces m (pre++[x]))) W3/\Below bb W0 W3:=by
   intro W2 W3 P1 a1 a2 a3 a4 a5 a6 a7 a8;obtain⟨cc,tt,ff,hcc⟩:∃cc tt ff,W2.heap[bb]?=some (.cells cc tt ff):=by rcases a4 with h | h<;>(obtain⟨_,v,h,_⟩:=h;exact⟨_,_,_,h⟩)
   have hk:=a2.trans (Tryz.Kb.of_others a6 a7)
   refine⟨a1.trans (Tryz.kf_others a6.size hcc a7),hk,?_,hBW.trans hk.1⟩;rw[a8,Lib.byteCells_append];rw[Lib.strCells_eq]at a5;exact .inr (by simpa using a5)
  clear hc
  gi_wp2
  ·rw[if_pos (by assumption)]at hpx;refine⟨trivial,?_⟩;refine(CallsIn.inRound l (callsIn_wide.2 (Tryz.strings_Repeat ⟨#[48]⟩ (9 - (Lib.decDigits u).length) W1 zW (by have:(⟨#[48]⟩:ByteArray).size=1:=rfl;rw[this];omega)))).mono ?_;rintro e W2 ⟨rfl,hb2⟩;have bEj:=Tryz.bld_keep bBa (Tryz.cells_below hb2);have bHm:=bE0.trans (Tryz.kf_below (B:=W0.heap.size) hb2);have bHk:=bEz.trans (Tryz.Kb.of_below (n₀:=bb) (bb:=bb) bBe hb2);have bG5:bb<=W2.heap.size:=by have:=hb2.size;omega
   obtain⟨rp,hrp⟩:∃rp,Lib.repeatL [48] (9 - (Lib.decDigits u).length)=rp:=⟨_,rfl⟩;have hrl:rp.length<=9:=by rw[<-hrp,Lib.repeatL_length];simp
   rw[show(⟨#[48]⟩:ByteArray).data.toList=[48] from rfl,hrp];rw[hrp]at hpx
   gi_wp2
   refine⟨trivial,?_⟩;refine(CallsIn.inRound l (callsIn_wide.2 (Tryz.writeS bb bb _ ⟨rp.toArray⟩ W2 bEj (by rw[Lib.byteCells_length];show _+rp.toArray.size<=_;simp;omega) bG5))).mono ?_;rintro e W3 ⟨rfl,bEk,hb3,ho3⟩;obtain⟨cc,tt,ff,hcc⟩:∃cc tt ff,W2.heap[bb]?=some (.cells cc tt ff):=by rcases bEj with h | h<;>(obtain⟨_,v,h,_⟩:=h;exact⟨_,_,_,h⟩)
   have bHn:=bHm.trans (Tryz.kf_others (B:=W0.heap.size) hb3.size hcc ho3)
   have bHl:=bHk.trans (Tryz.Kb.of_others hb3 ho3)
   have bEm:bb<=W3.heap.size:=by have:=hb3.size;omega
   have aYx:Lib.IsBuilder 337 5 bb bb (Lib.byteCells (P0++rp)) W3:=by
    rw[Lib.byteCells_append];rw[Lib.strCells_eq]at bEk;exact .inr (by simpa using bEk)
   gi_wp2
   refine⟨trivial,?_⟩;refine(CallsIn.inRound l (callsIn_wide.2 (Tryz.writeS bb bb _ ⟨(Lib.decDigits u).toArray⟩ W3 aYx (by rw[Lib.byteCells_length,List.length_append];show _+(Lib.decDigits u).toArray.size<=_;rw[List.size_toArray];omega) bEm))).mono ?_;rintro e W4 ⟨rfl,bBb,hb4,ho4⟩
   gi_wp2
   exact fin W3 W4 _ bHn bHl bEm aYx bBb hb4 ho4 (by rw[hpx,List.append_assoc])
  ·rw[if_neg zW]at hpx;refine⟨trivial,?_⟩;refine(CallsIn.inRound l (callsIn_wide.2 (Tryz.writeS bb bb _ ⟨(Lib.decDigits u).toArray⟩ W1 bBa (by rw[Lib.byteCells_length];show _+(Lib.decDigits u).toArray.size<=_;rw[List.size_toArray];omega) bBe))).mono ?_;rintro e W4 ⟨rfl,bBb,hb4,ho4⟩
   gi_wp2
   exact fin W1 W4 _ bE0 bEz bBe bBa bBb hb4 ho4 hpx
 case done=>
  rintro D ys W hD rfl ⟨hbd,hBW⟩ hK;have hpa:=aM4 hm0;rw[HL.out]at hpa;rw[hpa]at hbd
  gi_wp2
  refine⟨trivial,?_⟩;refine(callsIn_wide.2 (Tryz.Builder_String_any_k bb bb (Lib.decDigits m) W (hbd.imp Lib.BuilderAtF.of Lib.BuilderAtF.of) (by have:=hBW.size;omega))).mono ?_;rintro e W1 ⟨rfl,hbf,hb1,ho1⟩;have hK1:W1.heap[D]?=some (.deferred (some [])):=ho1 D _ hK (by simp;omega) zA
  gi_wp2
  refine⟨zA,.inl ⟨_,_,rfl,run_takeDeferred hK1,?_⟩⟩;exact⟨_,results_tmp rfl _ _ _,rfl,((hB0.trans (hBW.mono zW)).trans (hb1.mono zW)).trans (belowK_b (w:=w) (lRf _) W1 D _ _ zW hK1 rfl rfl)⟩
 case stop=>
  rintro D c pre W _ _ h _;exact h.elim
end Go.Proofs
namespace Go.Ai
open Go Go.Proofs Go.Num
theorem aL1:aB PP 284:=zK
theorem aAs {v:Value}{X:Nat->Prop}{w:World}{n:Nat}(hbn:(aC n).length<=2^38)(hX:∀b,X b->b<w.heap.size)(hv:(aI n).p v X w):Fn PP 284 [v] X w (eE (.string (aJ n))):=by
 by_cases h0:n=0
 ·obtain⟨R,hRR⟩:=nm (eE (.string (aJ n)));obtain⟨K,hK⟩:=nm ([KF.cst v (aI n)]);rw[<-hRR];refine bJ mixed tok [.q v] (K:=K) Tryz.func284 rfl rfl (lbl rfl) rfl hX (by subst hK;simp;exact hv) λc hc hR=>?_;refine dE 0 .u32 (aC n) rfl rfl (λX μ a w v' H hv'=>cD H (by simp[hK]) hv') λf N cap hN hf dJ=>?_;have hN0:N=0:=by rw[hN,h0,bV];rfl
  have htx:aJ n=⟨#[48]⟩:=by rw[h0];unfold aJ;rw[aMb]
  apply zN hc;cbv;refine aE rfl 100 (λh=>?_) (λh=>absurd hN0 (BE.eqnl_f (k:=0) h));cbv;refine bB hc hR rfl (λX μ a w v' H hv'=>?_);rw[hRR,htx];simp only[aD,SE.den]at hv';injection hv' with hv'
  exact hv'.symm
 ·intro hgl;obtain⟨ad,cap,rfl,dJ,h⟩:=hv;match ad,h with
  | none,h=>exact absurd h.1 (by rw[bZ h0];simp)
  | some (b,o),⟨hb,cs,ty,hcs,hi⟩=>
   refine Calls.mono (Tryz.text_lib n h0 b o cap zW w hgl.pow10 (hX b hb) (λj hj=>?_)) ?_
   ·have:=hi j (aC n)[j] (by simp[hj])
    simp[World.cell?,hcs,this,hj]
   ·rintro e w' ⟨rfl,hbl⟩;exact⟨_,X,rfl,hbl,λ_ h=>h,λ_ h=>.inl h,rfl⟩
theorem aHg {μ:Mu}{v u:Value}(h:aD μ (.q v)=some u):u=v:=by simp only[aD]at h;injection h with h;exact h.symm
theorem uH {n:Nat}(h:(aC n).length=0):n=0:=Classical.byContradiction λe=>by rw[bZ e]at h;simp at h
theorem bIb {z:Nat}(h:z<1000000000000000000):(z:Int)<1000000000000000000:=zW
theorem bFp {y:Nat}(h:0<y):(Obl.nz (IE.n y)).ok:=by show _≠_;simp only[IE.den];omega
theorem aZc (x y:Nat):((IE.n x).rem (IE.n y)).den=(IE.n (x%y)).den:=by simp only[IE.den];exact(Int.ofNat_tmod x y).symm
theorem bDs:aB PP 269:=zK
theorem lE {n m:Nat}(h:0<m):Nat.gcd m (n%m)=Nat.gcd n m:=by rw[Nat.gcd_comm,<-Nat.gcd_rec,Nat.gcd_comm]
structure GcdX where
 v:Value
 u:Value
 n:Nat
 m:Nat
set_option maxHeartbeats 0 in
theorem aTi {v u:Value}{X:Nat->Prop}{w:World}{n m:Nat}(hbn:(aC n).length<=2^38)(hbm:(aC m).length<=2^38)(hX:∀b,X b->b<w.heap.size)(hv:(aI n).p v X w)(hu:(aI m).p u X w):
  Fn PP 269 [v,u] X w (aI (Nat.gcd n m)):=by
 obtain⟨g,hg⟩:=nm (Nat.gcd n m);rw[<-hg];obtain⟨R,hRR⟩:=nm (aI g);obtain⟨F,hF⟩:∃F:Value->Nat->KF,∀v n,F v n=KF.cst v (aI n):=⟨λv n=>KF.cst v (aI n),λ_ _=>rfl⟩;rw[<-hRR];refine bJ mixed tok [.q v,.q u] (K:=[F v n,F u m]) Tryz.func269 rfl rfl (lbl rfl) rfl hX (by simp[hF];exact⟨hv,hu⟩) λc hc hR=>?_;apply zN hc;cbv;let ι:={x:GcdX//Nat.gcd x.n x.m=g/\(aC x.n).length<=2^38/\(aC x.m).length<=2^38};let I:ι->St:=λx=>⟨[(0,.q x.1.v),(1,.q x.1.u)],[],[]⟩
 let KK:ι->List KF:=λx=>[F x.1.v x.1.n,F x.1.u x.1.m]
 let x0:ι:=⟨⟨v,u,n,m⟩,hg.symm,hbn,hbm⟩
 refine zU 0 (S':=I x0) (K':=KK x0) zL ⟨⟨.head _,by rw[hF];exact KFr.cst _ _ _⟩,⟨.tail _ (.head _),by rw[hF];exact KFr.cst _ _ _⟩,trivial⟩ trivial ?_;refine aPl hc I KK (λx=>x.1.m) x0 ?_;rintro p ⟨⟨v,u,n,m⟩,hg,hbn,hbm⟩ hy;simp only at hg hbn hbm;obtain⟨K,hK⟩:=nm ([F v n,F u m]);have k1:KF.cst v (aI n)∈K:=by rw[hK,<-hF];exact .head _
 have k2:KF.cst u (aI m)∈K:=by rw[hK,<-hF];exact .tail _ (.head _)
 have hzb:n<1000000000000000000->0<m->m<1000000000000000000->g<1000000000000000000:=λ_ h0 h=>Nat.lt_of_le_of_lt (by rw[<-hg];exact Nat.gcd_le_right n h0) h
 have kf:∀q,lT q K K:=λq=>by rw[hK];exact⟨⟨.head _,by rw[hF];exact KFr.cst _ _ _⟩,⟨.tail _ (.head _),by rw[hF];exact KFr.cst _ _ _⟩,trivial⟩
 refine Goal.k hK ?_;refine dE 1 .u32 (aC m) rfl rfl (λX μ a w v' H hv'=>cD H k2 hv') λf' M aU hM hf' gY=>?_;apply zN hc;cbv;refine aE rfl 100 (λh=>?_) (λh=>?_)
 ·have hM0:0<M:=BE.ltn_t (i:=0) h
  cbv;obtain⟨xs,hxs⟩:∃xs:Int,xs=if n<1000000000000000000 then(n:Int)else 0:=⟨_,rfl⟩
  obtain⟨xb,hxb⟩:∃xb:Bool,xb=decide (n<1000000000000000000):=⟨_,rfl⟩;obtain⟨ys,hys⟩:∃ys:Int,ys=if m<1000000000000000000 then(m:Int)else 0:=⟨_,rfl⟩
  obtain⟨yb,hyb⟩:∃yb:Bool,yb=decide (m<1000000000000000000):=⟨_,rfl⟩;refine cE hc (.t [.i .u64 (.v xs),.b (.v xb)]) (r:=.tuple #[.int .u64 xs,.bool xb]) xE (λn0 D X μ a w aK H aG=>?_) rfl 100 ?_
  ·obtain⟨v1,rfl,h1⟩:=bN aG;rw[hxs,hxb];exact oS H.xlt (by rw[aHg h1];exact H.cst k1)
  cbv;refine cE hc (.t [.i .u64 (.v ys),.b (.v yb)]) (r:=.tuple #[.int .u64 ys,.bool yb]) xE (λn0 D X μ a w aK H aG=>?_) rfl 100 ?_
  ·obtain⟨v1,rfl,h1⟩:=bN aG;rw[hys,hyb];exact oS H.xlt (H.numRow rfl h1 hM hf' gY)
  cbv;have hm0:0<m:=Nat.pos_of_ne_zero λe=>by rw[e,bV]at hM;simp at hM;omega
  have hsx:=uV hxb
  have hsy:=uV hyb
  apply aS6 (c:=c) (K:=K) (S':=⟨[(0,.q v),(1,.sl 0 0 (.n M) aU),(27,.b (.l false))],[.xi .u32 M f'],[]⟩) (λgen=>?_)
  rotate_left 2
  ·refine cG 25 rfl rfl 3 (λh1=>?_) (λh1=>?_)
   ·apply zN hc;cbv;refine cG 27 rfl rfl 0 (λh2=>?_) (λh2=>?_)
    ·apply zN hc;cbv;have aT3:n<1000000000000000000:=hsx.1 h1;have aQg:m<1000000000000000000:=hsy.1 h2;rw[if_pos aT3]at hxs;rw[if_pos aQg]at hys;let ιs:={x:Nat × Nat//Nat.gcd x.1 x.2=g/\x.1<1000000000000000000/\x.2<1000000000000000000};let Is:ιs->St:=λx=>⟨[(5,.i .u64 (.n x.1.1)),(7,.i .u64 (.n x.1.2))],[],[]⟩
     let xz:ιs:=⟨(n,m),hg,aT3,aQg⟩
     refine zU 0 (S':=Is xz) (K':=[]) ⟨zI rfl rfl hxs,zI rfl rfl hys,trivial⟩ trivial trivial ?_;refine aD4 (λz:Nat=>z=g) (λz=>⟨[(5,.i .u64 (.n z))],[],[]⟩) rfl (λr hr=>?_) (λz hz=>?_)
     ·refine bW hc Is (λx=>x.1.2) xz 100 ?_;rintro p' ⟨⟨x,y⟩,hgx,bBz,aMq⟩ hyg;simp only at hgx bBz aMq;cbv;refine aE rfl 100 (λh=>?_) (λh=>?_)
      ·have hy0:0<y:=BE.ltn_t (i:=0) h
       have o1:(Obl.nz (IE.n y)).ok:=bFp hy0
       have e1:=aZc x y
       cbv;refine aP hc ⟨o1,trivial⟩ ?_;refine dH hc _ 0 ?_;refine dH hc _ 0 ?_;refine zE ?_;cbv;exact zU 0 (S':=Is ⟨(y,x%y),(lE hy0).trans hgx,aMq,Nat.lt_trans (Nat.mod_lt _ hy0) aMq⟩) (K':=[]) ⟨zS,zI rfl rfl e1,trivial⟩ trivial trivial (hyg _ (Nat.mod_lt _ hy0))
      ·have hy0:y=0:=Nat.le_zero.1 (BE.ltn_f (i:=0) h)
       have hxg:x=g:=by rw[<-hgx,hy0,Nat.gcd_zero_right]
       cbv;exact zU 0 (S':=⟨[(5,.i .u64 (.n x))],[],[]⟩) (K':=[]) zL trivial trivial (hr x hxg)
     ·have bH5:=bIb (hzb aT3 hm0 aQg)
      subst hz;apply zN hc;cbv;refine eB hc (R:=R) aSc (λn0 D X μ a w aK H aG=>?_) 100 ?_
      ·obtain⟨v1,rfl,h1⟩:=bN aG;rw[bY h1,hRR];exact yF H.xlt (Int.natCast_nonneg _) bH5
      cbv;refine bB hc hR rfl (λX μ a w v' H hv'=>?_);exact H.toP.val (.head _) hv'
    ·exact zU 1 (S':=⟨[(0,.q v),(1,.sl 0 0 (.n M) aU),(27,.b (.l false))],[.xi .u32 M f'],[]⟩) (K':=K) zL (kf _) trivial gen
   ·cbv;exact zU 1 (S':=⟨[(0,.q v),(1,.sl 0 0 (.n M) aU),(27,.b (.l false))],[.xi .u32 M f'],[]⟩) (K':=K) zL (kf _) trivial gen
  ·apply zN hc;cbv;have hm0:0<m:=Nat.pos_of_ne_zero λe=>by rw[e,bV]at hM;simp at hM;omega
   obtain⟨R1,hR1⟩:=nm (aI (n/m));obtain⟨R2,hR2⟩:=nm (aI (n%m));obtain⟨RP,hRP⟩:=nm (jG R1 R2);refine eB hc (R:=RP) aIx (λn0 D X μ a w aK H aG=>?_) 2 ?_
   ·obtain⟨v1,v2,rfl,h1,h2⟩:=bI aG;rw[hRP,hR1,hR2];exact aAz hm0 hbn hbm H.xlt (by rw[aHg h1];exact H.cst k1) (H.numRow rfl h2 hM hf' gY)
   cbv;refine mZ 36 1 (R1:=R1) (R2:=R2) rfl rfl (hRP▸.head _) ?_;apply zN hc;cbv;refine aAm 0 (aI m) rfl rfl (λX μ a w v' H hv'=>H.toP.numRow rfl hv' hM hf' gY) λv1=>?_;refine aAm 1 (aI (n%m)) rfl rfl (λX μ a w v' H hv'=>by have h:=H.toP.val (R:=R2) (.tail _ (.tail _ (.head _))) hv';rw[hR2]at h;exact h) λu1=>?_;exact zU 0 (S':=I ⟨⟨v1,u1,m,n%m⟩,(lE hm0).trans hg,hbm,lTr (bS (Nat.le_of_lt (Nat.mod_lt n hm0))) hbm⟩) (K':=KK ⟨⟨v1,u1,m,n%m⟩,(lE hm0).trans hg,hbm,lTr (bS (Nat.le_of_lt (Nat.mod_lt n hm0))) hbm⟩) zL ⟨⟨by rw[hF];exact .tail _ (.head _),by rw[hF];exact KFr.cst _ _ _⟩,⟨by rw[hF];exact .head _,by rw[hF];exact KFr.cst _ _ _⟩,trivial⟩ trivial (hy _ (Nat.mod_lt n hm0))
 ·have hM0:M=0:=Nat.le_zero.1 (BE.ltn_f (i:=0) h)
  cbv;refine bB hc hR rfl (λX μ a w v' H hv'=>?_);have hm0:m=0:=uH (by rw[<-hM,hM0]);rw[hRR,<-hg,hm0,Nat.gcd_zero_right];exact cD H k1 hv'
end Go.Ai
namespace Go.Num
open Go.Lib
structure RdS (l:List UInt8)(q:Nat)(out:List Int):Prop where
 le:q<=l.length
 wd:Wd out
 v:val out+1000000000^out.length*(eI 0 (l.take q):Int)=(eI 0 l:Int)
 n:out.length+q<=l.length
theorem RdS.init (l:List UInt8):RdS l l.length []:=⟨lRf _,Wd.nil,by simp[val],zA⟩
theorem zB {l:List UInt8}(h:l.all nI=true)(q:Nat):(l.take q).all nI=true:=by
 rw[List.all_eq_true]at h |-;exact λx hx=>h x (List.mem_of_mem_take hx)
theorem yZ {l:List UInt8}(h:l.all nI=true)(q:Nat):(l.drop q).all nI=true:=by
 rw[List.all_eq_true]at h |-;exact λx hx=>h x (List.mem_of_mem_drop hx)
theorem word_lt {l:List UInt8}(h:l.all nI=true){q:Nat}(hq:q<=l.length):eI 0 ((l.take q).drop (q - 9))<1000000000:=by
 have h1:=aOp ((l.take q).drop (q - 9)) (yZ (zB h q) _)
 have h2:((l.take q).drop (q - 9)).length<=9:=by simp;omega
 exact Nat.lt_of_lt_of_le h1 (Nat.pow_le_pow_right zV h2:_<=10^9)
theorem RdS.step {l:List UInt8}{q:Nat}{out:List Int}(h:RdS l q out)(hd:l.all nI=true)(hq:0<q):RdS l (q - 9) (out++[(eI 0 ((l.take q).drop (q - 9)):Int)]):=by
 have hw:=word_lt hd h.le
 refine⟨by have:=h.le;omega,h.wd.append (Wd.mk ⟨zW,zW⟩ Wd.nil),?_,by have:=h.n;simp;omega⟩;have hs:eI 0 (l.take q)=eI 0 ((l.take q).drop (q - 9))+1000000000*eI 0 (l.take (q - 9)):=by
  have e:l.take q=l.take (q - 9)++(l.take q).drop (q - 9):=by
   have:=List.take_append_drop (q - 9) (l.take q)
   rw[List.take_take,Nat.min_eq_left zW]at this;exact this.symm
  rw[e,pI,<-e];rw[aJm];by_cases h9:9<=q
  ·have:((l.take q).drop (q - 9)).length=9:=by have:=h.le;simp;omega
   rw[this];show _*1000000000+_=_
   omega
  ·rw[show q - 9=0 by omega];simp[jR]
 have hv:=h.v
 rw[hs]at hv;rw[val_append,<-hv,List.length_append,List.length_singleton,Int.pow_succ];simp only[val];generalize (1000000000:Int)^out.length=p,eI 0 ((l.take q).drop (q - 9))=u,eI 0 (l.take (q - 9))=t;have e1:((u+1000000000*t:Nat):Int)=(u:Int)+1000000000*t:=zW;rw[e1];grind
theorem RdS.done {l:List UInt8}{out:List Int}(h:RdS l 0 out):(val out).toNat=eI 0 l:=by
 have hv:=h.v
 rw[List.take_zero,jR,show((0:Nat):Int)=0 from rfl,Int.mul_zero,Int.add_zero]at hv;rw[hv];rfl
theorem aF7 {M:Nat}:∀(l:List UInt8) (acc:Nat),l.all nI=true->eI acc l<=M->M<1844674407370955162->parseUintM M acc l=.ok (eI acc l)
 | [],acc,_,_,_=>rfl
 | c::r,acc,hd,hM,hb=>by
  simp only[List.all_cons,Bool.and_eq_true]at hd;have hc:=hd.1;simp only[nI,Bool.and_eq_true,decide_eq_true_eq]at hc;rw[gG]at hM |-;have h1:=aHk r (10*acc+(c.toNat - 48));rw[parseUintM,if_pos hc,if_neg zW,if_neg zW,show acc*10+(c.toNat - 48)=10*acc+(c.toNat - 48) by omega];exact aF7 r _ hd.2 hM hb
theorem aM3 {l:List UInt8}(h:l.all nI=true){q:Nat}(hq:q<=l.length)(h0:0<q):parseUintB 32 ((l.take q).drop (q - 9))=.ok (eI 0 ((l.take q).drop (q - 9))):=by
 unfold parseUintB;rw[if_neg (λe=>by have:=congrArg List.length e;simp at this;omega)];have:=word_lt h hq;exact aF7 _ _ (yZ (zB h q) _) zW zV
end Go.Num
namespace Go.Ai
open Go Go.Proofs Go.Num
theorem aSh:aB PP 283:=zK
theorem aSf:aB PP 299:=zK
theorem bCd {s:ByteArray}{u:Nat}(hs:s.size<=2^60)(h:Lib.parseUintB 32 s.data.toList=.ok u):Pure PP 299 [.string s,.int .i64 10,.int .i64 32] (.tuple #[.int .u64 u,.nilIface]):=by
 intro w hgl;have hs':s.size<=9223372036854775806:=lTr hs zV;refine Calls.mono (Tryz.strconv_ParseUint_10_at32_ok s hs' u h w) ?_;rintro e w' ⟨rfl,rfl | rfl⟩
 ·exact⟨rfl,RowKit.Below.refl _ _⟩
 ·exact⟨rfl,Lib.bytesWorld_below w 5 s⟩
theorem bF8 {u:Nat}(h:u<1000000000):(Obl.inR .u32 (.n u)).ok:=by show lo _<=_/\_<=hi _;simp only[lo,hi,IE.den];omega
theorem bFy {s:ByteArray}{l:List UInt8}{q:Nat}(hs:s.data.toList=l.take q)(hl:q<=l.length)(hq:q<=2^38){e:IE}(he:e=IE.max (.sub (.len (.v s)) (.l 9)) (.l 0)):
  (Obl.inR .i64 (.sub (.len (.v s)) (.l 9))).ok/\(Obl.slc e (.len (.v s)) (.v s)).ok/\(Obl.slc (.l 0) e (.v s)).ok/\(SE.sub (.v s) e (.len (.v s))).den.data.toList=(l.take q).drop (q - 9)/\(SE.sub (.v s) (.l 0) e).den.data.toList=l.take (q - 9)/\
  ((BE.lt (.l 0) (.len (.v s))).den=true->0<q)/\((BE.lt (.l 0) (.len (.v s))).den=false->q=0)/\(SE.sub (.v s) e (.len (.v s))).den.size<=2^60:=by
 have hsz:s.size=q:=by
  have:s.size=s.data.toList.length:=rfl
  rw[this,hs,List.length_take];omega
 have hlq:(IE.len (.v s)).den=q:=by show((s.size:Nat):Int)=_;rw[hsz]
 have hmx:e.den=((q - 9:Nat):Int):=by
  rw[he];show(if(IE.len (.v s)).den - 9<0 then 0 else(IE.len (.v s)).den - 9)=_
  rw[hlq];split<;>omega
 have hx:∀(i j:Nat),(s.extract i j).data.toList=((l.take q).take j).drop i:=λi j=>by rw[<-hs,ByteArray.data_extract,Array.toList_extract,List.extract_eq_take_drop];rw[List.drop_take]
 refine⟨?_,?_,?_,?_,?_,?_,?_,?_⟩
 ·show lo _<=(IE.len (.v s)).den - 9/\(IE.len (.v s)).den - 9<=hi _;rw[hlq];simp only[lo,hi];omega
 ·show 0<=_/\_<=_/\_<=_;rw[hmx,hlq];show 0<=_/\_<=_/\_<=((s.size:Nat):Int);rw[hsz];omega
 ·show 0<=_/\_<=_/\_<=_;rw[hmx];show(0:Int)<=0/\(0:Int)<=_/\_<=((s.size:Nat):Int);rw[hsz];omega
 ·show(s.extract e.den.toNat (IE.len (.v s)).den.toNat).data.toList=_
  rw[hx,hmx,hlq,Int.toNat_natCast,Int.toNat_natCast,List.take_take,Nat.min_self]
 ·show(s.extract 0 e.den.toNat).data.toList=_
  rw[hx,hmx,List.take_take];simp
 ·intro h;have h:=BE.lt_t h;rw[hlq]at h;simp only[IE.den]at h;omega
 ·intro h;have h:=BE.lt_f h;rw[hlq]at h;simp only[IE.den]at h;omega
 ·show(s.extract e.den.toNat (IE.len (.v s)).den.toNat).size<=_
  rw[ByteArray.size_extract,hlq];simp;omega
structure RdX where
 s:ByteArray
 a:Option Addr
 cap:Nat
 k:Nat
 q:Nat
 out:List Int
set_option maxHeartbeats 0 in
theorem aGb {X:Nat->Prop}{w:World}{n:Nat}(hbn:dl n<=2^38)(hX:∀b,X b->b<w.heap.size):Fn PP 283 [.string (aJ n)] X w (aI n):=by
 obtain⟨R,hRR⟩:=nm (aI n);obtain⟨l,hl⟩:=nm (Lib.decDigits n);have cI:l.all nI=true:=by rw[hl];exact iG n
 have pB:eI 0 l=n:=by rw[hl];exact dG n
 have hlen:l.length<=2^38:=by rw[hl];exact hbn
 rw[<-hRR];obtain⟨s0,hs0⟩:=nm (aJ n);have bH1:s0.data.toList=l.take l.length:=by rw[hs0,cZ,<-hl,List.take_length]
 rw[<-hs0];refine bJ mixed tok [.s (.v s0)] (K:=[]) Tryz.func283 rfl rfl (lbl rfl) rfl hX (λf hf=>by cases hf) λc hc hR=>?_;obtain⟨G,hG⟩:∃G:Option Addr->Nat->Nat->List Int->OF,∀a n cap l,G a n cap l=OF.row (.slice a n cap) c.B.heap.size 145 .u32 l:=⟨λa n cap l=>OF.row (.slice a n cap) c.B.heap.size 145 .u32 l,λ_ _ _ _=>rfl⟩;refine tT hG rfl ?_;apply zN hc;cbv;let ι:={x:RdX//x.s.data.toList=l.take x.q/\RdS l x.q x.out/\x.k=x.out.length};let I:ι->St:=λx=>⟨[(0,.s (.v x.1.s)),(3,.xs x.1.a x.1.k x.1.cap)],[],[G x.1.a x.1.k x.1.cap x.1.out]⟩
 let x0:ι:=⟨⟨s0,none,0,0,l.length,[]⟩,bH1,RdS.init l,rfl⟩
 have kof:∀a i cp out,aCb 0 [G a i cp out]:=λa i cp out=>⟨by rw[hG];exact OFr.row _ _ _ _ _ _,trivial⟩
 refine zU 0 (S':=I x0) (K':=[]) zL trivial (kof _ _ _ _) ?_;refine bW hc I (λx=>x.1.q) x0 100 ?_;rintro p ⟨⟨s,a,cap,k,q,out⟩,hs,hr,hk⟩ hy;simp only at hs hr hk;have bFa:q<=2^38:=lTr hr.le hlen;obtain⟨o1,o2,o3,f1,f2,aAg,bE6,f3⟩:=bFy hs hr.le bFa rfl;obtain⟨u,hu⟩:=nm (eI 0 ((l.take q).drop (q - 9)));have cQ:=λh=>hr.step cI h;have hpw:=λh=>aM3 cI hr.le h;have hu9:=word_lt cI hr.le;rw[<-hu]at cQ hpw hu9;rw[<-f1]at hpw;cbv;refine aE rfl 100 (λh=>?_) (λh=>?_)
 ·have hq0:=aAg h
  have hpu:=bCd f3 (hpw hq0)
  cbv;refine aP hc ⟨o1,o2,trivial⟩ ?_;refine zC (.t [.i .u64 (.n u),.o .nilIface]) hpu aSf ?_;have o4:(Obl.inR .u32 (.n u)).ok:=bF8 hu9;have hlb:(out.length+1)*4<=140737488355328:=by have:=hr.n;omega
  have qO:out.length+1<=9223372036854775807:=zW
  have cQ:=cQ hq0
  have hq9:q - 9<q:=zW
  cbv;refine aP hc ⟨o4,trivial⟩ ?_;refine fK hc _ rfl rfl rfl hG rfl rfl rfl rfl rfl rfl rfl rfl rfl cJ hlb qO (λa' n' aU l' hn' hl'=>?_);have hl':l'=out++[(u:Int)]:=hl';apply zN hc;cbv;refine aP hc ⟨o3,trivial⟩ ?_;exact zU 0 (S':=I ⟨⟨_,a',aU,n',q - 9,l'⟩,f2,by rw[hl'];exact cQ,by rw[hl',hn'];simp⟩) (K':=[]) zL trivial (kof _ _ _ _) (hy _ hq9)
 ·have hq0:=bE6 h
  have hr0:RdS l 0 out:=by rw[<-hq0];exact hr
  have hv:=hr0.done
  rw[pB]at hv;have hk':k<=2^38:=by rw[hk];have:=hr.n;omega
  cbv;refine oA (hG _ _ _ _) ?_;refine eB hc (R:=R) sW (λn0 D X μ a w aK H aG=>?_) 100 ?_
  ·obtain⟨v1,rfl,h1⟩:=bN aG;have h1:=nF h1;rw[h1,hRR,<-hv];exact mD hr0.wd (by have:=hr.n;omega) H.xlt (H.cst (.head _))
  cbv;refine bB hc hR rfl (λX μ a w v' H hv'=>?_);exact H.toP.val (.head _) hv'
end Go.Ai
namespace Go.Ai
open Go Go.Proofs Go.Num
theorem zJ:aB PP 267:=zK
theorem aBk:aB PP 268:=zK
theorem dZ {n:Nat}{v:Value}{X:Nat->Prop}{w:World}(h:(aI n).p v X w):v.oneCell'=true:=by
 obtain⟨a,cap,e,_⟩:=h;rw[e];rfl
theorem aYm {n:Nat}(h:dl n<=2^38):(aJ n).size<=2^60:=by rw[fS];exact lTr h zV
theorem aDt {n:Nat}(h:dl n<=2^38):Pure PP 225 [.string (aJ n)] (.bool true):=by
 have:=aM0 (aJ n) (aYm h)
 rwa [cZ,gZ]at this
def aIq (n m:Nat):RV:=.tp [.one (.x (aI n)),.one (.x (aI m)),.one (.i .i64 (.l 0))]
theorem tY {n m:Nat}(hn:dl n<=2^38)(hm:dl m<=2^38):fD PP 267 [.one (.s (.v (aJ n))),.one (.s (.v (aJ m)))] (aIq n m):=by
 intro args X w hX hp;match args,hp with
 | [_,_],⟨rfl,rfl,_⟩=>
 obtain⟨R,hRR⟩:=nm (lR (aIq n m));obtain⟨R1,hR1⟩:=nm (aI n);obtain⟨R2,hR2⟩:=nm (aI m);rw[<-hRR];have h1:=aDt hn;have h2:=aDt hm;have h3:∀{X:Nat->Prop} {w:World},(∀b,X b->b<w.heap.size)->Fn PP 283 [.string (aJ n)] X w R1:=λhX=>by rw[hR1];exact aGb hn hX
 have h4:∀{X:Nat->Prop} {w:World},(∀b,X b->b<w.heap.size)->Fn PP 283 [.string (aJ m)] X w R2:=λhX=>by rw[hR2];exact aGb hm hX
 show Fn PP _ [.string (aJ n),.string (aJ m)] X w R
 obtain⟨s,hs⟩:=nm (aJ n);obtain⟨t,ht⟩:=nm (aJ m);rw[<-hs]at h1 h3 |-;rw[<-ht]at h2 h4 |-;refine bJ mixed tok [.s (.v s),.s (.v t)] (K:=[]) Tryz.func267 rfl rfl (lbl rfl) rfl hX (λf hf=>by cases hf) λc hc hR=>?_;apply zN hc;cbv;refine zC (.b (.l true)) h1 sS ?_;cbv;refine zC (.b (.l true)) h2 sS ?_;cbv;refine eB hc (R:=R1) aSh (λn0 D X μ a w aK H aG=>?_) 100 ?_
 ·obtain⟨v1,rfl,h⟩:=bN aG;rw[dW h];exact h3 H.xlt
 cbv;refine eB hc (R:=R2) aSh (λn0 D X μ a w aK H aG=>?_) 100 ?_
 ·obtain⟨v1,rfl,h⟩:=bN aG;rw[dW h];exact h4 H.xlt
 cbv;refine bB hc hR rfl (λX μ a w v H hv=>?_);obtain⟨vs,hvs,rfl⟩:=rJ hv;obtain⟨v1,v2,v3,rfl,e1,e2,e3⟩:=mS hvs;have q1:=H.toP.val (R:=R1) (.tail _ (.head _)) e1;have q2:=H.toP.val (R:=R2) (.head _) e2;rw[hR1]at q1;rw[hR2]at q2;rw[hRR];exact⟨[v1,v2,v3],rfl,⟨dZ q1,q1⟩,⟨dZ q2,q2⟩,bY e3,trivial⟩
theorem aRl {g n m r:Nat}{v u:Value}{X:Nat->Prop}{w:World}(cg:aB PP g)(hr:(aC r).length<=2^38)(hX:∀b,X b->b<w.heap.size)(hv:(aI n).p v X w)(hu:(aI m).p u X w)
  (hop:∀{X:Nat->Prop} {w:World},(∀b,X b->b<w.heap.size)->(aI n).p v X w->(aI m).p u X w->Fn PP g [v,u] X w (aI r)):
  Fn PP 268 [.func (.func g) #[v] #[],u] X w (eE (.tuple #[.string (aJ r),.int .i64 0])):=by
 obtain⟨R,hRR⟩:=nm (eE (.tuple #[.string (aJ r),.int .i64 0]));obtain⟨s,hs⟩:=nm (aJ r);obtain⟨K,hK⟩:=nm ([KF.cst v (aI n),KF.cst u (aI m)]);obtain⟨R1,hR1⟩:=nm (aI r);rw[<-hRR];refine bJ mixed tok [.f (.func g) [.q v] [],.q u] (K:=K) Tryz.func268 rfl rfl (lbl rfl) rfl hX (by rw[hK];simp;exact⟨hv,hu⟩) λc hc hR=>?_;apply zN hc;cbv;refine eB hc (R:=R1) cg (λn0 D X μ a w aK H aG=>?_) 100 ?_
 ·obtain⟨v1,v2,rfl,e1,e2⟩:=bI aG;rw[aHg e1,aHg e2,hR1];exact hop H.xlt (H.cst (by rw[hK];exact .head _)) (H.cst (by rw[hK];exact .tail _ (.head _)))
 cbv;refine cE hc (.s (.v s)) (r:=.string s) aL1 (λn0 D X μ a w aK H aG=>?_) rfl 100 ?_
 ·obtain⟨v1,rfl,e1⟩:=bN aG;have q1:=H.val (R:=R1) (.head _) e1;rw[hR1]at q1;rw[hs];exact aAs hr H.xlt q1
 cbv;refine bB hc hR rfl (λX μ a w v' H hv'=>?_);obtain⟨vs,hvs,rfl⟩:=rJ hv';obtain⟨v1,v2,rfl,e1,e2⟩:=bI hvs;rw[hRR,dW e1,bY e2,<-hs];rfl
theorem aN1 {c:Cx}{K:List KF}{n0:Nat}{D:Nat->Prop}{S:St}{X:Nat->Prop}{μ:Mu}{a:Act}{w:World}(H:PSim c K n0 D S X μ a w){F:VF}{k n m:Nat}{v:Value}(hm:KF.at k F∈K)(hF:F=lR (aIq n m))(e:aD μ (.ec k 0)=some v):(aI n).p v X w:=
 ((bM.ec (c:=.x (aI n)) hm hF rfl).ok H.kf e).2
theorem aIp {c:Cx}{K:List KF}{n0:Nat}{D:Nat->Prop}{S:St}{X:Nat->Prop}{μ:Mu}{a:Act}{w:World}(H:PSim c K n0 D S X μ a w){F:VF}{k n m:Nat}{v:Value}(hm:KF.at k F∈K)(hF:F=lR (aIq n m))(e:aD μ (.ec k 1)=some v):(aI m).p v X w:=
 ((bM.ec (c:=.x (aI m)) hm hF rfl).ok H.kf e).2
theorem jC {n:Nat}(h:dl n<=2^37):(aC n).length<=2^38:=lTr (cX n) (lTr h zV)
theorem uG {n:Nat}(h:dl n<=2^37):(aC n).length<=2^39:=lTr (cX n) (lTr h zV)
theorem nY {n:Nat}(h:dl n<=2^37):(aC n).length<=2^40:=lTr (cX n) (lTr h zV)
theorem aBh {k:Nat}(h:k<=2^37):k<=2^38:=lTr h zV
theorem bAx {n m:Nat}(hn:dl n<=2^37)(hm:dl m<=2^37):(aC (Nat.gcd n m)).length<=2^38:=by
 by_cases h:n=0
 ·rw[h,Nat.gcd_zero_left];exact jC hm
 ·exact lTr (bS (Nat.gcd_le_left m zW)) (jC hn)
theorem wT {c:Cx}{K:List KF}{n0:Nat}{D:Nat->Prop}{S:St}{X:Nat->Prop}{μ:Mu}{a:Act}{w:World}(H:PSim c K n0 D S X μ a w){F:VF}{g k n m r:Nat}{aK:List Value}(hm:KF.at k F∈K)(hF:F=lR (aIq n m))(e:aF μ [.f (.func g) [.ec k 0] [],.ec k 1]=some aK)
  (cg:aB PP g) (hr:(aC r).length<=2^38) (hop:∀{X:Nat->Prop} {w:World} {v u:Value},(∀b,X b->b<w.heap.size)->(aI n).p v X w->(aI m).p u X w->Fn PP g [v,u] X w (aI r)):
  Fn PP 268 aK X w (eE (.tuple #[.string (aJ r),.int .i64 0])):=by
 obtain⟨v1,v2,rfl,e1,e2⟩:=bI e;obtain⟨us,vs,h1,h2,rfl⟩:=aHf e1;obtain⟨x,rfl,e3⟩:=bN h1;simp only[aF]at h2;injection h2 with h2;subst h2
 exact aRl cg hr H.xlt (aN1 H hm hF e3) (aIp H hm hF e2) hop
theorem bFm {n m:Nat}(hn:dl n<=2^37)(hm:dl m<=2^37):Pure PP 271 [.string (aJ n),.string (aJ m)] (.tuple #[.string (aJ (n+m)),.int .i64 0]):=by
 have hb:=tY (aBh hn) (aBh hm)
 have hbd:(aC (n+m)).length<=2^38:=(lTr (cX _) (lTr (aS8 n m) zW))
 obtain⟨s,hs⟩:=nm (aJ n);obtain⟨t,ht⟩:=nm (aJ m);obtain⟨r,hr⟩:=nm (aJ (n+m));rw[<-hs,<-ht,<-hr];rw[<-hs,<-ht]at hb;refine zF [.s (.v s),.s (.v t)] Tryz.func271 λc hc hR=>?_;cbv;refine gM hc zJ hb ⟨.s rfl,.s rfl,trivial⟩ (.t [.ec 0 0,.ec 0 1,.i .i64 (.l 0)]) 100 (λFB hFB=>?_);cbv;refine cE hc (.t [.s (.v r),.i .i64 (.l 0)]) (r:=.tuple #[.string r,.int .i64 0]) aBk (λn0 D X μ a w aK H aG=>?_) rfl 100 ?_
 ·rw[hr];exact wT H (.head _) hFB aG bAg hbd (λhX hv hu=>aQt (nY hn) (nY hm) hX hv hu)
 cbv;exact zR
theorem bB9 {n m:Nat}(hn:dl n<=2^37)(hm:dl m<=2^37):Pure PP 254 [.string (aJ n),.string (aJ m)] (.tuple #[.string (aJ (n*m)),.int .i64 0]):=by
 have hb:=tY (aBh hn) (aBh hm)
 have hbd:(aC (n*m)).length<=2^38:=(lTr (cX _) (lTr (rL n m) zW))
 obtain⟨s,hs⟩:=nm (aJ n);obtain⟨t,ht⟩:=nm (aJ m);obtain⟨r,hr⟩:=nm (aJ (n*m));rw[<-hs,<-ht,<-hr];rw[<-hs,<-ht]at hb;refine zF [.s (.v s),.s (.v t)] Tryz.func254 λc hc hR=>?_;cbv;refine gM hc zJ hb ⟨.s rfl,.s rfl,trivial⟩ (.t [.ec 0 0,.ec 0 1,.i .i64 (.l 0)]) 100 (λFB hFB=>?_);cbv;refine cE hc (.t [.s (.v r),.i .i64 (.l 0)]) (r:=.tuple #[.string r,.int .i64 0]) aBk (λn0 D X μ a w aK H aG=>?_) rfl 100 ?_
 ·rw[hr];exact wT H (.head _) hFB aG aG5 hbd (λhX hv hu=>aEh (uG hn) (uG hm) hX hv hu)
 cbv;exact zR
theorem bIg {n m:Nat}(hn:dl n<=2^37)(hm:dl m<=2^37):Pure PP 251 [.string (aJ n),.string (aJ m)] (.tuple #[.string (aJ (Nat.gcd n m)),.int .i64 0]):=by
 have hb:=tY (aBh hn) (aBh hm)
 have hbd:(aC (Nat.gcd n m)).length<=2^38:=(bAx hn hm)
 obtain⟨s,hs⟩:=nm (aJ n);obtain⟨t,ht⟩:=nm (aJ m);obtain⟨r,hr⟩:=nm (aJ (Nat.gcd n m));rw[<-hs,<-ht,<-hr];rw[<-hs,<-ht]at hb;refine zF [.s (.v s),.s (.v t)] Tryz.func251 λc hc hR=>?_;cbv;refine gM hc zJ hb ⟨.s rfl,.s rfl,trivial⟩ (.t [.ec 0 0,.ec 0 1,.i .i64 (.l 0)]) 100 (λFB hFB=>?_);cbv;refine cE hc (.t [.s (.v r),.i .i64 (.l 0)]) (r:=.tuple #[.string r,.int .i64 0]) aBk (λn0 D X μ a w aK H aG=>?_) rfl 100 ?_
 ·rw[hr];exact wT H (.head _) hFB aG bDs hbd (λhX hv hu=>aTi (jC hn) (jC hm) hX hv hu)
 cbv;exact zR
theorem aUn {n m:Nat}(hn:dl n<=2^37)(hm:dl m<=2^37):Pure PP 272 [.string (aJ n),.string (aJ m)] (.tuple #[.int .i64 (bD n m),.int .i64 0]):=by
 have hb:=tY (aBh hn) (aBh hm)
 obtain⟨s,hs⟩:=nm (aJ n);obtain⟨t,ht⟩:=nm (aJ m);obtain⟨z,hz⟩:=nm (bD n m);rw[<-hs,<-ht,<-hz];rw[<-hs,<-ht]at hb;refine zF [.s (.v s),.s (.v t)] Tryz.func272 λc hc hR=>?_;cbv;refine gM hc zJ hb ⟨.s rfl,.s rfl,trivial⟩ (.t [.ec 0 0,.ec 0 1,.i .i64 (.l 0)]) 100 (λFB hFB=>?_);cbv;refine cE hc (.i .i64 (.v z)) (r:=.int .i64 z) zP (λn0 D X μ a w aK H aG=>?_) rfl 100 ?_
 ·obtain⟨v1,v2,rfl,e1,e2⟩:=bI aG;rw[hz];exact rF (nY hn) (nY hm) H.xlt (aN1 H (.head _) hFB e1) (aIp H (.head _) hFB e2)
 cbv;exact zR
theorem aJi {n m:Nat}{z:Int}(hz:z=bD n m)(h:m<=n):¬z<0:=by rw[hz];unfold bD;split<;>(try split)<;>omega
theorem bCa {n m:Nat}(hnm:m<=n)(hn:dl n<=2^37)(hm:dl m<=2^37):Pure PP 273 [.string (aJ n),.string (aJ m)] (.tuple #[.string (aJ (n - m)),.int .i64 0]):=by
 have hb:=tY (aBh hn) (aBh hm)
 have hbd:(aC (n - m)).length<=2^38:=lTr (bS (Nat.sub_le n m)) (jC hn)
 obtain⟨s,hs⟩:=nm (aJ n);obtain⟨t,ht⟩:=nm (aJ m);obtain⟨r,hr⟩:=nm (aJ (n - m));obtain⟨z,hz⟩:=nm (bD n m);have hz0:=aJi hz hnm;rw[<-hs,<-ht,<-hr];rw[<-hs,<-ht]at hb;refine zF [.s (.v s),.s (.v t)] Tryz.func273 λc hc hR=>?_;cbv;refine gM hc zJ hb ⟨.s rfl,.s rfl,trivial⟩ (.t [.ec 0 0,.ec 0 1,.i .i64 (.l 0)]) 100 (λFB hFB=>?_);cbv;refine cE hc (.i .i64 (.v z)) (r:=.int .i64 z) zP (λn0 D X μ a w aK H aG=>?_) rfl 100 ?_
 ·obtain⟨v1,v2,rfl,e1,e2⟩:=bI aG;rw[hz];exact rF (nY hn) (nY hm) H.xlt (aN1 H (.head _) hFB e1) (aIp H (.head _) hFB e2)
 cbv;refine aE rfl 100 (λh=>absurd (BE.lt_t h) hz0) (λh=>?_);cbv;refine cE hc (.t [.s (.v r),.i .i64 (.l 0)]) (r:=.tuple #[.string r,.int .i64 0]) aBk (λn0 D X μ a w aK H aG=>?_) rfl 100 ?_
 ·rw[hr];exact wT H (.head _) hFB aG aWl hbd (λhX hv hu=>aMy hnm (Nat.lt_of_le_of_lt (uG hn) zV) (Nat.lt_of_le_of_lt (uG hm) zV) hX hv hu)
 cbv;exact zR
theorem aO7 {n m:Nat}(hm0:0<m)(hn:dl n<=2^37)(hm:dl m<=2^37):Pure PP 277 [.string (aJ n),.string (aJ m)] (.tuple #[.string (aJ (n/m)),.string (aJ (n%m)),.int .i64 0]):=by
 have hb:=tY (aBh hn) (aBh hm)
 have hb1:(aC (n/m)).length<=2^38:=lTr (bS (Nat.div_le_self n m)) (jC hn)
 have hb2:(aC (n%m)).length<=2^38:=lTr (bS (Nat.mod_le n m)) (jC hn)
 obtain⟨s,hs⟩:=nm (aJ n);obtain⟨t,ht⟩:=nm (aJ m);obtain⟨r1,hr1⟩:=nm (aJ (n/m));obtain⟨r2,hr2⟩:=nm (aJ (n%m));rw[<-hs,<-ht,<-hr1,<-hr2];rw[<-hs,<-ht]at hb;obtain⟨R1,hR1⟩:=nm (aI (n/m));obtain⟨R2,hR2⟩:=nm (aI (n%m));have hlm:0<(aC m).length:=by rw[bZ (Nat.pos_iff_ne_zero.1 hm0)];simp
 refine zF [.s (.v s),.s (.v t)] Tryz.func277 λc hc hR=>?_;cbv;refine gM hc zJ hb ⟨.s rfl,.s rfl,trivial⟩ (.t [.ec 0 0,.ec 0 1,.i .i64 (.l 0)]) 100 (λFB hFB=>?_);cbv;refine dE 24 .u32 (aC m) rfl rfl (λX μ a w v' H hv'=>aIp H.toP (.head _) hFB hv') λf' M aU hM hf' gY=>?_;have hM0:0<M:=by rw[hM];exact hlm
 apply zN hc;cbv;refine aE rfl 100 (λh=>absurd (BE.eqnl_t (k:=0) h) (Nat.pos_iff_ne_zero.1 hM0)) (λh=>?_);cbv;refine eB hc (R:=jG R1 R2) aIx (λn0 D X μ a w aK H aG=>?_) 100 ?_
 ·obtain⟨v1,v2,rfl,e1,e2⟩:=bI aG;rw[hR1,hR2];exact aAz hm0 (jC hn) (jC hm) H.xlt (aN1 H (.head _) hFB e1) (aIp H (.head _) hFB e2)
 cbv;refine mZ 27 2 (R1:=R1) (R2:=R2) rfl rfl (.head _) ?_;apply zN hc;cbv;refine cE hc (.s (.v r1)) (r:=.string r1) aL1 (λn0 D X μ a w aK H aG=>?_) rfl 100 ?_
 ·obtain⟨v1,rfl,e1⟩:=bN aG;have q1:=H.val (R:=R1) (.head _) e1;rw[hR1]at q1;rw[hr1];exact aAs hb1 H.xlt q1
 cbv;refine cE hc (.s (.v r2)) (r:=.string r2) aL1 (λn0 D X μ a w aK H aG=>?_) rfl 100 ?_
 ·obtain⟨v1,rfl,e1⟩:=bN aG;have q1:=H.val (R:=R2) (.tail _ (.head _)) e1;rw[hR2]at q1;rw[hr2];exact aAs hb2 H.xlt q1
 cbv;exact zR
end Go.Ai
