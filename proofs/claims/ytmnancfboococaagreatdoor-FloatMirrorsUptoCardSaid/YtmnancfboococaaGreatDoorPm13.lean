/- Part 14 of the proof: garboardlaw17.FloatMirrors returns true, where what it reads is of bulk at most 1048576. -/
import Derived.Shelf.Strings.Builder1
import Derived.Lib.Walk
import Derived.Lib.ItoaMem
import Derived.Lib.AppendIntMem
import Derived.Lib.OthersKept
import Derived.WalkKit
import Derived.BigCall
import Derived.BigGuard
import Derived.RangeFuncNested
import Derived.RangeFuncBound
import Derived.RangeFuncCalls
import Derived.RangeFuncLeaves
import Derived.RangeFuncBox
import Derived.Shelf.Abstract
import Derived.Shelf.RegionOpen
import Derived.OwnWalkIn
import Derived.TacticsInMore
import Derived.LoopNIn
import Derived.LoopIn
import Derived.Lib.Hide
import Derived.Test.YtmnancfboococaaGreatDoorProg
import Derived.Test.YtmnancfboococaaGreatDoorPm6
import Derived.Test.YtmnancfboococaaGreatDoorPm9
import Derived.Test.YtmnancfboococaaGreatDoorPm12
set_option linter.all false
namespace Go.Proofs
open Go.Shelf Go.RowKit Go.Sort Go.Lib
set_option maxHeartbeats 1000000 in
set_option maxRecDepth 100000 in
theorem Tryz.cc_used (b:Nat)(w:World)(h0:w.cell? ⟨b,0,none⟩=some (.pointer (some ⟨b,0,none⟩))):
  Calls Tryz.prog 296 #[.pointer (some ⟨b,0,none⟩)] w fun e w'=>e=.returned (.tuple #[])∧w'=w:=by
 obtain⟨j,hj,_⟩:=Option.map_eq_some_iff.1 (Tryz.Builder_Extra_169.toX72.sizeBuilder);have u1:=run_underlying (P:=Tryz.prog) Tryz.underlying330
 have u2:=run_underlying (P:=Tryz.prog) Tryz.underlying328
 go_enter Tryz.func296,Tryz.ntmps296
 go_wp2
 rw[Lib.run_neq_ptr_same w _ Tryz.underlying328 hj]
 go_wp2
 go_end0
 exact⟨rfl,rfl⟩
set_option maxHeartbeats 1000000 in
set_option maxRecDepth 100000 in
theorem Tryz.cc_fresh (b:Nat)(w:World)(h0:w.cell? ⟨b,0,none⟩=some (.pointer none))(hsh:w.shape? b=some (330,2))(hfz:w.frozen? ⟨b,0,none⟩=false):
  Calls Tryz.prog 296 #[.pointer (some ⟨b,0,none⟩)] w fun e w'=>e=.returned (.tuple #[])∧w'=w.setCell ⟨b,0,none⟩ (.pointer (some ⟨b,0,none⟩)):=by
 obtain⟨j,hj,hjs⟩:=Option.map_eq_some_iff.1 (Tryz.Builder_Extra_169.toX72.sizeBuilder);have u1:=run_underlying (P:=Tryz.prog) Tryz.underlying330
 have u2:=run_underlying (P:=Tryz.prog) Tryz.underlying328
 go_enter Tryz.func296,Tryz.ntmps296
 go_wp2
 rw[Lib.run_to_unsafe w ⟨b,0,none⟩ Tryz.underlying328 Tryz.underlying367 hj (by rw[hjs];decide) hsh (Nat.zero_lt_succ 1)];simp only[Result.andThen];rw[Oper.upon_value]
 go_wp2
 rw[run_callFunc_extern Tryz.func313 (by kernel_rfl) (by kernel_rfl) (by kernel_rfl) (e:=Extern.AbiNoEscape.same) (by kernel_rfl)];rw[Lib.run_noEscape];simp only[Result.andThen];rw[Oper.upon_value]
 go_wp2
 rw[Lib.run_from_unsafe w ⟨b,0,none⟩ Tryz.underlying367 Tryz.underlying328 hj hsh (Tryz.Builder_Extra_169.toX72.liesBuilder)];simp only[Result.andThen];rw[Oper.upon_value]
 go_wp2
 go_end0
 exact⟨rfl,rfl⟩
theorem Tryz.cc (B b:Nat)(bs:List Value)(w:World)(h:Lib.IsBuilder 330 5 B b bs w):
  Calls Tryz.prog 296 #[.pointer (some ⟨b,0,none⟩)] w fun e w'=>e=.returned (.tuple #[])∧(Lib.BuilderAt 330 5 B b (.pointer (some ⟨b,0,none⟩)) bs w'∧Below B w w'∧Lib.OthersKept 5 (some b) w w'):=by
 rcases h with h | h
 ·refine(Tryz.cc_fresh b w h.cell0 h.shape h.frozen0).mono ?_;rintro e w' ⟨rfl,rfl⟩;exact⟨rfl,h.used _,(Below.refl B w).setCell (p:=⟨b,0,none⟩) h.1 _,(Lib.OthersKept.refl _ _ w).setCell ⟨b,0,none⟩ rfl _⟩
 ·refine(Tryz.cc_used b w h.cell0).mono ?_;rintro e w' ⟨rfl,rfl⟩;exact⟨rfl,h,Below.refl B _,Lib.OthersKept.refl _ _ _⟩
set_option maxHeartbeats 2000000 in
set_option maxRecDepth 100000 in
theorem Tryz.writeS (B b:Nat)(bs:List Value)(s:ByteArray)(w:World)(h:Lib.IsBuilder 330 5 B b bs w)(hlen:bs.length+s.size≤140737488355328)(hBw:B≤w.heap.size):
  Calls Tryz.prog 278 #[.pointer (some ⟨b,0,none⟩),.string s] w fun e w'=>e=.returned (.tuple #[.int .i64 s.size,.nilIface])∧(Lib.BuilderAt 330 5 B b (.pointer (some ⟨b,0,none⟩)) (bs++Lib.strCells s) w'∧Below B w w'∧Lib.OthersKept 5 (some b) w w'):=by
 obtain⟨i0,hi,hz0,hz1,hz2⟩:=info_parts (Tryz.Builder_Extra_169.infoByte);have u1:=run_underlying (P:=Tryz.prog) Tryz.underlying330
 have u2:=run_underlying (P:=Tryz.prog) Tryz.underlying328
 have u5:=run_underlying (P:=Tryz.prog) Tryz.underlying5
 go_enter Tryz.func278,Tryz.ntmps278
 go_wp2_with (go_at_call 296;refine(Tryz.cc B b bs _ h).mono ?_)
 rintro e w1 ⟨rfl,h1,hb1,hk1⟩;obtain⟨hB,v,hbk,dW,hne⟩:=h1;have c0:w1.cell? ⟨b,0,none⟩=some (.pointer (some ⟨b,0,none⟩)):=by rw[Lib.cell_of_heap hbk];rfl
 have c1:w1.cell? ⟨b,1,none⟩=some v:=by rw[Lib.cell_of_heap hbk];rfl
 go_wp2_with (at_builtin;refine Lib.wpList_append_own_string _ rfl _ _ 189 9 rfl B 5 i0 Tryz.underlying189 Tryz.underlying9 hi hz0 hz1 hz2 _ _ _ rfl dW s rfl ?c3 ?c4 ?c5 ?_)
 case c3=>unfold maxLen;omega
 case c4=>omega
 case c5=>have:=hb1.size;omega
 intro v' w2 aMc aHb _;have hlt:b<w1.heap.size:=by
  rcases Nat.lt_or_ge b w1.heap.size with h' | h'
  ·exact h'
  ·simp[Array.getElem?_eq_none h']at hbk
 have hb2:w2.heap[b]?=some (.cells #[.pointer (some ⟨b,0,none⟩),v] 330 (0,0)):=by
  rw[aHb.block b hlt (fun e=>hne e.symm)];exact hbk
 have d0:w2.cell? ⟨b,0,none⟩=some (.pointer (some ⟨b,0,none⟩)):=by rw[Lib.cell_of_heap hb2];rfl
 have d1:w2.cell? ⟨b,1,none⟩=some v:=by rw[Lib.cell_of_heap hb2];rfl
 have f1:w2.frozen? ⟨b,1,none⟩=false:=Lib.frozen_of_heap hb2 1
 obtain⟨ao,n',cap,rfl⟩:∃ao n' cap,v'=.slice ao n' cap:=by
  rcases aMc.2 with⟨hv,_⟩ | ⟨g,cap,cur,hv,_⟩
  ·exact⟨_,_,_,hv⟩
  ·exact⟨_,_,_,hv⟩
 go_wp2
 go_ret2
 refine⟨rfl,?_,?_,(hk1.grown aHb ?_).setCell ⟨b,1,none⟩ rfl _⟩
 ·exact Lib.BuilderAt.put (T:=330) (e:=5) hB hb2 (bs':=bs++Lib.strCells s) (by simpa[Lib.strCells_length]using aMc) (by decide)
 ·exact(hb1.grown aHb (by have:=hb1.size;omega) (fun k hk=>(dW.lt k hk).1)).setCell (p:=⟨b,1,none⟩) hB _
 ·intro g hg
  rcases dW.2 with⟨rfl,_⟩ | ⟨g',aZ,cur,rfl,_,hgg,_⟩
  ·simp[Value.ownBlock]at hg
  ·simp[Value.ownBlock]at hg;subst hg;exact⟨cur,_,hgg⟩
theorem Tryz.fin0 (w:World)(o:Obj)(dk:Array UInt8)(k:Nat):∃os,(putRow (fun(b:UInt8)=>Value.int .u8 (b.toNat:Int)) (w.alloc o) w.heap.size 0 dk).drewN k=grow (w.drewN k) os:=by
 rw[alloc_eq_grow];obtain⟨os',_,e⟩:=putRow_grow_new (fun(b:UInt8)=>Value.int .u8 (b.toNat:Int)) w #[o] w.heap.size 0 dk (lRf _);exact⟨os',by rw[e];rfl⟩
set_option maxHeartbeats 6400000 in
set_option maxRecDepth 100000 in
theorem Tryz.ifmtU (u:Nat)(aJ0:u<18446744073709551616)(w:World)(aCm:Lib.TabIs Tryz.prog w "internal/strconv.uint64pow10" .u64 Lib.pow10Tab):
  Calls Tryz.prog 295 #[.int .u64 u,.int .i64 10] w fun e w'=>e=.returned (.string ⟨(Lib.decDigits u).toArray⟩)∧∃k os,w'=grow (w.drewN k) os:=by
 by_cases hs:u<100
 ·go_enter Tryz.func295,Tryz.ntmps295
  go_wp2_with (go_at_call 290;refine(Tryz.internal_strconv_small u hs _).mono ?_;rintro e w' ⟨rfl,rfl⟩)
  go_ret
  exact⟨rfl,0,#[],by simp[World.drewN_zero]⟩
 ·have hu1:1≤u:=by omega
  have bFr:Lib.nDigits u≤20:=by have:=Lib.numDigits_eq u hu1 aJ0;split at this<;>omega
  have hb3:Lib.nDigits u≤24:=by omega
  have hal:Tryz.prog.arrayLen 347=24:=by simp[Program.arrayLen,Tryz.underlying347]
  have aUy:∀W,(Instr.sliceAt 347 (.pointer (some ⟨w.heap.size,0,none⟩)) none (some (.int .i64 (Lib.nDigits u:Int))) none).run Tryz.prog W=.ok (.slice (some ⟨w.heap.size,0,none⟩) (Lib.nDigits u) 24) W:=fun W=>by
   rw[run_sliceAt_array_h W 347 ⟨w.heap.size,0,none⟩ (by simp[Program.arrayLen,Program.elem,Tryz.underlying347]) .i64 (Lib.nDigits u:Int) (by omega) (by rw[hal];omega)]
   go_simp
  have hH0:Holds (fun(b:UInt8)=>Value.int .u8 (b.toNat:Int)) (w.alloc (.cells Lib.zeros24 347)) w.heap.size 0 (Array.replicate (Lib.nDigits u) (0:UInt8)):=fun j hj=>by
   rw[Array.size_replicate]at hj;rw[World.cell?_alloc_new,Nat.zero_add,zeros24_at _ (by omega),getElem!_pos _ j (by rw[Array.size_replicate];exact hj)];simp
  have bBx:=Tryz.internal_strconv_formatBase10 w.heap.size 0 24 u (Array.replicate (Lib.nDigits u) 0) (w.alloc (.cells Lib.zeros24 347)) hH0 (by rw[Array.size_replicate];exact Lib.lt_pow_nDigits u) aJ0 (by rw[Array.size_replicate];omega)
  rw[Array.size_replicate]at bBx;have HH0:=Lib.hid hH0
  clear hH0 hal
  go_enter Tryz.func295,Tryz.ntmps295
  go_wp2_with (first
   | (go_at_call 291;refine(Tryz.internal_strconv_numDigits u hu1 aJ0 _ (Lib.tabIs_alloc aCm _)).mono ?_;rintro e w' ⟨rfl,rfl⟩))
  go_at_call 292
  refine bBx.mono ?_;rintro e w' ⟨rfl,k,v',dk,rfl,hF⟩;have hcv:(convert 189 9 (.slice (some ⟨w.heap.size,0,none⟩) (Lib.nDigits u) 24)).run Tryz.prog ((putRow (fun(b:UInt8)=>Value.int .u8 (b.toNat:Int)) (w.alloc (.cells Lib.zeros24 347)) w.heap.size 0 dk).drewN k)=.ok (.string ⟨(Lib.decDigits u).toArray⟩) ((putRow (fun(b:UInt8)=>Value.int .u8 (b.toNat:Int)) (w.alloc (.cells Lib.zeros24 347)) w.heap.size 0 dk).drewN k):=by
   have h:=run_convert_bytes_back (P:=Tryz.prog) ((putRow (fun(b:UInt8)=>Value.int .u8 (b.toNat:Int)) (w.alloc (.cells Lib.zeros24 347)) w.heap.size 0 dk).drewN k) 189 9 5 ⟨w.heap.size,0,none⟩ 24 (Lib.decDigits u) Tryz.underlying189 Tryz.underlying5 Tryz.underlying9 (fun j hj=>by
    rw[Lib.row_is_numeral hF j hj,Lib.add_plain,World.cell?_drewN];exact cell?_putRow (fun(b:UInt8)=>Value.int .u8 (b.toNat:Int)) _ w.heap.size 0 _ dk HH0.out (by rw[hF.size,Array.size_replicate]) j (by rw[hF.size];rw[Lib.decDigits_length]at hj;exact hj))
   rw[Lib.decDigits_length]at h;exact h
  go_wp2
  go_ret
  obtain⟨os,eo⟩:=Tryz.fin0 w (.cells Lib.zeros24 347) dk k;exact⟨rfl,k,os,eo⟩
theorem Tryz.fmtU (u:Nat)(aJ0:u<18446744073709551616)(w:World)(aCm:Lib.TabIs Tryz.prog w "internal/strconv.uint64pow10" .u64 Lib.pow10Tab):
  Calls Tryz.prog 277 #[.int .u64 u,.int .i64 10] w fun e w'=>e=.returned (.string ⟨(Lib.decDigits u).toArray⟩)∧Below w.heap.size w w':=by
 go_enter Tryz.func277,Tryz.ntmps277
 go_wp2_with (go_at_call 295;refine(Tryz.ifmtU u aJ0 _ aCm).mono ?_;rintro e w' ⟨rfl,k,os,rfl⟩)
 go_ret
 exact⟨rfl,Lib.below_grow _ _ (lRf _) _ _⟩
end Go.Proofs
namespace Go.Proofs
open Go.RowKit Go.Shelf
attribute [local go_sem] Oper.semAt_some
def Tryz.Kb (n₀ bb:Nat)(A B:World):Prop:=Below n₀ A B∧∀k c t fz,A.heap[k]?=some (.cells c t fz)→t≠5→k≠bb→B.heap[k]?=some (.cells c t fz)
theorem Tryz.Kb.refl (n₀ bb:Nat)(A:World):Tryz.Kb n₀ bb A A:=⟨Below.refl _ _,fun _ _ _ _ h _ _=>h⟩
theorem Tryz.Kb.trans {n₀ bb:Nat}{A B C:World}(h:Tryz.Kb n₀ bb A B)(h':Tryz.Kb n₀ bb B C):Tryz.Kb n₀ bb A C:=⟨h.1.trans h'.1,fun k c t fz h1 h2 h3=>h'.2 k c t fz (h.2 k c t fz h1 h2 h3) h2 h3⟩
theorem Tryz.Kb.put {n₀ bb:Nat}{w:World}(hn:n₀≤w.heap.size)(W:World)(l:Nat)(o o':Obj)(hl:w.heap.size≤l)(h:W.heap[l]?=some o)(hc:o.isCells=false)(hw:o.isWalk=false):Tryz.Kb n₀ bb W (W.putObj l o'):=by
 refine⟨belowK_b hn W l o o' hl h hc hw,fun k c t fz hk _ _=>?_⟩;have hne:k≠l:=by rintro rfl;rw[hk]at h;cases h;simp[Obj.isCells]at hc
 rw[←hk];simp[World.putObj,Array.getElem?_setIfInBounds,Ne.symm hne]
set_option maxRecDepth 100000 in
set_option maxHeartbeats 2000000 in
theorem Tryz.back1_in (F:Fence)(n:Nat)(h7:F.fn 294)(hro:F.round=none)(hn:1≤n)(l Bs n₀ bb b off len cap:Nat)(zs:List Int)(hlen:len≤1099511627776)(hb:b<n₀)(J Jx:List Nat→World→Prop)
  (hY:∀pre x W,J pre W→pre.length<len→YieldAt F (n - 1) Tryz.prog l #[.int .i64 ((len - 1 - x:Nat):Int),.int .u32 (zs[len - 1 - x]?.getD 0)] W fun e W'=>
   (e=.returned (.bool true)∧J (pre++[x]) W'∧Tryz.Kb n₀ bb W W')∨(e=.returned (.bool false)∧Jx (pre++[x]) W'))
  (W:World) (aYg:Bs≠bb) (hBs:W.heap[Bs]?=some (.cells #[.slice (some ⟨b,off,none⟩) len cap] 297 (0,0))) (hc:∀j,j<len→W.cell? ⟨b,off+j,none⟩=some (.int .u32 (zs[j]?.getD 0))) (h0:J [] W):
  CallsIn F n Tryz.prog 294 #[.func (.yield l) #[] #[],.pointer (some ⟨Bs,0,none⟩)] W fun e W'=>(∃v,e=.returned v)∧
   ((∃ys,ys=List.range len∧J ys W')∨(∃pre,True∧Jx pre W')):=by
 refine callsIn_of_wp Tryz.func294 rfl h7 ?_ hro;simp only[Tryz.ntmps294,List.size_toArray,List.length_cons,List.length_nil,Nat.reduceAdd,Nat.reduceSub,Array.replicate_succ,Array.replicate_zero,List.push_toArray,List.append_toArray,List.nil_append,List.cons_append];have bFt:W.cell? ⟨Bs,0,none⟩=some (.slice (some ⟨b,off,none⟩) len cap):=by simp[World.cell?,hBs]
 have hw1:IntKind.i64.wrap ((len:Int) - 1)=(len:Int) - 1:=IntWalk.i64_in _ (by omega)
 gi_wp2
 gi_loopw [3] (fun i wr=>∃k:Nat,k≤len∧i=.int .i64 ((len:Int) - 1 - k)∧J (List.range k) wr∧Tryz.Kb n₀ bb W wr)
  (fun i _=>(intOf i+1).toNat)
 case atStart=>exact⟨0,Nat.zero_le _,by simp,h0,Tryz.Kb.refl _ _ _⟩
 case round=>
  obtain⟨k,hk,rfl,hJs,hnx⟩:=hrel;have hcx:k<len→wr.cell? ⟨b,off+(len - 1 - k),none⟩=some (.int .u32 (zs[len - 1 - k]?.getD 0)):=fun h=>(hnx.1.cell (p:=⟨b,off+(len - 1 - k),none⟩) hb).trans (hc _ (by omega))
  have hbx:wr.cell? ⟨Bs,0,none⟩=some (.slice (some ⟨b,off,none⟩) len cap):=by have:=hnx.2 _ _ _ _ hBs (by decide) aYg;simp[World.cell?,this]
  by_cases hlt:k<len
  ·obtain⟨fn,tmps,assign,body,hy,hR⟩:=hY _ k wr hJs (by rw[List.length_range];exact hlt);have bD4:=hcx hlt
   have hi:(len:Int) - 1 - k=((len - 1 - k:Nat):Int):=by omega
   have hw2:IntKind.i64.wrap (((len - 1 - k:Nat):Int) - 1)=(len:Int) - 1 - ((k+1:Nat):Int):=by rw[IntWalk.i64_in _ (by omega)];omega
   rw[hi];obtain⟨q,hq⟩:=nm (len - 1 - k);rw[←hq]at hy hw2 bD4 hi ⊢;have hql:q<len:=by omega
   have hms:k+1≤len:=by omega
   have HI:=Lib.hid hi
   clear hq hi
   gi_wp2
   refine hR.mono ?_;rintro e W3 (⟨rfl,hJ3,hk3⟩ | ⟨rfl,bDo⟩)
   ·gi_wp2
    go_roundw
    case rel=>exact⟨k+1,hms,rfl,by rw[List.range_succ];exact hJ3,hnx.trans hk3⟩
    case measure=>have:=HI.out;simp[intOf];omega
   ·gi_wp2
    refine bodyPost_ret (results_none rfl _ _ _) rfl ?_;exact⟨⟨_,rfl⟩,.inr ⟨_,trivial,bDo⟩⟩
  ·obtain rfl:k=len:=by omega
   have hi:((k:Int) - 1 - (k:Int))=-1:=by omega
   rw[hi]
   gi_wp2
   go_end0
   exact⟨⟨_,rfl⟩,.inl ⟨_,rfl,hJs⟩⟩
set_option maxHeartbeats 1000000 in
theorem Tryz.back_in (F:Fence)(n:Nat)(h5:F.fn 276)(hro:F.round=none)(a:Option Addr)(len cap:Nat)(w:World):
  CallsIn F n Tryz.prog 276 #[.slice a len cap] w fun e w'=>e=.returned (.func (.func 294) #[] #[.pointer (some ⟨w.heap.size,0,none⟩)])∧w'=w.alloc (.cells #[.slice a len cap] 297):=by
 refine callsIn_of_wp Tryz.func276 rfl h5 ?_ hro;simp only[Tryz.ntmps276,List.size_toArray,List.length_cons,List.length_nil,Nat.reduceAdd,Nat.reduceSub,Array.replicate_succ,Array.replicate_zero,List.push_toArray,List.append_toArray,List.nil_append,List.cons_append]
 gi_wp2
 go_ret
 exact⟨rfl,rfl⟩
theorem Tryz.back_stops (F:Fence)(n:Nat)(h8:F.fn 294)(hro:F.round=none)(hn:1≤n)(Bs n₀ bb b off len cap:Nat)(zs:List Int)(hlen:len≤1099511627776)(hb:b<n₀)(w:World)(hn₀:n₀≤w.heap.size)(aYg:Bs≠bb)(bDm:Bs<w.heap.size)
  (hBs:w.heap[Bs]?=some (.cells #[.slice (some ⟨b,off,none⟩) len cap] 297 (0,0))) (hc:∀j,j<len→w.cell? ⟨b,off+j,none⟩=some (.int .u32 (zs[j]?.getD 0))):
  SeqStopsK F n Tryz.prog 294 #[.pointer (some ⟨Bs,0,none⟩)] (fun x:Nat=>#[Value.int .i64 ((len - 1 - x:Nat):Int),Value.int .u32 (zs[len - 1 - x]?.getD 0)]) (Tryz.Kb n₀ bb) (fun ys=>ys=List.range len) (fun _=>True) len w:=fun l J Jx W hW _ _ hY h0=>
 Tryz.back1_in F n h8 hro hn l Bs n₀ bb b off len cap zs hlen hb J Jx hY W aYg (by rw[←hBs];exact hW.block _ bDm) (fun j hj=>(hW.cell (p:=⟨b,off+j,none⟩) (Nat.lt_of_lt_of_le hb hn₀)).trans (hc j hj)) h0
end Go.Proofs
namespace Go.Num
open Go.Lib
theorem aDf:∀(j n:Nat),(aF n)[j]?.getD 0=((n/1000000000^j%1000000000:Nat):Int)
 | j,0=>by rw[bO];simp
 | 0,n+1=>by rw[bY (by omega)];simp
 | j+1,n+1=>by
  rw[bY (by omega),List.getElem?_cons_succ,aDf j,Nat.pow_succ,Nat.mul_comm (1000000000^j),Nat.div_div_eq_div_mul]
def piece (n k:Nat):List UInt8:=
 let w:=(n/1000000000^((aF n).length - 1 - k))%1000000000
 if(((aF n).length - 1 - k:Nat):Int)<(aF n).length - 1 then repeatL [48] (9 - (decDigits w).length)++decDigits w else decDigits w
def pieces (n:Nat)(l:List Nat):List UInt8:=l.foldl (fun r k=>r++piece n k) []
theorem rN (n:Nat)(l:List Nat)(k:Nat):pieces n (l++[k])=pieces n l++piece n k:=by simp[pieces]
theorem repeatL_one:∀(k:Nat) (b:UInt8),repeatL [b] k=List.replicate k b
 | 0,b=>rfl
 | k+1,b=>by rw[repeatL,repeatL_one k b];rfl
theorem rA {w:Nat}(h:w<1000000000):(decDigits w).length≤9:=by
 exact rC (k:=9) (n:=w) (by decide) h
theorem aDz (n k:Nat):(piece n k).length≤9:=by
 unfold piece;have h:=rA (Nat.mod_lt (n/1000000000^((aF n).length - 1 - k)) (by decide:0<1000000000))
 dsimp only
 split
 ·rw[List.length_append,repeatL_one,List.length_replicate];omega
 ·exact h
theorem aH3 (n:Nat):∀(l:List Nat) (r:List UInt8),(l.foldl (fun r k=>r++piece n k) r).length≤r.length+9*l.length:=by
 intro l
 induction l with
 | nil=>simp
 | cons k l ih=>intro r;rw[List.foldl_cons];have:=ih (r++piece n k);have:=aDz n k;simp at *;omega
theorem aKh (n:Nat)(l:List Nat):(pieces n l).length≤9*l.length:=by have:=aH3 n l [];simpa[pieces]using this
theorem vV {n:Nat}(hn:n≠0):∀(k:Nat),k<(aF n).length→pieces n (List.range (k+1))=decDigits (n/1000000000^((aF n).length - 1 - k))
 | 0,hk=>by
  rw[List.range_succ,rN];show []++_=_
  rw[List.nil_append];unfold piece
  dsimp only
  rw[if_neg (by omega)]
  congr 1
  apply Nat.mod_eq_of_lt;rw[Nat.div_lt_iff_lt_mul (Nat.pow_pos (by decide)),Nat.mul_comm,←Nat.pow_succ];exact bG (by omega)
 | k+1,hk=>by
  rw[List.range_succ,rN,vV hn k (by omega)];unfold piece
  dsimp only
  rw[if_pos (by omega)];obtain⟨j,hj⟩:=nm ((aF n).length - 1 - (k+1));rw[show(aF n).length - 1 - k=j+1 by omega,←hj,repeatL_one];have h9:n/1000000000^j%1000000000<10^(8+1):=Nat.mod_lt _ (by decide)
  rw[←aSa 8 _ h9];have hp:0<n/1000000000^(j+1):=by
   apply Nat.div_pos _ (Nat.pow_pos (by decide))
   rcases Nat.lt_or_ge n (1000000000^(j+1))with h | h
   ·have:=bR h;omega
   ·exact h
  rw[←sY hp 9 _ h9]
  congr 1
  rw[Nat.pow_succ,←Nat.div_div_eq_div_mul];show n/1000000000^j/1000000000*1000000000+_=_
  exact Nat.div_add_mod' _ _
theorem aKg {n:Nat}(hn:n≠0):pieces n (List.range (aF n).length)=decDigits n:=by
 have h0:(aF n).length≠0:=by rw[bY hn];simp
 obtain⟨k,hk⟩:∃k,(aF n).length=k+1:=⟨(aF n).length - 1,by omega⟩;rw[hk,vV hn k (by omega),hk];simp
end Go.Num
namespace Go.Proofs
open Go.RowKit Go.Shelf Go.Num
attribute [local go_sem] Oper.semAt_some
theorem Tryz.Kb.of_below {n₀ bb:Nat}{A B:World}(hn:n₀≤A.heap.size)(h:Below A.heap.size A B):Tryz.Kb n₀ bb A B:=
 ⟨h.mono hn,fun k c t fz hk _ _=>(h.block k (Array.getElem?_eq_some_iff.1 hk).1).trans hk⟩
theorem Tryz.Kb.of_others {n₀ bb:Nat}{A B:World}(h:Below n₀ A B)(h':Lib.OthersKept 5 (some bb) A B):Tryz.Kb n₀ bb A B:=
 ⟨h,fun k c t fz hk ht hb=>h' k _ hk (by simpa using hb) (fun c' fz' e=>by injection e with _ e _;exact ht e)⟩
theorem Tryz.bldAt_keep {T e:TypeId}{B b:Nat}{p:Value}{bs:List Value}{W W':World}(h:Lib.BuilderAt T e B b p bs W)(hk:∀(k:Nat) (c:Array Value) (t:TypeId) (fz:Nat × Nat),W.heap[k]?=some (Obj.cells c t fz)→W'.heap[k]?=some (Obj.cells c t fz)):Lib.BuilderAt T e B b p bs W':=by
 obtain⟨h1,v,h2,h3,h4⟩:=h;refine⟨h1,v,hk _ _ _ _ h2,⟨h3.1,?_⟩,h4⟩
 rcases h3.2 with h | ⟨g,cap,cur,e1,e2,e3,e4⟩
 ·exact .inl h
 ·exact .inr ⟨g,cap,cur,e1,e2,hk _ _ _ _ e3,e4⟩
theorem Tryz.bld_keep {T e:TypeId}{B b:Nat}{bs:List Value}{W W':World}(h:Lib.IsBuilder T e B b bs W)(hk:∀(k:Nat) (c:Array Value) (t:TypeId) (fz:Nat × Nat),W.heap[k]?=some (Obj.cells c t fz)→W'.heap[k]?=some (Obj.cells c t fz)):Lib.IsBuilder T e B b bs W':=h.imp (Tryz.bldAt_keep · hk) (Tryz.bldAt_keep · hk)
theorem Tryz.bld_own {T e:TypeId}{B b n:Nat}{f:List Nat→List Value}:OwnFrom n (fun pre W=>Lib.IsBuilder T e B b (f pre) W):=by
 intro s W W' row h hg hr;refine Tryz.bld_keep h fun k c t fz hk=>(hg.block k (Array.getElem?_eq_some_iff.1 hk).1 fun e=>?_).trans hk
 obtain⟨_,o,ho,hc⟩:=hr k e.symm;rw[hk]at ho;cases ho;cases hc
theorem Tryz.cells_below {W W':World}(h:Below W.heap.size W W'):∀(k:Nat) (c:Array Value) (t:TypeId) (fz:Nat × Nat),W.heap[k]?=some (Obj.cells c t fz)→W'.heap[k]?=some (Obj.cells c t fz):=fun k c t fz hk=>(h.block k (Array.getElem?_eq_some_iff.1 hk).1).trans hk
theorem Tryz.kf_below {B:Nat}{W W':World}(h:Below W.heap.size W W'):KeepsFrom B W W':=⟨h.size,fun k o _ hk _=>(h.block k (Array.getElem?_eq_some_iff.1 hk).1).trans hk⟩
theorem Tryz.kf_others {B b:Nat}{W W':World}{c:Array Value}{t:TypeId}{fz:Nat × Nat}(hs:W.heap.size≤W'.heap.size)(hb:W.heap[b]?=some (.cells c t fz))(h:Lib.OthersKept 5 (some b) W W'):KeepsFrom B W W':=
 ⟨hs,fun k o _ hk ho=>h k o hk (by intro e;cases e;rw[hb]at hk;cases hk;cases ho) (by rintro c fz rfl;cases ho)⟩
set_option maxRecDepth 100000 in
set_option maxHeartbeats 0 in
theorem Tryz.text_lib (m:Nat)(hm0:m≠0)(b off cap:Nat)(hlen:(aF m).length≤1099511627776)(w:World)(aCm:Lib.TabIs Tryz.prog w "internal/strconv.uint64pow10" .u64 Lib.pow10Tab)(hb:b<w.heap.size)
  (hc:∀j,j<(aF m).length→w.cell? ⟨b,off+j,none⟩=some (.int .u32 ((aF m)[j]?.getD 0))):
  Calls Tryz.prog 260 #[.slice (some ⟨b,off,none⟩) (aF m).length cap] w fun e w'=>e=.returned (.string (aK m))∧Below w.heap.size w w':=by
 refine(callsIn_wide (n:=6)).1 ?_;obtain⟨len,kA⟩:∃len,(aF m).length=len:=⟨_,rfl⟩;have bFq:0<len:=by rw[←kA,bY hm0];simp
 rw[kA]at hlen hc ⊢;have HL:=Lib.hid kA
 clear kA;have hpw:∀W,Below w.heap.size w W→Lib.TabIs Tryz.prog W "internal/strconv.uint64pow10" .u64 Lib.pow10Tab:=fun W h=>Go.Ai.var_below aCm h
 clear aCm;refine callsIn_of_wp_marks Tryz.func260 rfl trivial ?_ rfl;simp only[Tryz.ntmps260,List.size_toArray,List.length_cons,List.length_nil,Nat.reduceAdd,Nat.reduceSub,Array.replicate_succ,Array.replicate_zero,List.push_toArray,List.append_toArray,List.nil_append,List.cons_append]
 gi_wp2_with (refine⟨trivial,?_⟩;gi_at_call 276;refine(Tryz.back_in Fence.wide _ trivial rfl _ _ _ _).mono ?_;rintro e w' ⟨rfl,rfl⟩)
 obtain⟨bb,hbb⟩:=nm (w.heap.size+1);rw[←hbb];obtain⟨W0,hW0⟩:=nm (((w.alloc (.cells #[.slice (some ⟨b,off,none⟩) len cap] 297)).alloc (.cells #[.pointer none,.slice none 0 0] 330)).alloc (.cells #[.slice (some ⟨b,off,none⟩) len cap] 297));rw[←hW0];have hsz:W0.heap.size=bb+2:=by rw[hW0,hbb];simp
 have hB0:Below w.heap.size w W0:=by rw[hW0];exact(((Below.refl _ w).alloc (lRf _) _).alloc (by simp) _).alloc (by simp;omega) _
 have h0:W0.heap[w.heap.size]?=some (.cells #[.slice (some ⟨b,off,none⟩) len cap] 297 (0,0)):=by
  rw[hW0,Below.heap_alloc _ _ _ (by simp;omega),Below.heap_alloc _ _ _ (by simp),World.alloc_heap_new]
 have h1:W0.heap[bb]?=some (.cells #[.pointer none,.slice none 0 0] 330 (0,0)):=by
  rw[hW0,hbb,Below.heap_alloc _ _ _ (by simp)];have:=World.alloc_heap_new (w.alloc (.cells #[.slice (some ⟨b,off,none⟩) len cap] 297)) (.cells #[.pointer none,.slice none 0 0] 330)
  rwa [World.size_alloc]at this
 have h2:W0.heap[bb+1]?=some (.cells #[.slice (some ⟨b,off,none⟩) len cap] 297 (0,0)):=by
  rw[hW0,hbb];have:=World.alloc_heap_new ((w.alloc (.cells #[.slice (some ⟨b,off,none⟩) len cap] 297)).alloc (.cells #[.pointer none,.slice none 0 0] 330)) (.cells #[.slice (some ⟨b,off,none⟩) len cap] 297)
  rwa [World.size_alloc,World.size_alloc]at this
 have bD0:Lib.IsBuilder 330 5 bb bb [] W0:=.inl ⟨lRf _,_,h1,World.ownsRow_nil _ _ _ _,by simp[Value.ownBlock]⟩
 have bDz:w.heap.size<bb:=by omega
 have HB:=Lib.hid hbb
 have HW:=Lib.hid hW0
 clear hbb hW0;refine wpIn_rangeFunc_ownG rfl (by omega) (gf:=294) (lb:=#[.pointer (some ⟨bb+1,0,none⟩)]) rfl trivial (enters_of Tryz.func294 (by kernel_rfl) rfl)
  (Tryz.back_stops Fence.wide _ trivial rfl (by omega) (bb+1) bb bb b off len cap (aF m) hlen (by omega) W0 (by omega) (by omega) (by omega) h2 (fun j hj=>(hB0.cell (p:=⟨b,off+j,none⟩) hb).trans (hc j hj)))
  (fun h k=>h.trans k) (Tryz.Kb.put (by omega)) (Below.refl _ _) (fun _=>rfl)
  (fun pre W=>Lib.IsBuilder 330 5 bb bb (Lib.byteCells (pieces m pre)) W∧Below bb W0 W)
  (fun _ _ _=>False)
  (OwnFrom.and Tryz.bld_own (ownFrom_below (by omega) (by omega)))
  (fun _ _ _ _ _ hs _ _=>hs)
  ⟨by simpa[pieces,Lib.byteCells]using bD0,Below.refl _ _⟩
  (fun x=>{tmps:=#[.slice (some ⟨b,off,none⟩) len cap,.pointer (some ⟨w.heap.size,0,none⟩),.string ⟨#[]⟩,.pointer (some ⟨bb,0,none⟩),.int .i64 ((len - 1 - x:Nat):Int),.int .u32 ((aF m)[len - 1 - x]?.getD 0),undef,.slice (some ⟨b,off,none⟩) len cap,.int .i64 len,.bool false,.slice (some ⟨b,off,none⟩) len cap,.func (.func 294) #[] #[.pointer (some ⟨bb+1,0,none⟩)],.int .i64 ((len - 1 - x:Nat):Int),.int .u32 ((aF m)[len - 1 - x]?.getD 0),undef,undef,undef,undef,undef,undef,undef,undef,undef,undef,undef,undef,undef,undef,undef,undef],defers:=[]}) ?assign ?body ?done ?stop
 case assign=>
  intro l x W K hK
  gi_wp2
  exact hK
 case body=>
  rintro l pre x W ⟨hbd,hBW⟩ hpl;have hwd:=bB (bK m) (len - 1 - x)
  have hdg:=aDf (len - 1 - x) m
  rw[List.getD_eq_getElem?_getD]at hwd;have hpx:pieces m (pre++[x])=pieces m pre++piece m x:=rN m pre x
  have bEs:=aKh m pre
  have hpi:=aDz m x
  unfold piece at hpi hpx;rw[HL.out]at hpi hpx;obtain⟨u,hu⟩:∃u,m/1000000000^(len - 1 - x)%1000000000=u:=⟨_,rfl⟩;rw[hu]at hdg hpi hpx;rw[hdg]at hwd ⊢;clear hdg hu;have hu9:u<1000000000:=by omega
  have hul:=rA hu9
  obtain⟨q,hq⟩:∃q,len - 1 - x=q:=⟨_,rfl⟩;rw[hq]at hpi hpx ⊢;clear hq;obtain⟨P0,hP0⟩:∃P0,pieces m pre=P0:=⟨_,rfl⟩;rw[hP0]at hbd bEs hpx;clear hP0;have bD1:W.cell? ⟨w.heap.size,0,none⟩=some (.slice (some ⟨b,off,none⟩) len cap):=(hBW.cell (p:=⟨w.heap.size,0,none⟩) bDz).trans (by simp[World.cell?,h0])
  gi_wp2
  refine⟨trivial,?_⟩;refine(CallsIn.inRound l (callsIn_wide.2 (Tryz.fmtU u (by omega) W (hpw W (hB0.trans (hBW.mono (by omega))))))).mono ?_;rintro e W1 ⟨rfl,hb1⟩;have bFl:=(hb1.cell (p:=⟨w.heap.size,0,none⟩) (by have:=hBW.size;simp;omega)).trans bD1
  have aYm:=Tryz.bld_keep hbd (Tryz.cells_below hb1)
  have bB5:=Tryz.kf_below (B:=W0.heap.size) hb1
  have bB4:=Tryz.Kb.of_below (n₀:=bb) (bb:=bb) (by have:=hBW.size;omega) hb1
  have aYp:bb≤W1.heap.size:=by have:=hBW.size;have:=hb1.size;omega
  have hc9:(9:Int) - ((Lib.decDigits u).length:Int)=((9 - (Lib.decDigits u).length:Nat):Int):=by omega
  have fin:∀(W2 W3:World) (P1:List UInt8),KeepsFrom W0.heap.size W W2→Tryz.Kb bb bb W W2→bb≤W2.heap.size→Lib.IsBuilder 330 5 bb bb (Lib.byteCells P1) W2→Lib.BuilderAt 330 5 bb bb (.pointer (some ⟨bb,0,none⟩)) (Lib.byteCells P1++Lib.strCells ⟨(Lib.decDigits u).toArray⟩) W3→Below bb W2 W3→Lib.OthersKept 5 (some bb) W2 W3→
    pieces m (pre++[x])=P1++Lib.decDigits u→KeepsFrom W0.heap.size W W3∧Tryz.Kb bb bb W W3∧Lib.IsBuilder 330 5 bb bb (Lib.byteCells (pieces m (pre++[x]))) W3∧Below bb W0 W3:=by
   intro W2 W3 P1 a1 a2 a3 a4 a5 a6 a7 a8;obtain⟨cc,tt,ff,hcc⟩:∃cc tt ff,W2.heap[bb]?=some (.cells cc tt ff):=by rcases a4 with h | h<;>(obtain⟨_,v,h,_⟩:=h;exact⟨_,_,_,h⟩)
   have hk:=a2.trans (Tryz.Kb.of_others a6 a7)
   refine⟨a1.trans (Tryz.kf_others a6.size hcc a7),hk,?_,hBW.trans hk.1⟩;rw[a8,Lib.byteCells_append];rw[Lib.strCells_eq]at a5;exact .inr (by simpa using a5)
  clear hc
  gi_wp2
  ·rw[if_pos (by assumption)]at hpx;refine⟨trivial,?_⟩;refine(CallsIn.inRound l (callsIn_wide.2 (Tryz.strings_Repeat ⟨#[48]⟩ (9 - (Lib.decDigits u).length) W1 (by omega) (by have:(⟨#[48]⟩:ByteArray).size=1:=rfl;rw[this];omega)))).mono ?_;rintro e W2 ⟨rfl,hb2⟩;have bBn:=Tryz.bld_keep aYm (Tryz.cells_below hb2)
   have bEj:=bB5.trans (Tryz.kf_below (B:=W0.heap.size) hb2)
   have bEh:=bB4.trans (Tryz.Kb.of_below (n₀:=bb) (bb:=bb) aYp hb2)
   have bD2:bb≤W2.heap.size:=by have:=hb2.size;omega
   obtain⟨rp,hrp⟩:∃rp,Lib.repeatL [48] (9 - (Lib.decDigits u).length)=rp:=⟨_,rfl⟩;have hrl:rp.length≤9:=by rw[←hrp,Lib.repeatL_length];simp
   rw[show(⟨#[48]⟩:ByteArray).data.toList=[48] from rfl,hrp];rw[hrp]at hpx
   gi_wp2
   refine⟨trivial,?_⟩;refine(CallsIn.inRound l (callsIn_wide.2 (Tryz.writeS bb bb _ ⟨rp.toArray⟩ W2 bBn (by rw[Lib.byteCells_length];show _+rp.toArray.size≤_;simp;omega) bD2))).mono ?_;rintro e W3 ⟨rfl,bBo,hb3,ho3⟩;obtain⟨cc,tt,ff,hcc⟩:∃cc tt ff,W2.heap[bb]?=some (.cells cc tt ff):=by rcases bBn with h | h<;>(obtain⟨_,v,h,_⟩:=h;exact⟨_,_,_,h⟩)
   have bEk:=bEj.trans (Tryz.kf_others (B:=W0.heap.size) hb3.size hcc ho3)
   have bEi:=bEh.trans (Tryz.Kb.of_others hb3 ho3)
   have bBr:bb≤W3.heap.size:=by have:=hb3.size;omega
   have aWf:Lib.IsBuilder 330 5 bb bb (Lib.byteCells (P0++rp)) W3:=by
    rw[Lib.byteCells_append];rw[Lib.strCells_eq]at bBo;exact .inr (by simpa using bBo)
   gi_wp2
   refine⟨trivial,?_⟩;refine(CallsIn.inRound l (callsIn_wide.2 (Tryz.writeS bb bb _ ⟨(Lib.decDigits u).toArray⟩ W3 aWf (by rw[Lib.byteCells_length,List.length_append];show _+(Lib.decDigits u).toArray.size≤_;rw[List.size_toArray];omega) bBr))).mono ?_;rintro e W4 ⟨rfl,aYn,hb4,ho4⟩
   gi_wp2
   exact fin W3 W4 _ bEk bEi bBr aWf aYn hb4 ho4 (by rw[hpx,List.append_assoc])
  ·rw[if_neg (by omega)]at hpx;refine⟨trivial,?_⟩;refine(CallsIn.inRound l (callsIn_wide.2 (Tryz.writeS bb bb _ ⟨(Lib.decDigits u).toArray⟩ W1 aYm (by rw[Lib.byteCells_length];show _+(Lib.decDigits u).toArray.size≤_;rw[List.size_toArray];omega) aYp))).mono ?_;rintro e W4 ⟨rfl,aYn,hb4,ho4⟩
   gi_wp2
   exact fin W1 W4 _ bB5 bB4 aYp aYm aYn hb4 ho4 hpx
 case done=>
  rintro D ys W hD rfl ⟨hbd,hBW⟩ hK;have hpa:=aKg hm0
  rw[HL.out]at hpa;rw[hpa]at hbd
  gi_wp2
  refine⟨trivial,?_⟩;refine(callsIn_wide.2 (Tryz.Builder_String_any_k bb bb (Lib.decDigits m) W (hbd.imp Lib.BuilderAtF.of Lib.BuilderAtF.of) (by have:=hBW.size;omega))).mono ?_;rintro e W1 ⟨rfl,hbf,hb1,ho1⟩;have hK1:W1.heap[D]?=some (.deferred (some [])):=ho1 D _ hK (by simp;omega) (by simp)
  gi_wp2
  refine⟨by simp,.inl ⟨_,_,rfl,run_takeDeferred hK1,?_⟩⟩;exact⟨_,results_tmp rfl _ _ _,rfl,((hB0.trans (hBW.mono (by omega))).trans (hb1.mono (by omega))).trans (belowK_b (w:=w) (lRf _) W1 D _ _ (by omega) hK1 rfl rfl)⟩
 case stop=>
  rintro D c pre W _ _ h _;exact h.elim
end Go.Proofs
namespace Go.Ai
open Go Go.Proofs Go.Num
theorem aJe:aB PP 260:=zK
theorem yB {v:Value}{X:Nat→Prop}{w:World}{n:Nat}(hbn:(aF n).length≤2^38)(hX:∀b,X b→b<w.heap.size)(hv:(aP n).p v X w):Fn PP 260 [v] X w (dJ (.string (aK n))):=by
 by_cases h0:n=0
 ·obtain⟨R,hRR⟩:=nm (dJ (.string (aK n)));obtain⟨K,hK⟩:=nm ([KF.cst v (aP n)]);rw[←hRR];refine bE mixed tok [.q v] (K:=K) Tryz.func260 rfl rfl (lbl rfl) rfl hX (by subst hK;simp;exact hv) fun c hc hR=>?_
  refine dQ 0 .u32 (aF n) rfl rfl (fun X μ a w v' H hv'=>cE H (by simp[hK]) hv') fun f N cap hN hf dI=>?_
  have hN0:N=0:=by rw[hN,h0,bO];rfl
  have htx:aK n=⟨#[48]⟩:=by rw[h0];unfold aK;rw[aJp]
  refine zN hc ?_;cbv;refine aE hc rfl 100 (fun h=>?_) (fun h=>absurd hN0 (BE.eqnl_f (k:=0) h));cbv;refine aS hc hR rfl (fun X μ a w v' H hv'=>?_);rw[hRR,htx];simp only[aC,SE.den]at hv';injection hv' with hv'
  exact hv'.symm
 ·intro hgl;obtain⟨ad,cap,rfl,dI,h⟩:=hv
  match ad,h with
  | none,h=>exact absurd h.1 (by rw[bY h0];simp)
  | some (b,o),⟨hb,cs,ty,hcs,hi⟩=>
   refine Calls.mono (Tryz.text_lib n h0 b o cap (by omega) w hgl.pow10 (hX b hb) (fun j hj=>?_)) ?_
   ·have:=hi j (aF n)[j] (by simp[hj])
    simp[World.cell?,hcs,this,hj]
   ·rintro e w' ⟨rfl,hbl⟩;exact⟨_,X,rfl,hbl,fun _ h=>h,fun _ h=>.inl h,rfl⟩
theorem aE3 {μ:Mu}{v u:Value}(h:aC μ (.q v)=some u):u=v:=by simp only[aC]at h;injection h with h;exact h.symm
theorem sB {n:Nat}(h:(aF n).length=0):n=0:=Classical.byContradiction fun e=>by rw[bY e]at h;simp at h
theorem bE5 {z:Nat}(h:z<1000000000000000000):(z:Int)<1000000000000000000:=by omega
theorem bCr {y:Nat}(h:0<y):(Obl.nz (IE.n y)).ok:=by show _≠_;simp only[IE.den];omega
theorem aWu (x y:Nat):((IE.n x).rem (IE.n y)).den=(IE.n (x%y)).den:=by simp only[IE.den];exact(Int.ofNat_tmod x y).symm
theorem bAw:aB PP 245:=zK
theorem jQ {n m:Nat}(h:0<m):Nat.gcd m (n%m)=Nat.gcd n m:=by rw[Nat.gcd_comm,←Nat.gcd_rec,Nat.gcd_comm]
structure GcdX where
 v:Value
 u:Value
 n:Nat
 m:Nat
set_option maxHeartbeats 0 in
theorem aQ6 {v u:Value}{X:Nat→Prop}{w:World}{n m:Nat}(hbn:(aF n).length≤2^38)(hbm:(aF m).length≤2^38)(hX:∀b,X b→b<w.heap.size)(hv:(aP n).p v X w)(hu:(aP m).p u X w):
  Fn PP 245 [v,u] X w (aP (Nat.gcd n m)):=by
 obtain⟨g,hg⟩:=nm (Nat.gcd n m);rw[←hg];obtain⟨R,hRR⟩:=nm (aP g);obtain⟨F,hF⟩:∃F:Value→Nat→KF,∀v n,F v n=KF.cst v (aP n):=⟨fun v n=>KF.cst v (aP n),fun _ _=>rfl⟩;rw[←hRR];refine bE mixed tok [.q v,.q u] (K:=[F v n,F u m]) Tryz.func245 rfl rfl (lbl rfl) rfl hX (by simp[hF];exact⟨hv,hu⟩) fun c hc hR=>?_
 refine zN hc ?_;cbv;let ι:={x:GcdX//Nat.gcd x.n x.m=g∧(aF x.n).length≤2^38∧(aF x.m).length≤2^38}
 let I:ι→St:=fun x=>⟨[(0,.q x.1.v),(1,.q x.1.u)],[],[]⟩
 let KK:ι→List KF:=fun x=>[F x.1.v x.1.n,F x.1.u x.1.m]
 let x0:ι:=⟨⟨v,u,n,m⟩,hg.symm,hbn,hbm⟩
 refine zU 0 (S':=I x0) (K':=KK x0) ⟨zS rfl rfl,zS rfl rfl,trivial⟩ ⟨⟨.head _,by rw[hF];exact KFr.cst _ _ _⟩,⟨.tail _ (.head _),by rw[hF];exact KFr.cst _ _ _⟩,trivial⟩ trivial ?_;refine aMz hc I KK (fun x=>x.1.m) x0 ?_;rintro p ⟨⟨v,u,n,m⟩,hg,hbn,hbm⟩ hy;simp only at hg hbn hbm;obtain⟨K,hK⟩:=nm ([F v n,F u m]);have k1:KF.cst v (aP n)∈K:=by rw[hK,←hF];exact .head _
 have k2:KF.cst u (aP m)∈K:=by rw[hK,←hF];exact .tail _ (.head _)
 have hzb:n<1000000000000000000→0<m→m<1000000000000000000→g<1000000000000000000:=fun _ h0 h=>Nat.lt_of_le_of_lt (by rw[←hg];exact Nat.gcd_le_right n h0) h
 have kf:∀q,lC q K K:=fun q=>by rw[hK];exact⟨⟨.head _,by rw[hF];exact KFr.cst _ _ _⟩,⟨.tail _ (.head _),by rw[hF];exact KFr.cst _ _ _⟩,trivial⟩
 refine Goal.k hK ?_;refine dQ 1 .u32 (aF m) rfl rfl (fun X μ a w v' H hv'=>cE H k2 hv') fun f' M aZ hM hf' gW=>?_
 refine zN hc ?_;cbv;refine aE hc rfl 100 (fun h=>?_) (fun h=>?_)
 ·have hM0:0<M:=BE.ltn_t (i:=0) h
  cbv;obtain⟨xs,hxs⟩:∃xs:Int,xs=if n<1000000000000000000 then(n:Int)else 0:=⟨_,rfl⟩
  obtain⟨xb,hxb⟩:∃xb:Bool,xb=decide (n<1000000000000000000):=⟨_,rfl⟩;obtain⟨ys,hys⟩:∃ys:Int,ys=if m<1000000000000000000 then(m:Int)else 0:=⟨_,rfl⟩
  obtain⟨yb,hyb⟩:∃yb:Bool,yb=decide (m<1000000000000000000):=⟨_,rfl⟩;refine bL hc (.t [.i .u64 (.v xs),.b (.v xb)]) (r:=.tuple #[.int .u64 xs,.bool xb]) uQ (fun n0 D X μ a w aL H aJ=>?_) rfl 100 ?_
  ·obtain⟨v1,rfl,h1⟩:=aV aJ;rw[hxs,hxb];exact nA H.xlt (by rw[aE3 h1];exact H.cst k1)
  cbv;refine bL hc (.t [.i .u64 (.v ys),.b (.v yb)]) (r:=.tuple #[.int .u64 ys,.bool yb]) uQ (fun n0 D X μ a w aL H aJ=>?_) rfl 100 ?_
  ·obtain⟨v1,rfl,h1⟩:=aV aJ;rw[hys,hyb];exact nA H.xlt (H.numRow rfl h1 hM hf' gW)
  cbv;have hm0:0<m:=Nat.pos_of_ne_zero fun e=>by rw[e,bO]at hM;simp at hM;omega
  have hsx:=sP hxb
  have hsy:=sP hyb
  apply aQp (c:=c) (K:=K) (S':=⟨[(0,.q v),(1,.sl 0 0 (.n M) aZ),(27,.b (.l false))],[.xi .u32 M f'],[]⟩) (fun gen=>?_)
  rotate_left 2
  ·refine bT hc 25 rfl rfl 3 (fun h1=>?_) (fun h1=>?_)
   ·refine zN hc ?_;cbv;refine bT hc 27 rfl rfl 0 (fun h2=>?_) (fun h2=>?_)
    ·refine zN hc ?_;cbv;have aRn:n<1000000000000000000:=hsx.1 h1
     have aN5:m<1000000000000000000:=hsy.1 h2
     rw[if_pos aRn]at hxs;rw[if_pos aN5]at hys;let ιs:={x:Nat × Nat//Nat.gcd x.1 x.2=g∧x.1<1000000000000000000∧x.2<1000000000000000000}
     let Is:ιs→St:=fun x=>⟨[(5,.i .u64 (.n x.1.1)),(7,.i .u64 (.n x.1.2))],[],[]⟩
     let xz:ιs:=⟨(n,m),hg,aRn,aN5⟩
     refine zU 0 (S':=Is xz) (K':=[]) ⟨zI rfl rfl hxs,zI rfl rfl hys,trivial⟩ trivial trivial ?_;refine aBw (fun z:Nat=>z=g) (fun z=>⟨[(5,.i .u64 (.n z))],[],[]⟩) rfl (fun r hr=>?_) (fun z hz=>?_)
     ·refine bP hc Is (fun x=>x.1.2) xz 100 ?_;rintro p' ⟨⟨x,y⟩,hgx,aZc,aJ2⟩ hyg;simp only at hgx aZc aJ2;cbv;refine aE hc rfl 100 (fun h=>?_) (fun h=>?_)
      ·have hy0:0<y:=BE.ltn_t (i:=0) h
       have o1:(Obl.nz (IE.n y)).ok:=bCr hy0
       have e1:=aWu x y
       cbv;refine aQ hc ⟨o1,trivial⟩ ?_;refine cP hc _ rfl rfl rfl rfl rfl 0 ?_;refine cP hc _ rfl rfl rfl rfl rfl 0 ?_;refine zE hc ?_;cbv;exact zU 0 (S':=Is ⟨(y,x%y),(jQ hy0).trans hgx,aJ2,Nat.lt_trans (Nat.mod_lt _ hy0) aJ2⟩) (K':=[]) ⟨zS rfl rfl,zI rfl rfl e1,trivial⟩ trivial trivial (hyg _ (Nat.mod_lt _ hy0))
      ·have hy0:y=0:=Nat.le_zero.1 (BE.ltn_f (i:=0) h)
       have hxg:x=g:=by rw[←hgx,hy0,Nat.gcd_zero_right]
       cbv;exact zU 0 (S':=⟨[(5,.i .u64 (.n x))],[],[]⟩) (K':=[]) ⟨zS rfl rfl,trivial⟩ trivial trivial (hr x hxg)
     ·have bEz:=bE5 (hzb aRn hm0 aN5)
      subst hz;refine zN hc ?_;cbv;refine eE hc (R:=R) aP1 (fun n0 D X μ a w aL H aJ=>?_) 100 ?_
      ·obtain⟨v1,rfl,h1⟩:=aV aJ;rw[bQ h1,hRR];exact vU H.xlt (Int.natCast_nonneg _) bEz
      cbv;refine aS hc hR rfl (fun X μ a w v' H hv'=>?_);exact H.toP.val (.head _) hv'
    ·exact zU 1 (S':=⟨[(0,.q v),(1,.sl 0 0 (.n M) aZ),(27,.b (.l false))],[.xi .u32 M f'],[]⟩) (K':=K) ⟨zS rfl rfl,zS rfl rfl,zS rfl rfl,trivial⟩ (kf _) trivial gen
   ·cbv;exact zU 1 (S':=⟨[(0,.q v),(1,.sl 0 0 (.n M) aZ),(27,.b (.l false))],[.xi .u32 M f'],[]⟩) (K':=K) ⟨zS rfl rfl,zS rfl rfl,zS rfl rfl,trivial⟩ (kf _) trivial gen
  ·refine zN hc ?_;cbv;have hm0:0<m:=Nat.pos_of_ne_zero fun e=>by rw[e,bO]at hM;simp at hM;omega
   obtain⟨R1,hR1⟩:∃R,R=aP (n/m):=⟨_,rfl⟩;obtain⟨R2,hR2⟩:∃R,R=aP (n%m):=⟨_,rfl⟩;obtain⟨RP,hRP⟩:∃R,R=kB R1 R2:=⟨_,rfl⟩;refine eE hc (R:=RP) aGe (fun n0 D X μ a w aL H aJ=>?_) 2 ?_
   ·obtain⟨v1,v2,rfl,h1,h2⟩:=bX aJ;rw[hRP,hR1,hR2];exact yH hm0 hbn hbm H.xlt (by rw[aE3 h1];exact H.cst k1) (H.numRow rfl h2 hM hf' gW)
   cbv;refine rP 36 1 (R1:=R1) (R2:=R2) rfl rfl (hRP▸.head _) ?_;refine zN hc ?_;cbv;refine xT 0 (aP m) rfl rfl (fun X μ a w v' H hv'=>H.toP.numRow rfl hv' hM hf' gW) fun v1=>?_
   refine xT 1 (aP (n%m)) rfl rfl (fun X μ a w v' H hv'=>by have h:=H.toP.val (R:=R2) (.tail _ (.tail _ (.head _))) hv';rw[hR2]at h;exact h) fun u1=>?_
   exact zU 0 (S':=I ⟨⟨v1,u1,m,n%m⟩,(jQ hm0).trans hg,hbm,lTr (bU (Nat.le_of_lt (Nat.mod_lt n hm0))) hbm⟩) (K':=KK ⟨⟨v1,u1,m,n%m⟩,(jQ hm0).trans hg,hbm,lTr (bU (Nat.le_of_lt (Nat.mod_lt n hm0))) hbm⟩) ⟨zS rfl rfl,zS rfl rfl,trivial⟩ ⟨⟨by rw[hF];exact .tail _ (.head _),by rw[hF];exact KFr.cst _ _ _⟩,⟨by rw[hF];exact .head _,by rw[hF];exact KFr.cst _ _ _⟩,trivial⟩ trivial (hy _ (Nat.mod_lt n hm0))
 ·have hM0:M=0:=Nat.le_zero.1 (BE.ltn_f (i:=0) h)
  cbv;refine aS hc hR rfl (fun X μ a w v' H hv'=>?_);have hm0:m=0:=sB (by rw[←hM,hM0])
  rw[hRR,←hg,hm0,Nat.gcd_zero_right];exact cE H k1 hv'
end Go.Ai
namespace Go.Num
open Go.Lib
structure RdS (l:List UInt8)(q:Nat)(out:List Int):Prop where
 le:q≤l.length
 wd:Wd out
 v:val out+1000000000^out.length*(dS 0 (l.take q):Int)=(dS 0 l:Int)
 n:out.length+q≤l.length
theorem RdS.init (l:List UInt8):RdS l l.length []:=⟨lRf _,Wd.nil,by simp[val],by simp⟩
theorem wQ {l:List UInt8}(h:l.all lK=true)(q:Nat):(l.take q).all lK=true:=by
 rw[List.all_eq_true]at h ⊢;exact fun x hx=>h x (List.mem_of_mem_take hx)
theorem wP {l:List UInt8}(h:l.all lK=true)(q:Nat):(l.drop q).all lK=true:=by
 rw[List.all_eq_true]at h ⊢;exact fun x hx=>h x (List.mem_of_mem_drop hx)
theorem word_lt {l:List UInt8}(h:l.all lK=true){q:Nat}(hq:q≤l.length):dS 0 ((l.take q).drop (q - 9))<1000000000:=by
 have h1:=aL6 ((l.take q).drop (q - 9)) (wP (wQ h q) _)
 have h2:((l.take q).drop (q - 9)).length≤9:=by simp;omega
 exact Nat.lt_of_lt_of_le h1 (Nat.pow_le_pow_right (by decide) h2:_≤10^9)
theorem RdS.step {l:List UInt8}{q:Nat}{out:List Int}(h:RdS l q out)(hd:l.all lK=true)(hq:0<q):RdS l (q - 9) (out++[(dS 0 ((l.take q).drop (q - 9)):Int)]):=by
 have hw:=word_lt hd h.le
 refine⟨by have:=h.le;omega,h.wd.append (Wd.mk ⟨by omega,by omega⟩ Wd.nil),?_,by have:=h.n;simp;omega⟩;have hs:dS 0 (l.take q)=dS 0 ((l.take q).drop (q - 9))+1000000000*dS 0 (l.take (q - 9)):=by
  have e:l.take q=l.take (q - 9)++(l.take q).drop (q - 9):=by
   have:=List.take_append_drop (q - 9) (l.take q)
   rw[List.take_take,Nat.min_eq_left (by omega)]at this;exact this.symm
  rw[e,nP,←e];rw[aGx]
  by_cases h9:9≤q
  ·have:((l.take q).drop (q - 9)).length=9:=by have:=h.le;simp;omega
   rw[this];show _*1000000000+_=_
   omega
  ·rw[show q - 9=0 by omega];simp[iS]
 have hv:=h.v
 rw[hs]at hv;rw[val_append,←hv,List.length_append,List.length_singleton,Int.pow_succ];simp only[val];generalize (1000000000:Int)^out.length=p;generalize dS 0 ((l.take q).drop (q - 9))=u;generalize dS 0 (l.take (q - 9))=t;have e1:((u+1000000000*t:Nat):Int)=(u:Int)+1000000000*t:=by omega
 rw[e1]
 grind
theorem RdS.done {l:List UInt8}{out:List Int}(h:RdS l 0 out):(val out).toNat=dS 0 l:=by
 have hv:=h.v
 rw[List.take_zero,iS,show((0:Nat):Int)=0 from rfl,Int.mul_zero,Int.add_zero]at hv;rw[hv];rfl
theorem aDw {M:Nat}:∀(l:List UInt8) (acc:Nat),l.all lK=true→dS acc l≤M→M<1844674407370955162→parseUintM M acc l=.ok (dS acc l)
 | [],acc,_,_,_=>rfl
 | c::r,acc,hd,hM,hb=>by
  simp only[List.all_cons,Bool.and_eq_true]at hd;have hc:=hd.1
  simp only[lK,Bool.and_eq_true,decide_eq_true_eq]at hc;rw[fK]at hM ⊢;have h1:=aE5 r (10*acc+(c.toNat - 48))
  rw[parseUintM,if_pos hc,if_neg (by omega),if_neg (by omega),show acc*10+(c.toNat - 48)=10*acc+(c.toNat - 48) by omega];exact aDw r _ hd.2 hM hb
theorem aKf {l:List UInt8}(h:l.all lK=true){q:Nat}(hq:q≤l.length)(h0:0<q):parseUintB 32 ((l.take q).drop (q - 9))=.ok (dS 0 ((l.take q).drop (q - 9))):=by
 unfold parseUintB;rw[if_neg (fun e=>by have:=congrArg List.length e;simp at this;omega)];have:=word_lt h hq
 exact aDw _ _ (wP (wQ h q) _) (by omega) (by decide)
end Go.Num
namespace Go.Ai
open Go Go.Proofs Go.Num
theorem aP5:aB PP 259:=zK
theorem aP2:aB PP 275:=zK
theorem aZq {s:ByteArray}{u:Nat}(hs:s.size≤2^60)(h:Lib.parseUintB 32 s.data.toList=.ok u):Pure PP 275 [.string s,.int .i64 10,.int .i64 32] (.tuple #[.int .u64 u,.nilIface]):=by
 intro w hgl;have hs':s.size≤9223372036854775806:=lTr hs (by decide)
 refine Calls.mono (Tryz.strconv_ParseUint_10_at32_ok s hs' u h w) ?_;rintro e w' ⟨rfl,rfl | rfl⟩
 ·exact⟨rfl,RowKit.Below.refl _ _⟩
 ·exact⟨rfl,Lib.bytesWorld_below w 5 s⟩
theorem bC8 {u:Nat}(h:u<1000000000):(Obl.inR .u32 (.n u)).ok:=by show lo _≤_∧_≤hi _;simp only[lo,hi,IE.den];omega
theorem bCw {s:ByteArray}{l:List UInt8}{q:Nat}(hs:s.data.toList=l.take q)(hl:q≤l.length)(hq:q≤2^38){e:IE}(he:e=IE.max (.sub (.len (.v s)) (.l 9)) (.l 0)):
  (Obl.inR .i64 (.sub (.len (.v s)) (.l 9))).ok∧(Obl.slc e (.len (.v s)) (.v s)).ok∧(Obl.slc (.l 0) e (.v s)).ok∧(SE.sub (.v s) e (.len (.v s))).den.data.toList=(l.take q).drop (q - 9)∧(SE.sub (.v s) (.l 0) e).den.data.toList=l.take (q - 9)∧
  ((BE.lt (.l 0) (.len (.v s))).den=true→0<q)∧((BE.lt (.l 0) (.len (.v s))).den=false→q=0)∧(SE.sub (.v s) e (.len (.v s))).den.size≤2^60:=by
 have hsz:s.size=q:=by
  have:s.size=s.data.toList.length:=rfl
  rw[this,hs,List.length_take];omega
 have hlq:(IE.len (.v s)).den=q:=by show((s.size:Nat):Int)=_;rw[hsz]
 have hmx:e.den=((q - 9:Nat):Int):=by
  rw[he];show(if(IE.len (.v s)).den - 9<0 then 0 else(IE.len (.v s)).den - 9)=_
  rw[hlq];split<;>omega
 have hx:∀(i j:Nat),(s.extract i j).data.toList=((l.take q).take j).drop i:=fun i j=>by rw[←hs,ByteArray.data_extract,Array.toList_extract,List.extract_eq_take_drop];rw[List.drop_take]
 refine⟨?_,?_,?_,?_,?_,?_,?_,?_⟩
 ·show lo _≤(IE.len (.v s)).den - 9∧(IE.len (.v s)).den - 9≤hi _;rw[hlq];simp only[lo,hi];omega
 ·show 0≤_∧_≤_∧_≤_;rw[hmx,hlq];show 0≤_∧_≤_∧_≤((s.size:Nat):Int);rw[hsz];omega
 ·show 0≤_∧_≤_∧_≤_;rw[hmx];show(0:Int)≤0∧(0:Int)≤_∧_≤((s.size:Nat):Int);rw[hsz];omega
 ·show(s.extract e.den.toNat (IE.len (.v s)).den.toNat).data.toList=_
  rw[hx,hmx,hlq,Int.toNat_natCast,Int.toNat_natCast,List.take_take,Nat.min_self]
 ·show(s.extract 0 e.den.toNat).data.toList=_
  rw[hx,hmx,List.take_take];simp
 ·intro h;have h:=BE.lt_t h;rw[hlq]at h;simp only[IE.den]at h;omega
 ·intro h;have h:=BE.lt_f h;rw[hlq]at h;simp only[IE.den]at h;omega
 ·show(s.extract e.den.toNat (IE.len (.v s)).den.toNat).size≤_
  rw[ByteArray.size_extract,hlq];simp;omega
structure RdX where
 s:ByteArray
 a:Option Addr
 cap:Nat
 k:Nat
 q:Nat
 out:List Int
set_option maxHeartbeats 0 in
theorem aD0 {X:Nat→Prop}{w:World}{n:Nat}(hbn:dl n≤2^38)(hX:∀b,X b→b<w.heap.size):Fn PP 259 [.string (aK n)] X w (aP n):=by
 obtain⟨R,hRR⟩:=nm (aP n);obtain⟨l,hl⟩:=nm (Lib.decDigits n);have cG:l.all lK=true:=by rw[hl];exact gG n
 have vJ:dS 0 l=n:=by rw[hl];exact cR n
 have hlen:l.length≤2^38:=by rw[hl];exact hbn
 rw[←hRR];obtain⟨s0,hs0⟩:∃s,s=aK n:=⟨_,rfl⟩;have bEw:s0.data.toList=l.take l.length:=by rw[hs0,cM,←hl,List.take_length]
 rw[←hs0];refine bE mixed tok [.s (.v s0)] (K:=[]) Tryz.func259 rfl rfl (lbl rfl) rfl hX (fun f hf=>by cases hf) fun c hc hR=>?_
 obtain⟨G,hG⟩:∃G:Option Addr→Nat→Nat→List Int→OF,∀a n cap l,G a n cap l=OF.row (.slice a n cap) c.B.heap.size 138 .u32 l:=⟨fun a n cap l=>OF.row (.slice a n cap) c.B.heap.size 138 .u32 l,fun _ _ _ _=>rfl⟩;refine aBy hG rfl ?_;refine zN hc ?_;cbv;let ι:={x:RdX//x.s.data.toList=l.take x.q∧RdS l x.q x.out∧x.k=x.out.length}
 let I:ι→St:=fun x=>⟨[(0,.s (.v x.1.s)),(3,.xs x.1.a x.1.k x.1.cap)],[],[G x.1.a x.1.k x.1.cap x.1.out]⟩
 let x0:ι:=⟨⟨s0,none,0,0,l.length,[]⟩,bEw,RdS.init l,rfl⟩
 have kof:∀a i cp out,aEj 0 [G a i cp out]:=fun a i cp out=>⟨by rw[hG];exact OFr.row _ _ _ _ _ _,trivial⟩
 refine zU 0 (S':=I x0) (K':=[]) ⟨zS rfl rfl,zS rfl rfl,trivial⟩ trivial (kof _ _ _ _) ?_;refine bP hc I (fun x=>x.1.q) x0 100 ?_;rintro p ⟨⟨s,a,cap,k,q,out⟩,hs,hr,hk⟩ hy;simp only at hs hr hk;have bCe:q≤2^38:=lTr hr.le hlen
 obtain⟨o1,o2,o3,f1,f2,aHh,bCc,f3⟩:=bCw hs hr.le bCe rfl;obtain⟨u,hu⟩:=nm (dS 0 ((l.take q).drop (q - 9)));have cW:=fun h=>hr.step cG h
 have hpw:=fun h=>aKf cG hr.le h
 have hu9:=word_lt cG hr.le
 rw[←hu]at cW hpw hu9;rw[←f1]at hpw;cbv;refine aE hc rfl 100 (fun h=>?_) (fun h=>?_)
 ·have hq0:=aHh h
  have hpu:=aZq f3 (hpw hq0)
  cbv;refine aQ hc ⟨o1,o2,trivial⟩ ?_;refine zC hc (.t [.i .u64 (.n u),.o .nilIface]) hpu aP2 ?_;have o4:(Obl.inR .u32 (.n u)).ok:=bC8 hu9
  have hlb:(out.length+1)*4≤140737488355328:=by have:=hr.n;omega
  have aCk:out.length+1≤9223372036854775807:=by omega
  have cW:=cW hq0
  have hq9:q - 9<q:=by omega
  cbv;refine aQ hc ⟨o4,trivial⟩ ?_;refine mX hc _ rfl rfl rfl hG rfl rfl rfl rfl rfl rfl rfl rfl rfl dL hlb aCk (fun a' n' aZ l' hn' hl'=>?_);have hl':l'=out++[(u:Int)]:=hl'
  refine zN hc ?_;cbv;refine aQ hc ⟨o3,trivial⟩ ?_;exact zU 0 (S':=I ⟨⟨_,a',aZ,n',q - 9,l'⟩,f2,by rw[hl'];exact cW,by rw[hl',hn'];simp⟩) (K':=[]) ⟨zS rfl rfl,zS rfl rfl,trivial⟩ trivial (kof _ _ _ _) (hy _ hq9)
 ·have hq0:=bCc h
  have hr0:RdS l 0 out:=by rw[←hq0];exact hr
  have hv:=hr0.done
  rw[vJ]at hv;have hk':k≤2^38:=by rw[hk];have:=hr.n;omega
  cbv;refine sM (hG _ _ _ _) rfl rfl ?_;refine eE hc (R:=R) qX (fun n0 D X μ a w aL H aJ=>?_) 100 ?_
  ·obtain⟨v1,rfl,h1⟩:=aV aJ;have h1:=lI h1
   rw[h1,hRR,←hv];exact kU hr0.wd (by have:=hr.n;omega) H.xlt (H.cst (.head _))
  cbv;refine aS hc hR rfl (fun X μ a w v' H hv'=>?_);exact H.toP.val (.head _) hv'
end Go.Ai
namespace Go.Ai
open Go Go.Proofs Go.Num
theorem wS:aB PP 243:=zK
theorem zA:aB PP 244:=zK
theorem mP {n:Nat}{v:Value}{X:Nat→Prop}{w:World}(h:(aP n).p v X w):v.oneCell'=true:=by
 obtain⟨a,cap,e,_⟩:=h;rw[e];rfl
theorem aV1 {n:Nat}(h:dl n≤2^38):(aK n).size≤2^60:=by rw[eR];exact lTr h (by decide)
theorem aBm {n:Nat}(h:dl n≤2^38):Pure PP 205 [.string (aK n)] (.bool true):=by
 have:=aKd (aK n) (aV1 h)
 rwa [cM,gD]at this
def aF7 (n m:Nat):RV:=.tp [.one (.x (aP n)),.one (.x (aP m)),.one (.i .i64 (.l 0))]
theorem rV {n m:Nat}(hn:dl n≤2^38)(hm:dl m≤2^38):yY PP 243 [.one (.s (.v (aK n))),.one (.s (.v (aK m)))] (aF7 n m):=by
 intro args X w hX hp
 match args,hp with
 | [_,_],⟨rfl,rfl,_⟩=>
 obtain⟨R,hRR⟩:=nm (wA (aF7 n m));obtain⟨R1,hR1⟩:∃R,R=aP n:=⟨_,rfl⟩;obtain⟨R2,hR2⟩:∃R,R=aP m:=⟨_,rfl⟩;rw[←hRR];have h1:=aBm hn
 have h2:=aBm hm
 have h3:∀{X:Nat→Prop} {w:World},(∀b,X b→b<w.heap.size)→Fn PP 259 [.string (aK n)] X w R1:=fun hX=>by rw[hR1];exact aD0 hn hX
 have h4:∀{X:Nat→Prop} {w:World},(∀b,X b→b<w.heap.size)→Fn PP 259 [.string (aK m)] X w R2:=fun hX=>by rw[hR2];exact aD0 hm hX
 show Fn PP _ [.string (aK n),.string (aK m)] X w R
 obtain⟨s,hs⟩:=nm (aK n);obtain⟨t,ht⟩:∃s,s=aK m:=⟨_,rfl⟩;rw[←hs]at h1 h3 ⊢;rw[←ht]at h2 h4 ⊢;refine bE mixed tok [.s (.v s),.s (.v t)] (K:=[]) Tryz.func243 rfl rfl (lbl rfl) rfl hX (fun f hf=>by cases hf) fun c hc hR=>?_
 refine zN hc ?_;cbv;refine zC hc (.b (.l true)) h1 qU ?_;cbv;refine zC hc (.b (.l true)) h2 qU ?_;cbv;refine eE hc (R:=R1) aP5 (fun n0 D X μ a w aL H aJ=>?_) 100 ?_
 ·obtain⟨v1,rfl,h⟩:=aV aJ;rw[dH h];exact h3 H.xlt
 cbv;refine eE hc (R:=R2) aP5 (fun n0 D X μ a w aL H aJ=>?_) 100 ?_
 ·obtain⟨v1,rfl,h⟩:=aV aJ;rw[dH h];exact h4 H.xlt
 cbv;refine aS hc hR rfl (fun X μ a w v H hv=>?_);obtain⟨vs,hvs,rfl⟩:=mH hv;obtain⟨v1,v2,v3,rfl,e1,e2,e3⟩:=eX hvs;have q1:=H.toP.val (R:=R1) (.tail _ (.head _)) e1
 have q2:=H.toP.val (R:=R2) (.head _) e2
 rw[hR1]at q1;rw[hR2]at q2;rw[hRR];exact⟨[v1,v2,v3],rfl,⟨mP q1,q1⟩,⟨mP q2,q2⟩,bQ e3,trivial⟩
theorem aPf {g n m r:Nat}{v u:Value}{X:Nat→Prop}{w:World}(cg:aB PP g)(hr:(aF r).length≤2^38)(hX:∀b,X b→b<w.heap.size)(hv:(aP n).p v X w)(hu:(aP m).p u X w)
  (hop:∀{X:Nat→Prop} {w:World},(∀b,X b→b<w.heap.size)→(aP n).p v X w→(aP m).p u X w→Fn PP g [v,u] X w (aP r)):
  Fn PP 244 [.func (.func g) #[v] #[],u] X w (dJ (.tuple #[.string (aK r),.int .i64 0])):=by
 obtain⟨R,hRR⟩:=nm (dJ (.tuple #[.string (aK r),.int .i64 0]));obtain⟨s,hs⟩:=nm (aK r);obtain⟨K,hK⟩:=nm ([KF.cst v (aP n),KF.cst u (aP m)]);obtain⟨R1,hR1⟩:∃R,R=aP r:=⟨_,rfl⟩;rw[←hRR];refine bE mixed tok [.f (.func g) [.q v] [],.q u] (K:=K) Tryz.func244 rfl rfl (lbl rfl) rfl hX (by rw[hK];simp;exact⟨hv,hu⟩) fun c hc hR=>?_
 refine zN hc ?_;cbv;refine eE hc (R:=R1) cg (fun n0 D X μ a w aL H aJ=>?_) 100 ?_
 ·obtain⟨v1,v2,rfl,e1,e2⟩:=bX aJ;rw[aE3 e1,aE3 e2,hR1];exact hop H.xlt (H.cst (by rw[hK];exact .head _)) (H.cst (by rw[hK];exact .tail _ (.head _)))
 cbv;refine bL hc (.s (.v s)) (r:=.string s) aJe (fun n0 D X μ a w aL H aJ=>?_) rfl 100 ?_
 ·obtain⟨v1,rfl,e1⟩:=aV aJ;have q1:=H.val (R:=R1) (.head _) e1
  rw[hR1]at q1;rw[hs];exact yB hr H.xlt q1
 cbv;refine aS hc hR rfl (fun X μ a w v' H hv'=>?_);obtain⟨vs,hvs,rfl⟩:=mH hv';obtain⟨v1,v2,rfl,e1,e2⟩:=bX hvs;rw[hRR,dH e1,bQ e2,←hs]
 rfl
theorem aLf {c:Cx}{K:List KF}{n0:Nat}{D:Nat→Prop}{S:St}{X:Nat→Prop}{μ:Mu}{a:Act}{w:World}(H:PSim c K n0 D S X μ a w){F:VF}{k n m:Nat}{v:Value}(hm:KF.at k F∈K)(hF:F=wA (aF7 n m))(e:aC μ (.ec k 0)=some v):(aP n).p v X w:=
 ((eH.ec (c:=.x (aP n)) hm hF rfl).ok H.kf e).2
theorem aF6 {c:Cx}{K:List KF}{n0:Nat}{D:Nat→Prop}{S:St}{X:Nat→Prop}{μ:Mu}{a:Act}{w:World}(H:PSim c K n0 D S X μ a w){F:VF}{k n m:Nat}{v:Value}(hm:KF.at k F∈K)(hF:F=wA (aF7 n m))(e:aC μ (.ec k 1)=some v):(aP m).p v X w:=
 ((eH.ec (c:=.x (aP m)) hm hF rfl).ok H.kf e).2
theorem iG {n:Nat}(h:dl n≤2^37):(aF n).length≤2^38:=lTr (iF n) (lTr h (by decide))
theorem sA {n:Nat}(h:dl n≤2^37):(aF n).length≤2^39:=lTr (iF n) (lTr h (by decide))
theorem lW {n:Nat}(h:dl n≤2^37):(aF n).length≤2^40:=lTr (iF n) (lTr h (by decide))
theorem yV {k:Nat}(h:k≤2^37):k≤2^38:=lTr h (by decide)
theorem aX7 {n m:Nat}(hn:dl n≤2^37)(hm:dl m≤2^37):(aF (Nat.gcd n m)).length≤2^38:=by
 by_cases h:n=0
 ·rw[h,Nat.gcd_zero_left];exact iG hm
 ·exact lTr (bU (Nat.gcd_le_left m (by omega))) (iG hn)
theorem uI {c:Cx}{K:List KF}{n0:Nat}{D:Nat→Prop}{S:St}{X:Nat→Prop}{μ:Mu}{a:Act}{w:World}(H:PSim c K n0 D S X μ a w){F:VF}{g k n m r:Nat}{aL:List Value}(hm:KF.at k F∈K)(hF:F=wA (aF7 n m))(e:aH μ [.f (.func g) [.ec k 0] [],.ec k 1]=some aL)
  (cg:aB PP g) (hr:(aF r).length≤2^38) (hop:∀{X:Nat→Prop} {w:World} {v u:Value},(∀b,X b→b<w.heap.size)→(aP n).p v X w→(aP m).p u X w→Fn PP g [v,u] X w (aP r)):
  Fn PP 244 aL X w (dJ (.tuple #[.string (aK r),.int .i64 0])):=by
 obtain⟨v1,v2,rfl,e1,e2⟩:=bX e;obtain⟨us,vs,h1,h2,rfl⟩:=aE2 e1;obtain⟨x,rfl,e3⟩:=aV h1;simp only[aH]at h2;injection h2 with h2;subst h2
 exact aPf cg hr H.xlt (aLf H hm hF e3) (aF6 H hm hF e2) hop
theorem bCo {n m:Nat}(hn:dl n≤2^37)(hm:dl m≤2^37):Pure PP 247 [.string (aK n),.string (aK m)] (.tuple #[.string (aK (n+m)),.int .i64 0]):=by
 have hb:=rV (yV hn) (yV hm)
 have hbd:(aF (n+m)).length≤2^38:=(lTr (iF _) (lTr (aQr n m) (by omega)))
 obtain⟨s,hs⟩:=nm (aK n);obtain⟨t,ht⟩:∃s,s=aK m:=⟨_,rfl⟩;obtain⟨r,hr⟩:∃s,s=aK (n+m):=⟨_,rfl⟩;rw[←hs,←ht,←hr];rw[←hs,←ht]at hb;refine aG mixed tok [.s (.v s),.s (.v t)] Tryz.func247 rfl rfl (lbl rfl) rfl fun c hc hR=>?_
 refine zN hc ?_;cbv;refine dZ hc wS hb ⟨.s rfl,.s rfl,trivial⟩ (.t [.ec 0 0,.ec 0 1,.i .i64 (.l 0)]) rfl 100 (fun FB hFB=>?_);cbv;refine bL hc (.t [.s (.v r),.i .i64 (.l 0)]) (r:=.tuple #[.string r,.int .i64 0]) zA (fun n0 D X μ a w aL H aJ=>?_) rfl 100 ?_
 ·rw[hr];exact uI H (.head _) hFB aJ aXq hbd (fun hX hv hu=>aOk (lW hn) (lW hm) hX hv hu)
 cbv;exact aD hc hR rfl rfl
theorem aZo {n m:Nat}(hn:dl n≤2^37)(hm:dl m≤2^37):Pure PP 231 [.string (aK n),.string (aK m)] (.tuple #[.string (aK (n*m)),.int .i64 0]):=by
 have hb:=rV (yV hn) (yV hm)
 have hbd:(aF (n*m)).length≤2^38:=(lTr (iF _) (lTr (pK n m) (by omega)))
 obtain⟨s,hs⟩:=nm (aK n);obtain⟨t,ht⟩:∃s,s=aK m:=⟨_,rfl⟩;obtain⟨r,hr⟩:∃s,s=aK (n*m):=⟨_,rfl⟩;rw[←hs,←ht,←hr];rw[←hs,←ht]at hb;refine aG mixed tok [.s (.v s),.s (.v t)] Tryz.func231 rfl rfl (lbl rfl) rfl fun c hc hR=>?_
 refine zN hc ?_;cbv;refine dZ hc wS hb ⟨.s rfl,.s rfl,trivial⟩ (.t [.ec 0 0,.ec 0 1,.i .i64 (.l 0)]) rfl 100 (fun FB hFB=>?_);cbv;refine bL hc (.t [.s (.v r),.i .i64 (.l 0)]) (r:=.tuple #[.string r,.int .i64 0]) zA (fun n0 D X μ a w aL H aJ=>?_) rfl 100 ?_
 ·rw[hr];exact uI H (.head _) hFB aJ aEv hbd (fun hX hv hu=>aCb (sA hn) (sA hm) hX hv hu)
 cbv;exact aD hc hR rfl rfl
theorem bE9 {n m:Nat}(hn:dl n≤2^37)(hm:dl m≤2^37):Pure PP 228 [.string (aK n),.string (aK m)] (.tuple #[.string (aK (Nat.gcd n m)),.int .i64 0]):=by
 have hb:=rV (yV hn) (yV hm)
 have hbd:(aF (Nat.gcd n m)).length≤2^38:=(aX7 hn hm)
 obtain⟨s,hs⟩:=nm (aK n);obtain⟨t,ht⟩:∃s,s=aK m:=⟨_,rfl⟩;obtain⟨r,hr⟩:∃s,s=aK (Nat.gcd n m):=⟨_,rfl⟩;rw[←hs,←ht,←hr];rw[←hs,←ht]at hb;refine aG mixed tok [.s (.v s),.s (.v t)] Tryz.func228 rfl rfl (lbl rfl) rfl fun c hc hR=>?_
 refine zN hc ?_;cbv;refine dZ hc wS hb ⟨.s rfl,.s rfl,trivial⟩ (.t [.ec 0 0,.ec 0 1,.i .i64 (.l 0)]) rfl 100 (fun FB hFB=>?_);cbv;refine bL hc (.t [.s (.v r),.i .i64 (.l 0)]) (r:=.tuple #[.string r,.int .i64 0]) zA (fun n0 D X μ a w aL H aJ=>?_) rfl 100 ?_
 ·rw[hr];exact uI H (.head _) hFB aJ bAw hbd (fun hX hv hu=>aQ6 (iG hn) (iG hm) hX hv hu)
 cbv;exact aD hc hR rfl rfl
theorem aR5 {n m:Nat}(hn:dl n≤2^37)(hm:dl m≤2^37):Pure PP 248 [.string (aK n),.string (aK m)] (.tuple #[.int .i64 (bS n m),.int .i64 0]):=by
 have hb:=rV (yV hn) (yV hm)
 obtain⟨s,hs⟩:=nm (aK n);obtain⟨t,ht⟩:∃s,s=aK m:=⟨_,rfl⟩;obtain⟨z,hz⟩:=nm (bS n m);rw[←hs,←ht,←hz];rw[←hs,←ht]at hb;refine aG mixed tok [.s (.v s),.s (.v t)] Tryz.func248 rfl rfl (lbl rfl) rfl fun c hc hR=>?_
 refine zN hc ?_;cbv;refine dZ hc wS hb ⟨.s rfl,.s rfl,trivial⟩ (.t [.ec 0 0,.ec 0 1,.i .i64 (.l 0)]) rfl 100 (fun FB hFB=>?_);cbv;refine bL hc (.i .i64 (.v z)) (r:=.int .i64 z) wT (fun n0 D X μ a w aL H aJ=>?_) rfl 100 ?_
 ·obtain⟨v1,v2,rfl,e1,e2⟩:=bX aJ;rw[hz];exact pF (lW hn) (lW hm) H.xlt (aLf H (.head _) hFB e1) (aF6 H (.head _) hFB e2)
 cbv;exact aD hc hR rfl rfl
theorem aGu {n m:Nat}{z:Int}(hz:z=bS n m)(h:m≤n):¬z<0:=by rw[hz];unfold bS;split<;>(try split)<;>omega
theorem aZp {n m:Nat}(hnm:m≤n)(hn:dl n≤2^37)(hm:dl m≤2^37):Pure PP 249 [.string (aK n),.string (aK m)] (.tuple #[.string (aK (n - m)),.int .i64 0]):=by
 have hb:=rV (yV hn) (yV hm)
 have hbd:(aF (n - m)).length≤2^38:=lTr (bU (Nat.sub_le n m)) (iG hn)
 obtain⟨s,hs⟩:=nm (aK n);obtain⟨t,ht⟩:∃s,s=aK m:=⟨_,rfl⟩;obtain⟨r,hr⟩:∃s,s=aK (n - m):=⟨_,rfl⟩;obtain⟨z,hz⟩:=nm (bS n m);have hz0:=aGu hz hnm
 rw[←hs,←ht,←hr];rw[←hs,←ht]at hb;refine aG mixed tok [.s (.v s),.s (.v t)] Tryz.func249 rfl rfl (lbl rfl) rfl fun c hc hR=>?_
 refine zN hc ?_;cbv;refine dZ hc wS hb ⟨.s rfl,.s rfl,trivial⟩ (.t [.ec 0 0,.ec 0 1,.i .i64 (.l 0)]) rfl 100 (fun FB hFB=>?_);cbv;refine bL hc (.i .i64 (.v z)) (r:=.int .i64 z) wT (fun n0 D X μ a w aL H aJ=>?_) rfl 100 ?_
 ·obtain⟨v1,v2,rfl,e1,e2⟩:=bX aJ;rw[hz];exact pF (lW hn) (lW hm) H.xlt (aLf H (.head _) hFB e1) (aF6 H (.head _) hFB e2)
 cbv;refine aE hc rfl 100 (fun h=>absurd (BE.lt_t h) hz0) (fun h=>?_);cbv;refine bL hc (.t [.s (.v r),.i .i64 (.l 0)]) (r:=.tuple #[.string r,.int .i64 0]) zA (fun n0 D X μ a w aL H aJ=>?_) rfl 100 ?_
 ·rw[hr];exact uI H (.head _) hFB aJ aT7 hbd (fun hX hv hu=>aKb hnm (Nat.lt_of_le_of_lt (sA hn) (by decide)) (Nat.lt_of_le_of_lt (sA hm) (by decide)) hX hv hu)
 cbv;exact aD hc hR rfl rfl
theorem aMn {n m:Nat}(hm0:0<m)(hn:dl n≤2^37)(hm:dl m≤2^37):Pure PP 253 [.string (aK n),.string (aK m)] (.tuple #[.string (aK (n/m)),.string (aK (n%m)),.int .i64 0]):=by
 have hb:=rV (yV hn) (yV hm)
 have hb1:(aF (n/m)).length≤2^38:=lTr (bU (Nat.div_le_self n m)) (iG hn)
 have hb2:(aF (n%m)).length≤2^38:=lTr (bU (Nat.mod_le n m)) (iG hn)
 obtain⟨s,hs⟩:=nm (aK n);obtain⟨t,ht⟩:∃s,s=aK m:=⟨_,rfl⟩;obtain⟨r1,hr1⟩:∃s,s=aK (n/m):=⟨_,rfl⟩;obtain⟨r2,hr2⟩:∃s,s=aK (n%m):=⟨_,rfl⟩;rw[←hs,←ht,←hr1,←hr2];rw[←hs,←ht]at hb;obtain⟨R1,hR1⟩:∃R,R=aP (n/m):=⟨_,rfl⟩;obtain⟨R2,hR2⟩:∃R,R=aP (n%m):=⟨_,rfl⟩;have hlm:0<(aF m).length:=by rw[bY (Nat.pos_iff_ne_zero.1 hm0)];simp
 refine aG mixed tok [.s (.v s),.s (.v t)] Tryz.func253 rfl rfl (lbl rfl) rfl fun c hc hR=>?_
 refine zN hc ?_;cbv;refine dZ hc wS hb ⟨.s rfl,.s rfl,trivial⟩ (.t [.ec 0 0,.ec 0 1,.i .i64 (.l 0)]) rfl 100 (fun FB hFB=>?_);cbv;refine dQ 24 .u32 (aF m) rfl rfl (fun X μ a w v' H hv'=>aF6 H.toP (.head _) hFB hv') fun f' M aZ hM hf' gW=>?_
 have hM0:0<M:=by rw[hM];exact hlm
 refine zN hc ?_;cbv;refine aE hc rfl 100 (fun h=>absurd (BE.eqnl_t (k:=0) h) (Nat.pos_iff_ne_zero.1 hM0)) (fun h=>?_);cbv;refine eE hc (R:=kB R1 R2) aGe (fun n0 D X μ a w aL H aJ=>?_) 100 ?_
 ·obtain⟨v1,v2,rfl,e1,e2⟩:=bX aJ;rw[hR1,hR2];exact yH hm0 (iG hn) (iG hm) H.xlt (aLf H (.head _) hFB e1) (aF6 H (.head _) hFB e2)
 cbv;refine rP 27 2 (R1:=R1) (R2:=R2) rfl rfl (.head _) ?_;refine zN hc ?_;cbv;refine bL hc (.s (.v r1)) (r:=.string r1) aJe (fun n0 D X μ a w aL H aJ=>?_) rfl 100 ?_
 ·obtain⟨v1,rfl,e1⟩:=aV aJ;have q1:=H.val (R:=R1) (.head _) e1
  rw[hR1]at q1;rw[hr1];exact yB hb1 H.xlt q1
 cbv;refine bL hc (.s (.v r2)) (r:=.string r2) aJe (fun n0 D X μ a w aL H aJ=>?_) rfl 100 ?_
 ·obtain⟨v1,rfl,e1⟩:=aV aJ;have q1:=H.val (R:=R2) (.tail _ (.head _)) e1
  rw[hR2]at q1;rw[hr2];exact yB hb2 H.xlt q1
 cbv;exact aD hc hR rfl rfl
end Go.Ai
