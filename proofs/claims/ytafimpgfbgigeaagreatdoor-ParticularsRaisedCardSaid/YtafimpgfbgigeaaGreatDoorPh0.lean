/- Part 1: lemmas for the particulars laws -/
import Derived.ChangeKeysEq
import Derived.DeepKeys
import Derived.WalkKit
import Derived.Below
import Derived.LoopNIn
import Derived.OrdersIn
import Derived.RangeFuncLeaves
import Derived.RangeFuncRecord
import Derived.Orders
import Derived.Deep.MidRow
import Derived.Laws.StructEq
import Derived.KernelRfl
import Derived.Lib.ItoaNum
import Derived.Lib.LaidTab
set_option linter.all false
namespace Go
theorem zW{p:Prop}(h:p:=by omega):p:=h
theorem zV{p:Prop}(h:p:=by decide):p:=h
theorem zA{p:Prop}(h:p:=by simp):p:=h
theorem zG{p:Prop}(h:p:=by kernel_rfl):p:=h
theorem zM{p:Prop}(h:p:=by repeat(first | exact .head _ | assumption | apply List.Mem.tail)):p:=h
theorem nm{α:Sort _}(a:α):∃b,b=a:=⟨a,rfl⟩
theorem lbl{n m:Nat}(h:Nat.ble n m=true):n≤m:=Nat.le_of_ble_eq_true h
theorem lTr{a b c:Nat}(h:a≤b)(g:b≤c):a≤c:=Nat.le_trans h g
theorem lRf(a:Nat):a≤a:=Nat.le_refl a
end Go
namespace Go.Ai
open Go
inductive LK | b | s | i (k:IntKind)
deriving DecidableEq
def sG:Value->Option LK
 | .bool _=>some .b
 | .string _=>some .s
 | .int k _=>some (.i k)
 | _=>none
def dQ:List Value->Option (List LK)
 | []=>some []
 | v::l=>match sG v,dQ l with | some k,some ks=>some (k::ks) | _,_=>none
theorem tK {v:Value}{l:List Value}{k:LK}{ks:List LK}(h:dQ (v::l)=some (k::ks)):sG v=some k/\dQ l=some ks:=by
 simp only[dQ]at h;split at h
 ·rename_i h1 h2;injection h with h;injection h with e1 e2;subst e1;subst e2;exact⟨h1,h2⟩
 ·cases h
theorem aDo {l:List Value}(h:dQ l=some []):l=[]:=by
 cases l with
 | nil=>rfl
 | cons v l=>simp only[dQ]at h;split at h<;>simp at h
theorem vH:∀{l:List Value} {ks:List LK},dQ l=some ks->l.length=ks.length
 | [],ks,h=>by simp only[dQ]at h;injection h with h;subst h;rfl
 | v::l,ks,h=>by
  simp only[dQ]at h;split at h
  ·rename_i k ks' h1 h2;injection h with h;subst h;simp[vH h2]
  ·cases h
theorem rR:∀{k1 k2:List LK} {l:List Value},dQ l=some (k1++k2)->dQ (l.take k1.length)=some k1/\dQ (l.drop k1.length)=some k2
 | [],k2,l,h=>by simpa[dQ]using h
 | k::k1,k2,[],h=>by simp[dQ]at h
 | k::k1,k2,v::l,h=>by
  obtain⟨h1,h2⟩:=tK h;obtain⟨h3,h4⟩:=rR h2;exact⟨by simp only[List.length_cons,List.take_succ_cons,dQ,h1,h3],by simpa using h4⟩
def yA (g:TypeId->Option (List LK))(P:Program):List Field->Nat->Option (List LK)
 | [],_=>some []
 | f::fs,off=>if f.name= "_" then none else if f.offset≠off then none else match g f.type with
  | some l=>if P.cellsOf f.type=l.length then(match yA g P fs (off+l.length)with | some r=>some (l++r) | none=>none)else none
  | none=>none
def leaves (P:Program):Nat->TypeId->Option (List LK)
 | 0,_=>none
 | d+1,t=>match P.underlying t with
  | some .bool=>some [.b]
  | some (.int q)=>some [.i q]
  | some .string=>some [.s]
  | some (.struct fs)=>if P.stoodInHeld t then none else yA (leaves P d) P fs.toList 0
  | _=>none
def Shp (P:Program)(t:TypeId)(a:Value):Prop:=match P.underlying t with
 | some (.struct _)=>∃xs,a=.agg xs
 | _=>a.cells=#[a]
def EqW (P:Program)(dd:Nat)(t:TypeId)(ls:List LK):Prop:=
 ∀w a b,Shp P t a->Shp P t b->dQ a.cells.toList=some ls->dQ b.cells.toList=some ls->
  ∃r:Bool,(Op.equalIn dd t a b).run P w=.ok r w/\(r=true↔a.cells.toList=b.cells.toList)
section
variable {P:Program}
theorem mB {a:Value}{k:LK}(ha:a.cells=#[a])(h:dQ a.cells.toList=some [k]):sG a=some k:=by
 rw[ha]at h;exact(tK h).1
theorem aOz {a:Value}(h:sG a=some .b):∃x,a=.bool x:=by cases a<;>simp[sG]at h;exact⟨_,rfl⟩
theorem aO1 {a:Value}(h:sG a=some .s):∃x,a=.string x:=by cases a<;>simp[sG]at h;exact⟨_,rfl⟩
theorem aO0 {a:Value}{q:IntKind}(h:sG a=some (.i q)):∃x,a=.int q x:=by
 cases a<;>simp[sG]at h;subst h;exact⟨_,rfl⟩
theorem sI {d:Nat}{t:TypeId}{ls:List LK}(h:leaves P d t=some ls)(hn:P.cellsOf t=ls.length){xs:Array Value}{off:Nat}(hk:dQ ((xs.toList.drop off).take ls.length)=some ls)(w:World):
  ∃a,(part t xs off).run P w=.ok a w/\Shp P t a/\a.cells.toList=(xs.toList.drop off).take ls.length:=by
 cases d with
 | zero=>cases h
 | succ d=>
  simp only[leaves]at h;have leaf:∀k,ls=[k]->P.plainKey t=true->(∀fs,P.underlying t≠some (.struct fs))->∃a,(part t xs off).run P w=.ok a w/\Shp P t a/\a.cells.toList=(xs.toList.drop off).take ls.length:=by
   intro k e hp hns;subst e;have hl:=vH hk;cases hd:xs.toList.drop off with
   | nil=>rw[hd]at hl;simp at hl
   | cons v l=>
    rw[hd]at hk;have hv:=(tK (l:=[]) (by simpa using hk)).1;have hx:xs[off]?=some v:=by
     have:(xs.toList.drop off)[0]?=some v:=by rw[hd];rfl
     rw[List.getElem?_drop]at this;simpa using this
    have hc:v.cells=#[v]:=by cases v<;>simp[sG]at hv<;>rfl
    refine⟨v,run_part_plain w hp hx,?_,by rw[hc];rfl⟩;unfold Shp;split
    ·rename_i fs hfs;exact absurd hfs (hns fs)
    ·exact hc
  cases hu:P.underlying t with
  | none=>rw[hu]at h;cases h
  | some kd=>
   rw[hu]at h;cases kd<;>try (cases h;done)
   case bool=>injection h with h;exact leaf _ h.symm (by simp[Program.plainKey,hu]) (by simp[hu])
   case int q=>injection h with h;exact leaf _ h.symm (by simp[Program.plainKey,hu]) (by simp[hu])
   case string=>injection h with h;exact leaf _ h.symm (by simp[Program.plainKey,hu]) (by simp[hu])
   case struct fs=>
    obtain⟨i,hi⟩:=info_of_underlying hu;have hl:(xs.extract off (off+P.cellsOf t)).toList=(xs.toList.drop off).take (P.cellsOf t):=by
     rw[Array.toList_extract];simp[List.extract]
    refine⟨.agg (xs.extract off (off+P.cellsOf t)),by simp[part,isAgg,run_underlying hu,run_sizeOf w hi],?_,by rw[<-hn];exact hl⟩;unfold Shp;rw[hu];exact⟨_,rfl⟩
theorem nD {dd d:Nat}(IH:∀t l,leaves P d t=some l->EqW P dd t l)(w:World){xs ys:Array Value}:∀{fs:List Field} {off:Nat} {ls:List LK},yA (leaves P d) P fs off=some ls->
  dQ (xs.toList.drop off)=some ls->dQ (ys.toList.drop off)=some ls->∃r:Bool,(Op.eqFields dd xs ys fs).run P w=.ok r w/\(r=true↔xs.toList.drop off=ys.toList.drop off)
 | [],off,ls,h,hx,hy=>by
  simp only[yA]at h;injection h with h;subst h
  exact⟨true,by simp[Op.eqFields],by rw[aDo hx,aDo hy];simp⟩
 | f::fs,off,ls,h,hx,hy=>by
  simp only[yA]at h;split at h
  ·cases h
  rename_i hn;split at h
  ·cases h
  rename_i ho;have ho:f.offset=off:=Classical.not_not.1 ho;split at h
  ·rename_i l hl;split at h
   ·rename_i hc;split at h
    ·rename_i r hr;injection h with h;subst h
     obtain⟨x1,x2⟩:=rR hx;obtain⟨y1,y2⟩:=rR hy;rw[List.drop_drop]at x2 y2;obtain⟨a,a1,a2,a3⟩:=sI hl hc x1 w;obtain⟨b,b1,b2,b3⟩:=sI hl hc y1 w;obtain⟨r1,e1,e2⟩:=IH _ _ hl w a b a2 b2 (by rw[a3];exact x1) (by rw[b3];exact y1);obtain⟨r2,e3,e4⟩:=nD IH w hr x2 y2;rw[a3,b3]at e2;simp only[Op.eqFields,if_pos hn,Sem.run_bind,ho,a1,b1,e1,Result.andThen_ok];have key:(xs.toList.drop off=ys.toList.drop off)↔((xs.toList.drop off).take l.length=(ys.toList.drop off).take l.length/\xs.toList.drop (off+l.length)=ys.toList.drop (off+l.length)):=by
      rw[<-List.drop_drop,<-List.drop_drop];constructor
      ·intro h;rw[h];exact⟨rfl,rfl⟩
      ·intro h;rw[<-List.take_append_drop l.length (xs.toList.drop off),h.1,h.2,List.take_append_drop]
     cases r1
     ·exact⟨false,zA,by simp;intro e;exact absurd (e2.2 (key.1 e).1) zA⟩
     ·exact⟨r2,by simpa using e3,by rw[e4,key];simp[e2.1 rfl]⟩
    ·cases h
   ·cases h
  ·cases h
theorem aRn (x y:ByteArray):(x.toList==y.toList)=true↔(Value.string x).cells.toList=(Value.string y).cells.toList:=by
 rw[ByteArray.toList_eq,ByteArray.toList_eq,beq_iff_eq];constructor
 ·intro h;have:x=y:=by cases x;cases y;simp only at h;rw[Array.toList_inj.1 h]
  rw[this]
 ·intro h;have:#[Value.string x]=#[Value.string y]:=Array.toList_inj.1 h;injection this with this
  injection this with this
  injection this with this
  rw[this]
theorem vZ:∀(d:Nat) (k:Nat) (t:TypeId) (ls:List LK),leaves P d t=some ls->EqW P (k+d) t ls
 | 0,_,_,_,h=>by cases h
 | d+1,k,t,ls,h=>by
  intro w a b ha hb ka kb;simp only[leaves]at h;cases hu:P.underlying t with
  | none=>rw[hu]at h;cases h
  | some kd=>
   rw[hu]at h;cases kd<;>try (cases h;done)
   case bool=>
    injection h with h;subst h
    simp only[Shp,hu]at ha hb;obtain⟨x,rfl⟩:=aOz (mB ha ka);obtain⟨y,rfl⟩:=aOz (mB hb kb);exact⟨x==y,run_equalIn_bool w (k+d) t x y hu,by simp[Value.cells]⟩
   case int q=>
    injection h with h;subst h
    simp only[Shp,hu]at ha hb;obtain⟨x,rfl⟩:=aO0 (mB ha ka);obtain⟨y,rfl⟩:=aO0 (mB hb kb);exact⟨x==y,run_equalIn_int w (k+d) t q q x y hu,by simp[Value.cells]⟩
   case string=>
    injection h with h;subst h
    simp only[Shp,hu]at ha hb;obtain⟨x,rfl⟩:=aO1 (mB ha ka);obtain⟨y,rfl⟩:=aO1 (mB hb kb);exact⟨x.toList==y.toList,run_equalIn_string w (k+d) t x y hu,aRn x y⟩
   case struct fs=>
    simp only at h;split at h
    ·cases h
    rename_i hst;simp only[Shp,hu]at ha hb;obtain⟨xs,rfl⟩:=ha;obtain⟨ys,rfl⟩:=hb;have hfs:P.fieldsOf t=fs:=by simp[Program.fieldsOf,hu]
    have:=nD (λt l h=>vZ d k t l h) w (xs:=xs) (ys:=ys) h (show dQ (xs.toList.drop 0)=_ from ka) (show dQ (ys.toList.drop 0)=_ from kb)
    rw[show k+(d+1)=(k+d)+1 from rfl,run_equalIn_struct w (k+d) t xs ys (by rw[hfs];exact hu) (by simpa using hst),hfs];exact this
end
end Go.Ai
namespace Go.Ai
open Go Go.RowKit
mutual
inductive IE
 | v (x:Int) | n (x:Nat) | l (k:Int)
 | add (a b:IE) | sub (a b:IE) | mul (a b:IE) | quo (a b:IE) | rem (a b:IE)
 | max (a b:IE)
 | len (s:SE) | byte (s:SE) (i:IE)
 | fn (f:Nat->Int) (off:Nat) (i:IE) (sz inner:Nat) | nth (l:List Int) (off:Nat) (i:IE) (sz inner:Nat)
inductive SE
 | v (s:ByteArray)
 | fn (f:Nat->ByteArray) (off:Nat) (i:IE) (sz inner:Nat)
 | sub (s:SE) (lo hi:IE)
 | cat (a b:SE)
end
def aY (off:Nat)(i:Int)(sz inner:Nat):Nat:=off+i.toNat*sz+inner
mutual
def IE.den:IE->Int
 | .v x=>x
 | .n x=>(x:Int)
 | .l k=>k
 | .add a b=>a.den+b.den
 | .sub a b=>a.den - b.den
 | .mul a b=>a.den*b.den
 | .quo a b=>a.den.tdiv b.den
 | .rem a b=>a.den.tmod b.den
 | .max a b=>if a.den<b.den then b.den else a.den
 | .len s=>(s.den.size:Int)
 | .byte s i=>((s.den.data.toList.getD i.den.toNat 0).toNat:Int)
 | .fn f off i sz inner=>f (aY off i.den sz inner)
 | .nth xs off i sz inner=>xs.getD (aY off i.den sz inner) 0
def SE.den:SE->ByteArray
 | .v s=>s
 | .fn f off i sz inner=>f (aY off i.den sz inner)
 | .sub s lo hi=>s.den.extract lo.den.toNat hi.den.toNat
 | .cat a b=>a.den++b.den
end
inductive BE
 | v (b:Bool) | l (b:Bool)
 | lt (a b:IE) | le (a b:IE) | eq (a b:IE)
 | seq (s t:SE) | beq (a b:BE) | not (a:BE) | and (a b:BE)
def BE.den:BE->Bool
 | .v b=>b
 | .l b=>b
 | .lt a b=>decide (a.den<b.den)
 | .le a b=>decide (a.den<=b.den)
 | .eq a b=>decide (a.den=b.den)
 | .seq s t=>s.den.toList==t.den.toList
 | .beq a b=>a.den==b.den
 | .not a=> !a.den
 | .and a b=>a.den&&b.den
def IE.mkAdd:IE->IE->IE
 | .l a,.l b=>.l (a+b)
 | a,b=>.add a b
def IE.mkSub:IE->IE->IE
 | .l a,.l b=>.l (a - b)
 | a,b=>.sub a b
def IE.mkMul:IE->IE->IE
 | .l a,.l b=>.l (a*b)
 | a,b=>.mul a b
def IE.mkQuo:IE->IE->IE
 | .l a,.l b=>.l (a.tdiv b)
 | a,b=>.quo a b
def IE.mkRem:IE->IE->IE
 | .l a,.l b=>.l (a.tmod b)
 | a,b=>.rem a b
def IE.mkMax:IE->IE->IE
 | .l a,.l b=>.l (if a<b then b else a)
 | a,b=>.max a b
def BE.mkLt:IE->IE->BE
 | .l a,.l b=>.l (decide (a<b))
 | a,b=>.lt a b
def BE.mkLe:IE->IE->BE
 | .l a,.l b=>.l (decide (a<=b))
 | a,b=>.le a b
def BE.mkEq:IE->IE->BE
 | .l a,.l b=>.l (decide (a=b))
 | a,b=>.eq a b
def BE.mkNot:BE->BE
 | .l a=>.l (!a)
 | .not a=>a
 | a=>.not a
def BE.mkAnd:BE->BE->BE
 | .l true,b=>b
 | .l false,_=>.l false
 | a,.l true=>a
 | a,b=>.and a b
theorem IE.mkAdd_den (a b:IE):(IE.mkAdd a b).den=a.den+b.den:=by unfold IE.mkAdd;split<;>rfl
theorem IE.mkSub_den (a b:IE):(IE.mkSub a b).den=a.den - b.den:=by unfold IE.mkSub;split<;>rfl
theorem IE.mkMul_den (a b:IE):(IE.mkMul a b).den=a.den*b.den:=by unfold IE.mkMul;split<;>rfl
theorem IE.mkQuo_den (a b:IE):(IE.mkQuo a b).den=a.den.tdiv b.den:=by unfold IE.mkQuo;split<;>rfl
theorem IE.mkRem_den (a b:IE):(IE.mkRem a b).den=a.den.tmod b.den:=by unfold IE.mkRem;split<;>rfl
def IE.mkMin:IE->IE->IE
 | .l a,.l b=>.l (if b<a then b else a)
 | a,b=>.sub (.l 0) (.max (.sub (.l 0) a) (.sub (.l 0) b))
theorem IE.mkMin_den (a b:IE):(IE.mkMin a b).den=if b.den<a.den then b.den else a.den:=by
 unfold IE.mkMin;split
 ·rename_i x y;by_cases h:y<x<;>simp[IE.den,h]
 ·by_cases h:b.den<a.den
  ·have h1:0 - a.den<0 - b.den:=zW
   simp only[IE.den,h,h1,if_true];omega
  ·have h1:¬0 - a.den<0 - b.den:=zW
   simp only[IE.den,h,h1,if_false];omega
theorem IE.mkMax_den (a b:IE):(IE.mkMax a b).den=if a.den<b.den then b.den else a.den:=by unfold IE.mkMax;split<;>rfl
theorem BE.mkLt_den (a b:IE):(BE.mkLt a b).den=decide (a.den<b.den):=by unfold BE.mkLt;split<;>rfl
theorem BE.mkLe_den (a b:IE):(BE.mkLe a b).den=decide (a.den<=b.den):=by unfold BE.mkLe;split<;>rfl
theorem BE.mkEq_den (a b:IE):(BE.mkEq a b).den=decide (a.den=b.den):=by unfold BE.mkEq;split<;>rfl
theorem BE.mkNot_den (a:BE):(BE.mkNot a).den= !a.den:=by unfold BE.mkNot;split<;>simp[BE.den]
theorem BE.mkAnd_den (a b:BE):(BE.mkAnd a b).den=(a.den&&b.den):=by unfold BE.mkAnd;split<;>simp[BE.den]
inductive AV
 | i (k:IntKind) (e:IE)
 | b (e:BE)
 | s (s:SE)
 | p (blk off:Nat)
 | pe (blk off:Nat) (i:IE) (sz inner:Nat)
 | sl (blk off:Nat) (len:IE) (cap:Nat)
 | xs (a:Option Addr) (len cap:Nat)
 | e (k:Nat)
 | g (l:List AV)
 | t (l:List AV)
 | f (fn:Fn) (first cap:List AV)
 | o (v:Value)
 | q (v:Value)
 | ec (k j:Nat)
inductive MV
 | own (b:Nat) | ext (a:Option (Nat × Nat)) | val (v:Value)
def MV.at:MV->Option (Nat × Nat)
 | .own b=>some (b,0)
 | .ext a=>a
 | .val _=>none
def MV.atS:MV->Option (Option (Nat × Nat))
 | .own b=>some (some (b,0))
 | .ext a=>some a
 | .val _=>none
abbrev Mu:=Nat->Option MV
def qM:Value->List Value
 | .tuple vs=>vs.toList.flatMap λv=>v.cells.toList
 | v=>v.cells.toList
def cellV (v:Value)(j:Nat):Option Value:=match (qM v)[j]? with
 | some u=>if u.oneCell'=true then some u else none
 | none=>none
def rA (μ:Mu)(k:Nat):Option (Nat × Nat):=(μ k).bind MV.at
def atS (μ:Mu)(k:Nat):Option (Option (Nat × Nat)):=(μ k).bind MV.atS
mutual
def aD (μ:Mu):AV->Option Value
 | .i k e=>some (.int k e.den)
 | .b e=>some (.bool e.den)
 | .s s=>some (.string s.den)
 | .p k off=>match rA μ k with | some (b,o)=>some (.pointer (some ⟨b,o+off,none⟩)) | none=>none
 | .pe k off i sz inner=>match rA μ k with | some (b,o)=>some (.pointer (some ⟨b,o+aY off i.den sz inner,none⟩)) | none=>none
 | .sl k off len cap=>match atS μ k with
  | some a=>if 0<=len.den/\(a=none->len.den=0/\cap=0)then some (.slice (a.map λx=>⟨x.1,x.2+off,none⟩) len.den.toNat cap)else none
  | none=>none
 | .xs a len cap=>some (.slice a len cap)
 | .e k=>match μ k with | some (.val v)=>some v | _=>none
 | .g l=>match aF μ l with | some vs=>some (.agg vs.toArray) | none=>none
 | .t l=>match aF μ l with | some vs=>some (.tuple vs.toArray) | none=>none
 | .f fn fs cap=>match aF μ fs,aF μ cap with | some us,some vs=>some (.func fn us.toArray vs.toArray) | _,_=>none
 | .o v=>if v.oneCell'=true then some v else none
 | .q v=>some v
 | .ec k j=>match μ k with | some (.val v)=>cellV v j | _=>none
def aF (μ:Mu):List AV->Option (List Value)
 | []=>some []
 | a::l=>match aD μ a,aF μ l with | some v,some vs=>some (v::vs) | _,_=>none
end
def AV.one:AV->Bool
 | .g _ | .t _ | .q _ | .e _=>false
 | _=>true
def hJ:Mu:=λ_=>none
def Mu.le (μ μ':Mu):Prop:=∀k b,μ k=some b->μ' k=some b
def Mu.upd (μ:Mu)(k:Nat)(b:MV):Mu:=λj=>if j=k then some b else μ j
def MV.fixed:MV->Bool
 | .own _=>false
 | _=>true
def Mu.vle (μ μ':Mu):Prop:=∀k m,μ k=some m->μ' k=some m\/∃b,m=.own b/\μ' k=some (.ext (some (b,0)))
theorem Mu.vle.fx {μ μ':Mu}(h:Mu.vle μ μ')(k:Nat)(m:MV)(hf:m.fixed=true)(hk:μ k=some m):μ' k=some m:=by
 rcases h k m hk with h | ⟨b,rfl,_⟩
 ·exact h
 ·cases hf
theorem Mu.le.v {μ μ':Mu}(h:Mu.le μ μ'):Mu.vle μ μ':=λk _ hk=>.inl (h k _ hk)
theorem Mu.vle_refl (μ:Mu):Mu.vle μ μ:=λ_ _ h=>.inl h
theorem Mu.le_refl (μ:Mu):Mu.le μ μ:=λ_ _ h=>h
theorem Mu.le_upd {μ:Mu}{k:Nat}{b:MV}(h:μ k=none):Mu.le μ (μ.upd k b):=λj c hj=>by
 unfold Mu.upd;split
 ·rename_i e;rw[e]at hj;rw[h]at hj;cases hj
 ·exact hj
theorem aRm {μ μ':Mu}(h:Mu.le μ μ'){k:Nat}{x:Nat × Nat}(hx:rA μ k=some x):rA μ' k=some x:=by
 unfold rA at hx |-;cases hk:μ k with
 | none=>rw[hk]at hx;cases hx
 | some m=>rw[h _ _ hk];rw[hk]at hx;exact hx
theorem aZ1 {μ μ':Mu}(h:Mu.le μ μ'){k:Nat}{x:Option (Nat × Nat)}(hx:atS μ k=some x):atS μ' k=some x:=by
 unfold atS at hx |-;cases hk:μ k with
 | none=>rw[hk]at hx;cases hx
 | some m=>rw[h _ _ hk];rw[hk]at hx;exact hx
theorem aNy {μ μ':Mu}(h:Mu.vle μ μ'){k:Nat}{x:Nat × Nat}(hx:rA μ k=some x):rA μ' k=some x:=by
 unfold rA at hx |-;cases hk:μ k with
 | none=>rw[hk]at hx;cases hx
 | some m=>
  rw[hk]at hx;rcases h _ _ hk with h | ⟨b,rfl,h⟩<;>rw[h]
  ·exact hx
  ·exact hx
theorem aWe {μ μ':Mu}(h:Mu.vle μ μ'){k:Nat}{x:Option (Nat × Nat)}(hx:atS μ k=some x):atS μ' k=some x:=by
 unfold atS at hx |-;cases hk:μ k with
 | none=>rw[hk]at hx;cases hx
 | some m=>
  rw[hk]at hx;rcases h _ _ hk with h | ⟨b,rfl,h⟩<;>rw[h]
  ·exact hx
  ·exact hx
theorem aWd {μ:Mu}{k b o:Nat}(h:atS μ k=some (some (b,o))):rA μ k=some (b,o):=by
 unfold atS at h;unfold rA;cases hk:μ k with
 | none=>rw[hk]at h;cases h
 | some m=>rw[hk]at h;cases m<;>simp_all [MV.at,MV.atS]
theorem aGt {μ:Mu}{k b o:Nat}(h:rA μ k=some (b,o)):atS μ k=some (some (b,o)):=by
 unfold rA at h;unfold atS;cases hk:μ k with
 | none=>rw[hk]at h;cases h
 | some m=>rw[hk]at h;cases m<;>simp_all [MV.at,MV.atS]
theorem rB {μ:Mu}{k b:Nat}(h:μ k=some (.own b)):rA μ k=some (b,0):=by simp[rA,h,MV.at]
theorem Mu.upd_same (μ:Mu)(k:Nat)(b:MV):μ.upd k b k=some b:=by simp[Mu.upd]
mutual
theorem iN {μ μ':Mu}(h:Mu.le μ μ'):∀(a:AV) (v:Value),aD μ a=some v->aD μ' a=some v
 | .i k e,v,hv=>by simpa[aD]using hv
 | .b e,v,hv=>by simpa[aD]using hv
 | .s s,v,hv=>by simpa[aD]using hv
 | .p k off,v,hv=>by
  simp only[aD]at hv |-;split at hv
  ·rename_i b o hb;rw[aRm h hb];exact hv
  ·cases hv
 | .pe k off i sz inner,v,hv=>by
  simp only[aD]at hv |-;split at hv
  ·rename_i b o hb;rw[aRm h hb];exact hv
  ·cases hv
 | .sl k off len cap,v,hv=>by
  simp only[aD]at hv |-;split at hv
  ·rename_i a hb;rw[aZ1 h hb];exact hv
  ·cases hv
 | .xs a len cap,v,hv=>by simpa[aD]using hv
 | .e k,v,hv=>by
  simp only[aD]at hv |-;split at hv
  ·rename_i x hb;rw[h _ _ hb];exact hv
  ·cases hv
 | .g l,v,hv=>by
  simp only[aD]at hv |-;split at hv
  ·rename_i vs hvs;rw[gV h l _ hvs];exact hv
  ·cases hv
 | .t l,v,hv=>by
  simp only[aD]at hv |-;split at hv
  ·rename_i vs hvs;rw[gV h l _ hvs];exact hv
  ·cases hv
 | .f fn fs l,v,hv=>by
  simp only[aD]at hv |-;split at hv
  ·rename_i us vs hus hvs;rw[gV h fs _ hus,gV h l _ hvs];exact hv
  ·cases hv
 | .o x,v,hv=>by simpa[aD]using hv
 | .q x,v,hv=>by simpa[aD]using hv
 | .ec k j,v,hv=>by
  simp only[aD]at hv |-;split at hv
  ·rename_i x hb;rw[h _ _ hb];exact hv
  ·cases hv
theorem gV {μ μ':Mu}(h:Mu.le μ μ'):∀(l:List AV) (vs:List Value),aF μ l=some vs->aF μ' l=some vs
 | [],vs,hv=>by simpa[aF]using hv
 | a::l,vs,hv=>by
  simp only[aF]at hv |-;split at hv
  ·rename_i v ws hv1 hv2;rw[iN h a _ hv1,gV h l _ hv2];exact hv
  ·cases hv
end
mutual
theorem aJl {μ μ':Mu}(h:Mu.vle μ μ'):∀(a:AV) (v:Value),aD μ a=some v->aD μ' a=some v
 | .i k e,v,hv=>by simpa[aD]using hv
 | .b e,v,hv=>by simpa[aD]using hv
 | .s s,v,hv=>by simpa[aD]using hv
 | .p k off,v,hv=>by
  simp only[aD]at hv |-;split at hv
  ·rename_i b o hb;rw[aNy h hb];exact hv
  ·cases hv
 | .pe k off i sz inner,v,hv=>by
  simp only[aD]at hv |-;split at hv
  ·rename_i b o hb;rw[aNy h hb];exact hv
  ·cases hv
 | .sl k off len cap,v,hv=>by
  simp only[aD]at hv |-;split at hv
  ·rename_i a hb;rw[aWe h hb];exact hv
  ·cases hv
 | .xs a len cap,v,hv=>by simpa[aD]using hv
 | .e k,v,hv=>by
  simp only[aD]at hv |-;split at hv
  ·rename_i x hb;rw[h.fx _ _ rfl hb];exact hv
  ·cases hv
 | .g l,v,hv=>by
  simp only[aD]at hv |-;split at hv
  ·rename_i vs hvs;rw[nV h l _ hvs];exact hv
  ·cases hv
 | .t l,v,hv=>by
  simp only[aD]at hv |-;split at hv
  ·rename_i vs hvs;rw[nV h l _ hvs];exact hv
  ·cases hv
 | .f fn fs l,v,hv=>by
  simp only[aD]at hv |-;split at hv
  ·rename_i us vs hus hvs;rw[nV h fs _ hus,nV h l _ hvs];exact hv
  ·cases hv
 | .o x,v,hv=>by simpa[aD]using hv
 | .q x,v,hv=>by simpa[aD]using hv
 | .ec k j,v,hv=>by
  simp only[aD]at hv |-;split at hv
  ·rename_i x hb;rw[h.fx _ _ rfl hb];exact hv
  ·cases hv
theorem nV {μ μ':Mu}(h:Mu.vle μ μ'):∀(l:List AV) (vs:List Value),aF μ l=some vs->aF μ' l=some vs
 | [],vs,hv=>by simpa[aF]using hv
 | a::l,vs,hv=>by
  simp only[aF]at hv |-;split at hv
  ·rename_i v ws hv1 hv2;rw[aJl h a _ hv1,nV h l _ hv2];exact hv
  ·cases hv
end
theorem fE {μ:Mu}{a:AV}{v:Value}(h:aD hJ a=some v):aD μ a=some v:=iN (λ_ _ h=>by cases h) a v h
theorem cW {μ:Mu}{l:List AV}{vs:List Value}(h:aF hJ l=some vs):aF μ l=some vs:=gV (λ_ _ h=>by cases h) l vs h
theorem aP1 {v u:Value}{j:Nat}(h:cellV v j=some u):u.oneCell'=true:=by
 unfold cellV at h;split at h
 ·split at h
  ·rename_i h1;injection h with h;subst h;exact h1
  ·cases h
 ·cases h
theorem AV.one_spec {μ:Mu}{a:AV}{v:Value}(h1:a.one=true)(h:aD μ a=some v):v.oneCell'=true:=by
 cases a with
 | g l=>cases h1
 | t l=>cases h1
 | q x=>cases h1
 | o x=>
  simp only[aD]at h;split at h
  ·rename_i hx;injection h with h;subst h;exact hx
  ·cases h
 | p k off=>simp only[aD]at h;split at h<;>first | (injection h with h;subst h;rfl) | cases h
 | e k=>cases h1
 | ec k j=>
  simp only[aD]at h;split at h
  ·exact aP1 h
  ·cases h
 | pe k off i sz inner=>simp only[aD]at h;split at h<;>first | (injection h with h;subst h;rfl) | cases h
 | sl k off len cap=>
  simp only[aD]at h;split at h
  ·split at h<;>first | (injection h with h;subst h;rfl) | cases h
  ·cases h
 | f fn l=>simp only[aD]at h;split at h<;>first | (injection h with h;subst h;rfl) | cases h
 | i k e=>simp only[aD]at h;injection h with h;subst h;rfl
 | b e=>simp only[aD]at h;injection h with h;subst h;rfl
 | s s=>simp only[aD]at h;injection h with h;subst h;rfl
 | xs a len cap=>simp only[aD]at h;injection h with h;subst h;rfl
theorem cells_one {v:Value}(h:v.oneCell'=true):v.cells=#[v]:=by
 cases v<;>first | rfl | cases h
theorem bC {μ:Mu}:∀{l:List AV} {vs:List Value},aF μ l=some vs->vs.length=l.length
 | [],vs,h=>by simp[aF]at h;subst h;rfl
 | a::l,vs,h=>by
  simp only[aF]at h;split at h
  ·rename_i v ws h1 h2;injection h with h;subst h;simp[bC h2]
  ·cases h
theorem iF {μ:Mu}:∀{l:List AV} {vs:List Value},aF μ l=some vs->∀(j:Nat) (a:AV),l[j]?=some a->∃v,vs[j]?=some v/\aD μ a=some v
 | [],vs,h,j,a,hj=>by simp at hj
 | x::l,vs,h,j,a,hj=>by
  simp only[aF]at h;split at h
  ·rename_i v ws h1 h2;injection h with h;subst h
   cases j with
   | zero=>simp at hj;subst hj;exact⟨v,rfl,h1⟩
   | succ j=>simp at hj |-;exact iF h2 j a hj
  ·cases h
theorem lB {μ:Mu}:∀{l m:List AV} {vs ws:List Value},aF μ l=some vs->aF μ m=some ws->aF μ (l++m)=some (vs++ws)
 | [],m,vs,ws,h,h'=>by simp[aF]at h;subst h;simpa using h'
 | a::l,m,vs,ws,h,h'=>by
  simp only[aF]at h;split at h
  ·rename_i v us h1 h2;injection h with h;subst h;simp only[List.cons_append,aF,h1,lB h2 h']
  ·cases h
theorem rH {μ:Mu}:∀{l:List AV} {vs:List Value} (n:Nat),aF μ l=some vs->aF μ (l.take n)=some (vs.take n)
 | [],vs,n,h=>by simp[aF]at h;subst h;simp[aF]
 | a::l,vs,0,h=>by simp[aF]
 | a::l,vs,n+1,h=>by
  simp only[aF]at h;split at h
  ·rename_i v ws h1 h2;injection h with h;subst h;simp only[List.take_succ_cons,aF,h1,rH n h2]
  ·cases h
theorem rG {μ:Mu}:∀{l:List AV} {vs:List Value} (n:Nat),aF μ l=some vs->aF μ (l.drop n)=some (vs.drop n)
 | [],vs,n,h=>by simp[aF]at h;subst h;simp[aF]
 | a::l,vs,0,h=>by simpa using h
 | a::l,vs,n+1,h=>by
  simp only[aF]at h;split at h
  ·rename_i v ws h1 h2;injection h with h;subst h;simp only[List.drop_succ_cons];exact rG n h2
  ·cases h
structure VF where
 p:Value->(Nat->Prop)->World->Prop
 st:∀v X X' w w',(∀k,X k->X' k)->(∀k,X k->w'.heap[k]?=w.heap[k]?)->p v X w->p v X' w'
inductive CF
 | s (e:SE) | b (e:BE) | i (k:IntKind) (e:IE) | x (R:VF)
def CF.ok:CF->Value->(Nat->Prop)->World->Prop
 | .s e,v,_,_=>v=.string e.den
 | .b e,v,_,_=>v=.bool e.den
 | .i k e,v,_,_=>v=.int k e.den
 | .x R,v,X,w=>v.oneCell'=true/\R.p v X w
theorem CF.ok_st {c:CF}{v:Value}{X X':Nat->Prop}{w w':World}(hs:∀k,X k->X' k)(hw:∀k,X k->w'.heap[k]?=w.heap[k]?)(h:c.ok v X w):c.ok v X' w':=by
 cases c with
 | x R=>exact⟨h.1,R.st v X X' w w' hs hw h.2⟩
 | _=>exact h
theorem CF.ok_one {c:CF}{v:Value}{X:Nat->Prop}{w:World}(h:c.ok v X w):v.oneCell'=true:=by
 cases c with
 | x R=>exact h.1
 | s e=>have h:v=_:=h;subst h;rfl
 | b e=>have h:v=_:=h;subst h;rfl
 | i k e=>have h:v=_:=h;subst h;rfl
inductive Blk
 | c (ty:Nat) (cells:List AV)
 | r (ty:Nat) (k:IntKind) (l:List Int)
 | w (ty:Nat) (k:IntKind) (l:List Int)
 | xi (k:IntKind) (n:Nat) (f:Nat->Int)
 | xs (n:Nat) (f:Nat->ByteArray)
 | e
 | xr (n:Nat) (F:Nat->CF)
 | d (ty:Nat) (n:Nat)
def Blk.ok (X:Nat->Prop)(μ:Mu)(w:World):Blk->MV->Prop
 | .c ty cells,.own b=>∃vs,aF μ cells=some vs/\w.heap[b]?=some (.cells vs.toArray ty (0,0))
 | .r ty k l,.own b=>w.heap[b]?=some (.cells (l.map (Value.int k)).toArray ty (0,0))
 | .w ty k l,.own b=>∃rest:List Value,w.heap[b]?=some (.cells (l.map (Value.int k)++rest).toArray ty (0,0))
 | .xi _ n _,.ext none=>n=0
 | .xs n _,.ext none=>n=0
 | .xi k n f,.ext (some (b,o))=>X b/\∃cs,∃ty:Nat × Nat × Nat,w.heap[b]?=some (.cells cs ty.1 ty.2)/\∀i,i<n->cs[o+i]?=some (.int k (f i))
 | .xs n f,.ext (some (b,o))=>X b/\∃cs,∃ty:Nat × Nat × Nat,w.heap[b]?=some (.cells cs ty.1 ty.2)/\∀i,i<n->cs[o+i]?=some (.string (f i))
 | .e,.val _=>True
 | .xr n _,.ext none=>n=0
 | .xr n F,.ext (some (b,o))=>X b/\∃cs,∃ty:Nat × Nat × Nat,w.heap[b]?=some (.cells cs ty.1 ty.2)/\∀i,i<n->∃v,cs[o+i]?=some v/\(F i).ok v X w
 | .d ty n,.own b=>∃vs:List Value,vs.length=n/\w.heap[b]?=some (.cells vs.toArray ty (0,0))
 | _,_=>False
theorem Blk.ok_keep {X X':Nat->Prop}{μ μ':Mu}{w w':World}(h:Mu.le μ μ')(hs:∀b,X b->X' b)(hx:∀b,X b->w'.heap[b]?=w.heap[b]?){blk:Blk}{m:MV}(ho:∀b,m=.own b->w'.heap[b]?=w.heap[b]?)(hb:blk.ok X μ w m):blk.ok X' μ' w' m:=by
 match blk,m,hb with
 | .c ..,.own b,hb=>obtain⟨vs,h1,h2⟩:=hb;exact⟨vs,gV h _ _ h1,by rw[ho _ rfl];exact h2⟩
 | .r ..,.own b,hb=>show _=_;rw[ho _ rfl];exact hb
 | .w ..,.own b,hb=>obtain⟨rest,h1⟩:=hb;exact⟨rest,by rw[ho _ rfl];exact h1⟩
 | .xi ..,.ext none,hb=>exact hb
 | .xs ..,.ext none,hb=>exact hb
 | .xi ..,.ext (some (b,o)),hb=>obtain⟨h1,cs,ty,h2,h3⟩:=hb;exact⟨hs _ h1,cs,ty,by rw[hx _ h1];exact h2,h3⟩
 | .xs ..,.ext (some (b,o)),hb=>obtain⟨h1,cs,ty,h2,h3⟩:=hb;exact⟨hs _ h1,cs,ty,by rw[hx _ h1];exact h2,h3⟩
 | .e,.val _,_=>trivial
 | .d ..,.own b,hb=>obtain⟨vs,h1,h2⟩:=hb;exact⟨vs,h1,by rw[ho _ rfl];exact h2⟩
 | .xr ..,.ext none,hb=>exact hb
 | .xr ..,.ext (some (b,o)),hb=>
  obtain⟨h1,cs,ty,h2,h3⟩:=hb;exact⟨hs _ h1,cs,ty,by rw[hx _ h1];exact h2,λi hi=>by obtain⟨v,q1,q2⟩:=h3 i hi;exact⟨v,q1,CF.ok_st hs hx q2⟩⟩
structure OF where
 F:Mu->Nat->Prop
 p:Mu->World->Prop
 st:∀μ μ' w w',Mu.vle μ μ'->(∀k,F μ k->w'.heap[k]?=w.heap[k]?)->p μ w->p μ' w'/\∀k,F μ' k↔F μ k
structure St where
 sl:List (Nat × AV)
 hp:List Blk
 ow:List OF
def look:List (Nat × AV)->Nat->Option AV
 | [],_=>none
 | (j,a)::l,t=>if j==t then some a else look l t
structure KF where
 p:(Nat->Prop)->Mu->World->Prop
 st:∀X X' μ μ' w w',(∀k,X k->X' k)->Mu.vle μ μ'->(∀k,X k->w'.heap[k]?=w.heap[k]?)->p X μ w->p X' μ' w'
inductive TK
 | struct (flds:List (Nat × Nat)) | array (len elem gW:Nat) | slice (elem gW:Nat)
 | int (k:IntKind) | str | bool | other
structure TyI where
 size:Nat
 kind:TK
 zero:List AV
 key:Option (List LK):=none
def TK.agg:TK->Bool
 | .struct _ | .array ..=>true
 | _=>false
inductive TT
 | e | nd (l:TT) (x:Option TyI) (r:TT)
def TT.get:TT->Nat->Nat->Option TyI
 | .e,_,_=>none
 | .nd _ _ _,0,_=>none
 | .nd l x r,f+1,n=>if n==0 then x else if n%2==1 then l.get f (n/2)else r.get f (n/2 - 1)
structure TyOk (P:Program)(t:TypeId)(i:TyI):Prop where
 info:∃ti z,P.info? t=some ti/\ti.size=i.size/\ti.zero=some z/\aF hJ i.zero=some z.cells.toList/\(i.kind.agg=true->z=.agg z.cells)/\(i.kind.agg=false->z.oneCell'=true)
 und:match i.kind with
  | .struct fl=>∃fs,P.underlying t=some (.struct fs)/\fs.toList.mapM (λf=>(P.info? f.type).map λi=>(f.offset,i.size))=some fl
  | .array len elem gW=>P.underlying t=some (.array len elem)/\∃ti,P.info? elem=some ti/\ti.size=gW
  | .slice elem gW=>P.underlying t=some (.slice elem)/\∃ti,P.info? elem=some ti/\ti.size=gW
  | .int k=>P.underlying t=some (.int k)
  | .str=>P.underlying t=some .string
  | .bool=>P.underlying t=some .bool
  | .other=>∃d,P.underlying t=some d/\(∀fs,d≠.struct fs)/\(∀n e,d≠.array n e)
 keyOk:∀ls,i.key=some ls->leaves P 12 t=some ls/\P.eqGuardType P.depth t=false/\∃fs,P.underlying t=some (.struct fs)
theorem var_below {P:Program}{n:String}{cs:Array Value}{w w':World}(h:w.var? P n=some cs)(hb:Below w.heap.size w w'):w'.var? P n=some cs:=by
 unfold World.var? at h |-;cases hg:P.globalNamed n with
 | none=>rw[hg]at h;cases h
 | some g=>
  rw[hg]at h;simp only[Option.bind_some]at h |-;have hlt:g<w.heap.size:=by
   rcases Nat.lt_or_ge g w.heap.size with h' | h'
   ·exact h'
   ·rw[Array.getElem?_eq_none h']at h;cases h
  rw[hb.block g hlt];exact h
structure Glob (P:Program)(w:World):Prop where
 maxLen:∃m,w.var? P "internal/bytealg.MaxLen"=some #[.int .i64 m]
 pow10:Lib.TabIs P w "internal/strconv.uint64pow10" .u64 Lib.pow10Tab
theorem Glob.below {P:Program}{w w':World}(h:Glob P w)(hb:Below w.heap.size w w'):Glob P w':=
 ⟨by obtain⟨m,hm⟩:=h.maxLen;exact⟨m,var_below hm hb⟩,var_below h.pow10 hb⟩
structure Cx where
 P:Program
 ty:Nat->Option TyI
 tok:∀t i,ty t=some i->TyOk P t i
 nt:Nat
 B:World
 X0:Nat->Prop
 gB:Glob P B
 R:Act->World->Prop
 rd:Option Nat
 df:List Deferred
def Cx.F (c:Cx):Fence:={fn:=λ_=>True,depth:=none,alive:=false,round:=c.rd}
structure OwnOk (B:World)(ow:List OF)(X:Nat->Prop)(μ:Mu)(w:World):Prop where
 at_:∀f,f∈ow->f.p μ w/\∀b,f.F μ b->B.heap.size<=b/\b<w.heap.size/\¬X b/\∀k,μ k≠some (.own b)
 apart:ow.Pairwise λf g=>∀b,f.F μ b->¬g.F μ b
theorem OwnOk.nil (B:World)(X:Nat->Prop)(μ:Mu)(w:World):OwnOk B [] X μ w:=⟨(λf hf=>by cases hf),List.Pairwise.nil⟩
structure PSim (c:Cx)(K:List KF)(n0:Nat)(D:Nat->Prop)(S:St)(X:Nat->Prop)(μ:Mu)(a:Act)(w:World):Prop where
 dfr:a.defers=c.df
 size:a.tmps.size=c.nt
 slots:∀t av,D t->look S.sl t=some av->∃v,aD μ av=some v/\a.tmps[t]?=some v
 heap:∀k blk m,S.hp[k]?=some blk->μ k=some m->blk.ok X μ w m
 all:∀k,k<n0->∃m,μ k=some m
 inj:∀k k' b,μ k=some (.own b)->μ k'=some (.own b)->k=k'
 loc:∀k b,μ k=some (.own b)->c.B.heap.size<=b/\¬X b/\b<w.heap.size
 xlt:∀b,X b->b<w.heap.size
 xnew:∀b,X b->c.X0 b\/c.B.heap.size<=b
 xold:∀b,c.X0 b->X b
 bel:Below c.B.heap.size c.B w
 kf:∀f,f∈K->f.p X μ w
 own:OwnOk c.B S.ow X μ w
theorem PSim.glob {c:Cx}{K:List KF}{n0:Nat}{D:Nat->Prop}{S:St}{X:Nat->Prop}{μ:Mu}{a:Act}{w:World}(H:PSim c K n0 D S X μ a w):Glob c.P w:=c.gB.below H.bel
theorem bK (d:Nat)(a:AV)(l:List (Nat × AV)):look ((d,a)::l) d=some a:=by simp[look]
theorem bE {d t:Nat}(h:d≠t)(a:AV)(l:List (Nat × AV)):look ((d,a)::l) t=look l t:=by
 simp[look,h]
end Go.Ai
namespace Go.Ai
open Go Go.RowKit
inductive Obl
 | inR (k:IntKind) (e:IE)
 | lt (i:IE) (n:Nat)
 | nz (e:IE)
 | le (x y:Nat)
 | ltE (i n:IE)
 | leE (i:IE) (n:Nat)
 | ix (off:Nat) (i:IE) (sz inner size n:Nat)
 | ixL (off:Nat) (i:IE) (sz inner:Nat) (l:List Int)
 | slc (lo hi:IE) (s:SE)
 | cat (a b:SE)
def lo:IntKind->Int
 | .i8=>-128 | .i16=>-32768 | .i32=>-2147483648 | .i64=>-9223372036854775808
 | .u8=>0 | .u16=>0 | .u32=>0 | .u64=>0
def hi:IntKind->Int
 | .i8=>127 | .i16=>32767 | .i32=>2147483647 | .i64=>9223372036854775807
 | .u8=>255 | .u16=>65535 | .u32=>4294967295 | .u64=>18446744073709551615
theorem zX{p:Prop}(h:p:=by simp only[lo,hi];omega):p:=h
def Obl.ok:Obl->Prop
 | .inR k e=>lo k<=e.den/\e.den<=hi k
 | .lt i n=>0<=i.den/\i.den<n
 | .nz e=>e.den≠0
 | .le x y=>x<=y
 | .ltE i n=>0<=i.den/\i.den<n.den
 | .leE i n=>0<=i.den/\i.den<=(n:Int)
 | .ix off i sz inner size n=>aY off i.den sz inner+size<=n
 | .ixL off i sz inner xs=>aY off i.den sz inner<xs.length
 | .slc lo hi s=>0<=lo.den/\lo.den<=hi.den/\hi.den<=(s.den.size:Int)
 | .cat a b=>((a.den.size+b.den.size:Nat):Int)<=9223372036854775807
def iA:List Obl->Prop
 | []=>True
 | o::l=>o.ok/\iA l
theorem rW:∀{l m:List Obl},iA (l++m)↔iA l/\iA m
 | [],m=>by simp[iA]
 | o::l,m=>by simp[iA,rW (l:=l),and_assoc]
theorem aIi (k:IntKind)(x:Int)(h:lo k<=x/\x<=hi k):k.wrap x=x:=by
 cases k<;>simp only[lo,hi]at h<;>simp only[IntKind.wrap,IntKind.bits,IntKind.signed]<;>simp<;>omega
def sH (k:IntKind):IE->List Obl
 | .l n=>if lo k<=n/\n<=hi k then []else [.inR k (.l n)]
 | e=>[.inR k e]
theorem qQ {k:IntKind}{e:IE}(h:iA (sH k e)):k.wrap e.den=e.den:=by
 unfold sH at h;split at h
 ·split at h
  ·rename_i hn;exact aIi _ _ hn
  ·exact aIi _ _ h.1
 ·exact aIi _ _ h.1
def yE:Value->AV
 | .int k n=>.i k (.l n)
 | .bool b=>.b (.l b)
 | .string s=>.s (.v s)
 | .slice a len cap=>.xs a len cap
 | .agg cs=>.q (.agg cs)
 | .tuple vs=>.q (.tuple vs)
 | v=>.o v
theorem aDu (μ:Mu)(v:Value):aD μ (yE v)=some v:=by
 cases v<;>simp[yE,aD,IE.den,SE.den,BE.den,Value.oneCell']
def fW (S:List (Nat × AV)):Operand->Option AV
 | .tmp t=>look S t
 | .const v=>some (yE v)
 | .func f=>some (.f (.func f) [] [])
 | .global _=>none
def aKj (S:List (Nat × AV)):List Operand->Option (List AV)
 | []=>some []
 | x::l=>match fW S x,aKj S l with | some a,some zas=>some (a::zas) | _,_=>none
def aQm (S:List (Nat × AV)):List (Nat × Operand)->Option (List (Nat × AV))
 | []=>some []
 | (i,x)::l=>match fW S x,aQm S l with | some a,some zas=>some ((i,a)::zas) | _,_=>none
def cellsOf:AV->Option (List AV)
 | .g l=>some l
 | .t _=>none
 | .q _=>none
 | .e _=>none
 | a=>some [a]
def pL (cells:List AV)(off:Nat)(l:List AV):List AV:=cells.take off++l++cells.drop (off+l.length)
def aDb (place:Nat->Option (Nat × Nat))(cells:List AV):List (Nat × AV)->Option (List AV)
 | []=>some cells
 | (i,a)::rest=>match place i,cellsOf a with
  | some (off,size),some l=>if l.length=size/\off+l.length<=cells.length then aDb place (pL cells off l) rest else none
  | _,_=>none
structure Rs where
 av:AV
 nb:Option Blk
 ob:List Obl
def eA (a:AV):Option Rs:=some ⟨a,none,[]⟩
def partOf (agg:Bool)(size:Nat)(cells:List AV)(off:Nat):Option AV:=
 if agg then(if off+size<=cells.length then some (.g ((cells.drop off).take size))else none)
 else match cells[off]? with | some a=>if a.one then some a else none | none=>none
def aPb (agg:Bool)(size:Nat)(b:Blk)(off:Nat)(ix:IE)(sz inner:Nat):Option Rs:=
 match b with
 | .r _ k l=>if agg then none else some ⟨.i k (.nth l off ix sz inner),none,[.ixL off ix sz inner l]⟩
 | .w _ k l=>if agg then none else some ⟨.i k (.nth l off ix sz inner),none,[.ixL off ix sz inner l]⟩
 | .xi k n f=>if agg then none else some ⟨.i k (.fn f off ix sz inner),none,[.ix off ix sz inner 1 n]⟩
 | .xs n f=>if agg then some ⟨.g ((List.range size).map λj=>.s (.fn f off ix sz (inner+j))),none,[.ix off ix sz inner size n]⟩else some ⟨.s (.fn f off ix sz inner),none,[.ix off ix sz inner 1 n]⟩
 | _=>none
def aLq (op:BinOp):AV->AV->Option Rs
 | .i k x,.i k' y=>
  if k=k' then match op with
   | .add=>some ⟨.i k (.mkAdd x y),none,sH k (.mkAdd x y)⟩
   | .sub=>some ⟨.i k (.mkSub x y),none,sH k (.mkSub x y)⟩
   | .mul=>some ⟨.i k (.mkMul x y),none,sH k (.mkMul x y)⟩
   | .quo=>some ⟨.i k (.mkQuo x y),none,.nz y::sH k (.mkQuo x y)⟩
   | .rem=>some ⟨.i k (.mkRem x y),none,[.nz y]⟩
   | .lss=>eA (.b (.mkLt x y))
   | .leq=>eA (.b (.mkLe x y))
   | .gtr=>eA (.b (.mkLt y x))
   | .geq=>eA (.b (.mkLe y x))
   | .eql=>eA (.b (.mkEq x y))
   | .neq=>eA (.b (.mkNot (.mkEq x y)))
   | _=>none
  else none
 | .s a,.s b=>match op with
  | .eql=>eA (.b (.seq a b))
  | .neq=>eA (.b (.mkNot (.seq a b)))
  | .add=>some ⟨.s (.cat a b),none,[.cat a b]⟩
  | _=>none
 | _,_=>none
def aG9:AV->Option (List AV)
 | .g l=>some l
 | .q (.agg vs)=>some (vs.toList.map yE)
 | _=>none
def vG:AV->Option LK
 | .i k _=>some (.i k)
 | .b _=>some .b
 | .s _=>some .s
 | _=>none
def oL:List AV->Option (List LK)
 | []=>some []
 | a::l=>match vG a,oL l with | some k,some ks=>some (k::ks) | _,_=>none
def eq1:AV->AV->BE
 | .i _ x,.i _ y=>.mkEq x y
 | .b x,.b y=>.beq x y
 | .s x,.s y=>.seq x y
 | _,_=>.l false
def aC5:List AV->List AV->BE
 | a::l,b::m=>.mkAnd (eq1 a b) (aC5 l m)
 | _,_=>.l true
def eqB (op:BinOp):AV->AV->Option Rs
 | .b x,.b y=>match op with
  | .eql=>eA (.b (.beq x y))
  | .neq=>eA (.b (.mkNot (.beq x y)))
  | _=>none
 | _,_=>none
def eqG (ty : Nat -> Option TyI) (op : BinOp) (t : Nat) (a b : AV) : Option Rs :=
  match ty t with
  | some i => match i.kind with
   | .bool => eqB op a b
   | _ => match i.key, aG9 a, aG9 b with
    | some ls, some l, some m => if oL l = some ls /\ oL m = some ls then (match op with
      | .eql => eA (.b (aC5 l m))
      | .neq => eA (.b (.mkNot (aC5 l m)))
      | _ => none) else none
    | _, _, _ => none
  | none => none
def ixS (k off gW:Nat):IE->IE->Option Rs
 | .l m,.l n=>if 0<=n/\n<m then eA (.p k (off+n.toNat*gW))else none
 | len,.l n=>some ⟨.p k (off+n.toNat*gW),none,[.ltE (.l n) len]⟩
 | len,e=>some ⟨.pe k off e gW 0,none,[.ltE e len]⟩
def fop (ty:Nat->Option TyI)(n0:Nat)(S:St)(op:Op):Option Rs:=
 match op with
 | .move x | .assign x=>match fW S.sl x with | some a=>eA a | none=>none
 | .pick c x y=>match fW S.sl c,fW S.sl x,fW S.sl y with
  | some (.b (.l t)),some a,some b=>eA (if t then a else b)
  | _,_,_=>none
 | .alloc e=>match ty e with | some i=>some ⟨.p S.hp.length 0,some (.c e i.zero),[]⟩ | none=>none
 | .box e x=>match fW S.sl x with
  | some a=>match cellsOf a with | some l=>some ⟨.p S.hp.length 0,some (.c e l),[]⟩ | none=>none
  | none=>none
 | .load t x=>match ty t,fW S.sl x with
  | some i,some (.p k off)=>
   if k<n0 then match S.hp[k]? with
    | some (.c _ cells)=>match partOf i.kind.agg i.size cells off with | some a=>eA a | none=>none
    | some b=>aPb i.kind.agg i.size b off (.l 0) 0 0
    | _=>none
   else none
  | some i,some (.pe k off ix sz inner)=>
   if k<n0 then match S.hp[k]? with
    | some b=>aPb i.kind.agg i.size b off ix sz inner
    | _=>none
   else none
  | _,_=>none
 | .build t parts=>match ty t,aQm S.sl parts.toList with
  | some i,some ps=>match i.kind with
   | .struct fl=>match aDb (λj=>fl[j]?) i.zero ps with | some cs=>eA (.g cs) | none=>none
   | .array _ _ gW=>match aDb (λj=>some (j*gW,gW)) i.zero ps with | some cs=>eA (.g cs) | none=>none
   | _=>none
  | _,_=>none
 | .fieldAddr t x f=>match ty t,fW S.sl x with
  | some i,some (.p k off)=>match i.kind with
   | .struct fl=>match fl[f]? with | some (o,sz)=>if sz=0 then none else eA (.p k (off+o)) | none=>none
   | _=>none
  | some i,some (.pe k off ix sz inner)=>match i.kind with
   | .struct fl=>match fl[f]? with | some (o,s)=>if s=0 then none else eA (.pe k off ix sz (inner+o)) | none=>none
   | _=>none
  | _,_=>none
 | .indexAddr t x ix=>match ty t,fW S.sl x,fW S.sl ix with
  | some i,some (.p k off),some (.i _ (.l n))=>match i.kind with
   | .array len _ gW=>if 0<=n/\n<(len:Int)then eA (.p k (off+n.toNat*gW))else none
   | _=>none
  | some i,some (.pe k off jx sz inner),some (.i _ (.l n))=>match i.kind with
   | .array len _ gW=>if 0<=n/\n<(len:Int)then eA (.pe k off jx sz (inner+n.toNat*gW))else none
   | _=>none
  | some i,some (.sl k off len _),some (.i _ e)=>match i.kind with
   | .slice _ gW=>ixS k off gW len e
   | _=>none
  | _,_,_=>none
 | .index t x ix=>match ty t,fW S.sl x,fW S.sl ix with
  | some i,some (.s s),some (.i _ e)=>match i.kind with
   | .str=>some ⟨.i .u8 (.byte s e),none,[.ltE e (.len s)]⟩
   | _=>none
  | some i,some (.g l),some (.i _ (.l n))=>match i.kind with
   | .array len elem gW=>match ty elem with
    | some j=>if 0<=n/\n<(len:Int)/\j.size=gW then(match partOf j.kind.agg gW l (n.toNat*gW)with | some a=>eA a | none=>none)else none
    | none=>none
   | _=>none
  | _,_,_=>none
 | .extract x ix=>match fW S.sl x with
  | some (.t l)=>match l[ix]? with | some a=>eA a | none=>none
  | _=>none
 | .binOp op t x y _=>match fW S.sl x,fW S.sl y with
  | some a,some b=>match aLq op a b with
   | some r=>some r
   | none=>eqG ty op t a b
  | _,_=>none
 | .unOp .not _ x=>match fW S.sl x with | some (.b e)=>eA (.b (.mkNot e)) | _=>none
 | .makeFunc fn first cap=>match aKj S.sl first.toList,aKj S.sl cap.toList with
  | some fs,some l=>eA (.f fn fs l)
  | _,_=>none
 | .buildSlice t len parts=>match ty t,aQm S.sl parts.toList with
  | some i,some ps=>match i.kind with
   | .slice e gW=>match ty e with
    | some j=>if len*gW<=1048576/\j.size=gW/\(gW=0\/j.zero.length=gW)then
      match aDb (λm=>some (m*gW,gW)) ((List.range (len*gW)).map λm=>j.zero.getD (m%j.zero.length) (.o .nilFunc)) ps with
      | some cs=>some ⟨.sl S.hp.length 0 (.l len) len,some (.c e cs),[]⟩
      | none=>none
     else none
    | none=>none
   | _=>none
  | _,_=>none
 | .convert src dst x=>match ty src,ty dst,fW S.sl x with
  | some _,some i,some (.i _ e)=>match i.kind with | .int k=>some ⟨.i k e,none,sH k e⟩ | _=>none
  | some _,some i,some (.s s)=>match i.kind with | .str=>eA (.s s) | _=>none
  | _,_,_=>none
 | .nilCheck x=>match fW S.sl x with
  | some (.p k off)=>eA (.p k off)
  | some (.f (.func g) fs l)=>eA (.f (.func g) fs l)
  | _=>none
 | .slice t x none none none=>match ty t,fW S.sl x with
  | some i,some (.p k off)=>match i.kind with | .array len _ _=>eA (.sl k off (.l len) len) | _=>none
  | _,_=>none
 | .call {callee:=.builtin .len,args,argTypes}=>match args.toList,argTypes.toList with
  | [x],[t]=>match ty t,fW S.sl x with
   | some i,some (.s s)=>match i.kind with | .str=>eA (.i .i64 (.len s)) | _=>none
   | some i,some (.xs _ len _)=>match i.kind with | .slice _ _=>eA (.i .i64 (.n len)) | _=>none
   | some i,some (.sl _ _ len _)=>match i.kind with | .slice _ _=>eA (.i .i64 len) | _=>none
   | _,_=>none
  | _,_=>none
 | .call {callee:=.builtin .max,args,..}=>match args.toList with
  | [x,y]=>match fW S.sl x,fW S.sl y with
   | some (.i k a),some (.i _ b)=>eA (.i k (.mkMax a b))
   | _,_=>none
  | _=>none
 | .unOp .neg _ x=>match fW S.sl x with | some (.i k e)=>some ⟨.i k (.mkSub (.l 0) e),none,sH k (.mkSub (.l 0) e)⟩ | _=>none
 | .slice t x (some y) none none=>match ty t,fW S.sl x,fW S.sl y with
  | some i,some (.s s),some (.i _ e)=>match i.kind with | .str=>some ⟨.s (.sub s e (.len s)),none,[.slc e (.len s) s]⟩ | _=>none
  | _,_,_=>none
 | .call {callee:=.builtin .min,args,..}=>match args.toList with
  | [x,y]=>match fW S.sl x,fW S.sl y with
   | some (.i k a),some (.i _ b)=>eA (.i k (.mkMin a b))
   | _,_=>none
  | _=>none
 | .slice t x none (some y) none=>match ty t,fW S.sl x,fW S.sl y with
  | some i,some (.sl k off _ cap),some (.i _ e)=>match i.kind with | .slice _ _=>some ⟨.sl k off e cap,none,[.leE e cap]⟩ | _=>none
  | some i,some (.s s),some (.i _ e)=>match i.kind with | .str=>some ⟨.s (.sub s (.l 0) e),none,[.slc (.l 0) e s]⟩ | _=>none
  | _,_,_=>none
 | _=>none
structure cV (c:Cx)(S:St)(X:Nat->Prop)(μ:Mu)(w:World)(av:AV)(nb:Option Blk)(ow:List OF)(X':Nat->Prop)(μ':Mu)(v:Value)(w':World):Prop where
 bel:Below c.B.heap.size w w'
 keep:∀b,b<w.heap.size->(∀f,f∈S.ow->¬f.F μ b)->w'.heap[b]?=w.heap[b]?
 val:aD μ' av=some v
 blk:match nb with
  | none=>μ'=μ
  | some blk=>∃m,μ'=μ.upd S.hp.length m/\blk.ok X' μ' w' m/\∀b,m=.own b->w.heap.size<=b/\b<w'.heap.size/\¬X' b
 sub:∀b,X b->X' b
 new:∀b,X' b->X b\/(w.heap.size<=b/\b<w'.heap.size)\/∃f,f∈S.ow/\f.F μ b
 own:OwnOk c.B ow X' μ' w'
theorem OwnOk.keep {B:World}{ow:List OF}{X X':Nat->Prop}{μ μ':Mu}{w w':World}(h:OwnOk B ow X μ w)(hle:Mu.le μ μ')(hs:w.heap.size<=w'.heap.size)(hk:∀b,b<w.heap.size->w'.heap[b]?=w.heap[b]?)
  (hx:∀b,X' b->X b\/w.heap.size<=b) (hm:∀k b,μ' k=some (.own b)->μ k=some (.own b)\/w.heap.size<=b):OwnOk B ow X' μ' w':=by
 have key:∀f,f∈ow->f.p μ' w'/\∀k,f.F μ' k↔f.F μ k:=λf hf=>f.st μ μ' w w' hle.v (λk hk'=>hk k ((h.at_ f hf).2 k hk').2.1) (h.at_ f hf).1
 refine⟨λf hf=>?_,?_⟩
 ·obtain⟨h1,h2⟩:=h.at_ f hf;refine⟨(key f hf).1,λb hb=>?_⟩;obtain⟨q1,q2,q3,q4⟩:=h2 b (((key f hf).2 b).1 hb);refine⟨q1,Nat.lt_of_lt_of_le q2 hs,λhx'=>?_,λk hk'=>?_⟩
  ·rcases hx b hx' with e | e
   ·exact q3 e
   ·omega
  ·rcases hm k b hk' with e | e
   ·exact q4 k e
   ·omega
 ·exact h.apart.imp_of_mem λ{f g} hf hg hq b hb hb'=>hq b (((key f hf).2 b).1 hb) (((key g hg).2 b).1 hb')
theorem cV.same {c:Cx}{S:St}{X:Nat->Prop}{μ:Mu}{w:World}{av:AV}{v:Value}(ho:OwnOk c.B S.ow X μ w)(h:aD μ av=some v):cV c S X μ w av none S.ow X μ v w:=
 ⟨Below.refl _ _,λ_ _ _=>rfl,h,rfl,λ_ h=>h,λ_ h=>.inl h,ho⟩
theorem cV.alloc {c:Cx}{S:St}{X:Nat->Prop}{μ:Mu}{w:World}{blk:Blk}{av:AV}{v:Value}{ty:Nat}{cs:Array Value}(ho:OwnOk c.B S.ow X μ w)(hB:c.B.heap.size<=w.heap.size)
  (hf:μ S.hp.length=none) (hx:∀b,X b->b<w.heap.size) (hb:∀μ' w',Mu.le μ μ'->w'.heap[w.heap.size]?=some (.cells cs ty (0,0))->blk.ok X μ' w' (.own w.heap.size)) (hv:∀μ',Mu.le μ μ'->μ' S.hp.length=some (.own w.heap.size)->aD μ' av=some v):
  cV c S X μ w av (some blk) S.ow X (μ.upd S.hp.length (.own w.heap.size)) v {w with heap:=w.heap.push (.cells cs ty)}:=by
 have hold:∀b,b<w.heap.size->(w.heap.push (.cells cs ty))[b]?=w.heap[b]?:=λb hb=>by rw[Array.getElem?_push,if_neg zW]
 refine⟨(Below.refl _ _).alloc hB _,λb hb _=>hold b hb,hv _ (Mu.le_upd hf) (Mu.upd_same _ _ _),
  ⟨.own w.heap.size,rfl,hb _ _ (Mu.le_upd hf) zA,λb e=>?_⟩,λ_ h=>h,λ_ h=>.inl h,
  ho.keep (Mu.le_upd hf) zA hold (λb h=>.inl h) (λk b h=>?_)⟩
 ·injection e with e;subst e;exact⟨lRf _,zA,λh=>by have:=hx _ h;omega⟩
 ·unfold Mu.upd at h;split at h
  ·injection h with h;injection h with h;exact .inr zW
  ·exact .inl h
section
variable {c:Cx}{K:List KF}{n0:Nat}{D:Nat->Prop}{S:St}{X:Nat->Prop}{μ:Mu}{a:Act}{w:World}
theorem aH (H:PSim c K n0 D S X μ a w){x:Operand}{av:AV}(h:fW S.sl x=some av)(hD:∀t,x=.tmp t->D t):aD μ av=some (a.eval x):=by
 cases x with
 | tmp t=>
  obtain⟨v,h1,h2⟩:=H.slots t av (hD t rfl) h;simp[Act.eval,h2,h1]
 | const v=>simp only[fW]at h;injection h with h;subst h;exact aDu μ v
 | global g=>cases h
 | func f=>simp only[fW]at h;injection h with h;subst h;simp[aD,aF,Act.eval]
theorem oP (H:PSim c K n0 D S X μ a w):∀{l:List Operand} {zas:List AV},aKj S.sl l=some zas->(∀t,Operand.tmp t∈l->D t)->aF μ zas=some (l.map a.eval)
 | [],zas,h,_=>by simp[aKj]at h;subst h;simp[aF]
 | x::l,zas,h,hD=>by
  simp only[aKj]at h;split at h
  ·rename_i b bs h1 h2;injection h with h;subst h
   simp only[aF,List.map_cons,aH H h1 (λt e=>hD t (by simp[e])),oP H h2 (λt e=>hD t (by simp[e]))]
  ·cases h
inductive Parts (μ:Mu):List (Nat × AV)->List (Nat × Value)->Prop
 | nil:Parts μ [] []
 | cons {i:Nat} {av:AV} {v:Value} {l m} (h:aD μ av=some v) (r:Parts μ l m):Parts μ ((i,av)::l) ((i,v)::m)
theorem wI (H:PSim c K n0 D S X μ a w):∀{l:List (Nat × Operand)} {zas:List (Nat × AV)},aQm S.sl l=some zas->(∀t,Operand.tmp t∈l.map (·.2)->D t)->Parts μ zas (l.map λ(i,x)=>(i,a.eval x))
 | [],zas,h,_=>by simp[aQm]at h;subst h;exact .nil
 | (i,x)::l,zas,h,hD=>by
  simp only[aQm]at h;split at h
  ·rename_i b bs h1 h2;injection h with h;subst h
   exact .cons (aH H h1 (λt e=>hD t (by simp[e]))) (wI H h2 (λt e=>hD t (by simp only[List.map_cons];exact List.mem_cons_of_mem _ e)))
  ·cases h
theorem kZ {av:AV}{l:List AV}{v:Value}(h:cellsOf av=some l)(hv:aD μ av=some v):aF μ l=some v.cells.toList:=by
 have one:av.one=true->l=[av]->aF μ l=some v.cells.toList:=λh1 e=>by
  subst e;rw[cells_one (AV.one_spec h1 hv)];simp[aF,hv]
 cases av with
 | g m=>
  simp only[cellsOf]at h;injection h with h;subst h
  simp only[aD]at hv;split at hv
  ·rename_i vs hvs;injection hv with hv;subst hv;simpa[Value.cells]using hvs
  ·cases hv
 | t m=>cases h
 | q x=>cases h
 | i k e=>exact one rfl (by simpa[cellsOf]using h.symm)
 | b e=>exact one rfl (by simpa[cellsOf]using h.symm)
 | s s=>exact one rfl (by simpa[cellsOf]using h.symm)
 | p k off=>exact one rfl (by simpa[cellsOf]using h.symm)
 | pe k off i sz inner=>exact one rfl (by simpa[cellsOf]using h.symm)
 | e k=>cases h
 | sl k off len cap=>exact one rfl (by simpa[cellsOf]using h.symm)
 | xs x len cap=>exact one rfl (by simpa[cellsOf]using h.symm)
 | f fn m=>exact one rfl (by simpa[cellsOf]using h.symm)
 | o x=>exact one rfl (by simpa[cellsOf]using h.symm)
 | ec k j=>exact one rfl (by simpa[cellsOf]using h.symm)
theorem foldl_set:∀(l:List Value) (off j:Nat) (cs:Array Value),(l.zipIdx j).foldl (λcs (x:Value × Nat)=>cs.setIfInBounds (off+x.2) x.1) cs=
  (cs.toList.take (off+j)++(l++cs.toList.drop (off+j+l.length)).take (cs.size - (off+j))).toArray
 | [],off,j,cs=>by
  apply Array.ext';simp only[List.zipIdx_nil,List.foldl_nil,List.nil_append,List.length_nil,Nat.add_zero];rw[List.take_of_length_le (l:=cs.toList.drop (off+j)) zA,List.take_append_drop]
 | x::l,off,j,cs=>by
  rw[List.zipIdx_cons,List.foldl_cons,foldl_set l off (j+1)];apply Array.ext';simp only[Array.toList_setIfInBounds,Array.size_setIfInBounds];by_cases hlt:off+j<cs.size
  ·apply List.ext_getElem?;intro m;have hl:cs.toList.length=cs.size:=zA;rcases Nat.lt_trichotomy m (off+j)with hm | hm | hm
   ·rw[List.getElem?_append_left (by simp;omega),List.getElem?_append_left (by simp;omega),List.getElem?_take,List.getElem?_take,if_pos zW,if_pos zW,List.getElem?_set,if_neg zW]
   ·subst hm;rw[List.getElem?_append_left (by simp;omega),List.getElem?_append_right (by simp;omega),List.getElem?_take,if_pos zW,List.getElem?_set];obtain⟨q,hq⟩:∃q,cs.size - (off+j)=q+1:=⟨cs.size - (off+j) - 1,zW⟩;simp[hlt,Nat.min_eq_left (Nat.le_of_lt hlt),hq]
   ·rw[List.getElem?_append_right (by simp;omega),List.getElem?_append_right (by simp;omega),List.getElem?_take,List.getElem?_take];have e1:(List.take (off+(j+1)) (cs.toList.set (off+j) x)).length=off+j+1:=by simp;omega
    have e2:(List.take (off+j) cs.toList).length=off+j:=by simp;omega
    rw[e1,e2];by_cases hb:m<cs.size
    ·rw[if_pos zW,if_pos zW];obtain⟨q,rfl⟩:∃q,m=off+j+1+q:=⟨m - (off+j+1),zW⟩;rw[show off+j+1+q - (off+j+1)=q from zW,show off+j+1+q - (off+j)=q+1 from zW];rw[List.cons_append,List.getElem?_cons_succ,List.getElem?_append,List.getElem?_append];split
     ·rfl
     ·rw[List.getElem?_drop,List.getElem?_drop,List.getElem?_set,if_neg zW];congr 1;simp;omega
    ·rw[if_neg zW,if_neg zW]
  ·have h1:cs.toList.set (off+j) x=cs.toList:=List.set_eq_of_length_le (by simp;omega)
   rw[h1,show cs.size - (off+(j+1))=0 from zW,show cs.size - (off+j)=0 from zW];simp only[List.take_zero,List.append_nil];rw[List.take_of_length_le (by simp;omega),List.take_of_length_le (by simp;omega)]
theorem rX {cells l:List AV}{cs vs:List Value}{off:Nat}(hc:aF μ cells=some cs)(hl:aF μ l=some vs)(hle:off+l.length<=cells.length):
  aF μ (pL cells off l)=some (vs.toArray.zipIdx.foldl (λcs (x:Value × Nat)=>cs.setIfInBounds (off+x.2) x.1) cs.toArray).toList:=by
 have e:=foldl_set vs off 0 cs.toArray
 have e2:vs.toArray.zipIdx.foldl (λcs (x:Value × Nat)=>cs.setIfInBounds (off+x.2) x.1) cs.toArray=(vs.zipIdx 0).foldl (λcs (x:Value × Nat)=>cs.setIfInBounds (off+x.2) x.1) cs.toArray:=by
  rw[<-Array.foldl_toList];simp
 rw[e2,e];have hlen:=bC hc;have hvl:=bC hl;unfold pL;have:=lB (lB (rH off hc) hl) (rG (off+l.length) hc);rw[this];congr 1;simp only[List.append_assoc,Nat.add_zero,List.size_toArray];congr 1;rw[List.take_of_length_le (by simp;omega),hvl]
theorem rM {place:Nat->Option (Nat × Nat)}:∀{ps:List (Nat × AV)} {vs:List (Nat × Value)} {cells out:List AV} {cs:List Value},Parts μ ps vs->aF μ cells=some cs->aDb place cells ps=some out->
  ∃os,Instr.fill place cs.toArray vs=some os/\aF μ out=some os.toList
 | [],_,cells,out,cs,.nil,hc,h=>by simp[aDb]at h;subst h;exact⟨cs.toArray,rfl,by simpa using hc⟩
 | _,_,cells,out,cs,.cons (i:=i) (av:=av) (v:=v) (l:=l) (m:=m) hv r,hc,h=>by
  simp only[aDb]at h;split at h
  ·rename_i off size al hp ha;split at h
   ·rename_i mM;have hcl:=kZ ha hv;have hn:=bC hcl;have hn2:=bC hc;obtain⟨os,h1,h2⟩:=rM r (rX hc hcl mM.2) h;refine⟨os,?_,h2⟩;simp only[Instr.fill,hp];rw[if_neg (by simp at hn |-;omega)];simpa using h1
   ·cases h
  ·cases h
theorem dD {P:Program}{t:TypeId}{ti:TypeInfo}(h:P.info? t=some ti)(w:World):(sizeOf t).run P w=.ok ti.size w:=by
 simp[sizeOf,typeInfo,h]
theorem lJ {P:Program}{t:TypeId}{ti:TypeInfo}{z:Value}(h:P.info? t=some ti)(hz:ti.zero=some z)(w:World):(zeroValue t).run P w=.ok z w:=by
 simp[zeroValue,typeInfo,h,hz]
theorem aDm {P:Program}{t:TypeId}{i:TyI}(h:TyOk P t i)(w:World):(isAgg t).run P w=.ok i.kind.agg w:=by
 have hu:=h.und
 cases hk:i.kind with
 | struct fl=>rw[hk]at hu;obtain⟨fs,h1,_⟩:=hu;simp[isAgg,run_underlying h1,TK.agg]
 | array n e s=>rw[hk]at hu;obtain⟨h1,_⟩:=hu;simp[isAgg,run_underlying h1,TK.agg]
 | slice e s=>rw[hk]at hu;obtain⟨h1,_⟩:=hu;simp[isAgg,run_underlying h1,TK.agg]
 | int k=>rw[hk]at hu;simp[isAgg,run_underlying hu,TK.agg]
 | str=>rw[hk]at hu;simp[isAgg,run_underlying hu,TK.agg]
 | bool=>rw[hk]at hu;simp[isAgg,run_underlying hu,TK.agg]
 | other=>
  rw[hk]at hu;obtain⟨d,h1,h2,h3⟩:=hu;cases d<;>simp_all [isAgg,run_underlying h1,TK.agg]
theorem aNb {w:World}{b off:Nat}{ty:Nat}{vs:List Value}{n:Nat}(h:w.heap[b]?=some (.cells vs.toArray ty (0,0))):w.rangeAt b off ((vs.drop off).take n):=by
 intro j v hj;simp only[World.cell?,h];rw[List.getElem?_take]at hj;split at hj
 ·rw[List.getElem?_drop]at hj;simpa using hj
 ·cases hj
theorem row_of {t:TypeId}{i:TyI}(T:TyOk c.P t i)(hag:i.kind.agg=true):∃d,c.P.underlying t=some d/\d.isRow=true:=by
 have hu:=T.und
 cases hk:i.kind with
 | struct fl=>rw[hk]at hu;obtain⟨fs,h1,_⟩:=hu;exact⟨_,h1,rfl⟩
 | array n e s=>rw[hk]at hu;exact⟨_,hu.1,rfl⟩
 | slice e s=>rw[hk]at hag;cases hag
 | int k=>rw[hk]at hag;cases hag
 | str=>rw[hk]at hag;cases hag
 | bool=>rw[hk]at hag;cases hag
 | other=>rw[hk]at hag;cases hag
theorem tL {t:TypeId}{i:TyI}(ht:c.ty t=some i)(hag:i.kind.agg=false){b o:Nat}{v:Value}(h:w.cell? ⟨b,o,none⟩=some v):(Instr.loadAt t (.pointer (some ⟨b,o,none⟩))).run c.P w=.ok v w:=by
 simp only[Instr.loadAt,Instr.sureAddr,loadVar,Sem.run_bind,Sem.run_pure,Result.andThen_ok,aDm (c.tok t i ht),hag,Bool.false_eq_true,if_false,run_load];simp[h]
theorem aDq (H:PSim c K n0 D S X μ a w){t:TypeId}{i:TyI}(ht:c.ty t=some i){k off:Nat}{ty:Nat}{cells:List AV}(hk:S.hp[k]?=some (.c ty cells)){b o:Nat}(hb:rA μ k=some (b,o)){av:AV}
  (hp:partOf i.kind.agg i.size cells off=some av):∃v,(Instr.loadAt t (.pointer (some ⟨b,o+off,none⟩))).run c.P w=.ok v w/\aD μ av=some v:=by
 have T:=c.tok t i ht
 obtain⟨m,hm,hma⟩:∃m,μ k=some m/\m.at=some (b,o):=by
  unfold rA at hb;cases hk:μ k with
  | none=>rw[hk]at hb;cases hb
  | some m=>rw[hk]at hb;exact⟨m,rfl,hb⟩
 have hok:=H.heap k _ m hk hm
 cases m with
 | ext=>exact hok.elim
 | val=>exact hok.elim
 | own b'=>
 simp only[MV.at,Option.some.injEq,Prod.mk.injEq]at hma;obtain⟨rfl,rfl⟩:=hma;obtain⟨vs,hvs,ho⟩:=hok;rw[Nat.zero_add];obtain⟨ti,z,hi,hsz,hz,_⟩:=T.info;have hlen:=bC hvs;unfold partOf at hp;cases hag:i.kind.agg with
 | true=>
  rw[hag]at hp;simp only[if_true]at hp;split at hp
  ·rename_i hle;injection hp with hp;subst hp
   refine⟨.agg ((vs.drop off).take i.size).toArray,?_,by simp only[aD,rH i.size (rG off hvs)]⟩;obtain⟨d,hd1,hd2⟩:=row_of T hag;exact run_loadAt_mid w b' off t _ d (aNb ho) hd1 hd2 (by simp[hi,hsz];omega)
  ·cases hp
 | false=>
  rw[hag]at hp;simp only[Bool.false_eq_true,if_false]at hp;split at hp
  ·rename_i x hx;split at hp
   ·injection hp with hp;subst hp
    obtain⟨v,hv1,hv2⟩:=iF hvs off _ hx;exact⟨v,tL ht hag (by simp[World.cell?,ho,hv1]),hv2⟩
   ·cases hp
  ·cases hp
theorem aCx (μ:Mu)(f:Nat->SE):∀(l:List Nat),aF μ (l.map λj=>.s (f j))=some (l.map λj=>.string (f j).den)
 | []=>rfl
 | x::l=>by simp only[List.map_cons,aF,aD,aCx μ f l]
theorem aBa (H:PSim c K n0 D S X μ a w){t:TypeId}{i:TyI}(ht:c.ty t=some i){k off:Nat}{ix:IE}{sz inner:Nat}{blk:Blk}(hk:S.hp[k]?=some blk){b o:Nat}(hb:rA μ k=some (b,o)){r:Rs}
  (hp:aPb i.kind.agg i.size blk off ix sz inner=some r) (hob:iA r.ob):r.nb=none/\∃v,(Instr.loadAt t (.pointer (some ⟨b,o+aY off ix.den sz inner,none⟩))).run c.P w=.ok v w/\aD μ r.av=some v:=by
 have T:=c.tok t i ht
 obtain⟨m,hm,hma⟩:∃m,μ k=some m/\m.at=some (b,o):=by
  unfold rA at hb;cases hk:μ k with
  | none=>rw[hk]at hb;cases hb
  | some m=>rw[hk]at hb;exact⟨m,rfl,hb⟩
 have hok:=H.heap k _ m hk hm
 unfold aPb at hp;split at hp
 ·rename_i bt kd l;split at hp
  ·cases hp
  ·rename_i hag;injection hp with hp;subst hp
   cases m with
   | ext=>exact hok.elim
   | val=>exact hok.elim
   | own b'=>
   simp only[MV.at,Option.some.injEq,Prod.mk.injEq]at hma;obtain⟨rfl,rfl⟩:=hma;have hlt:aY off ix.den sz inner<l.length:=hob.1;have hok:w.heap[b']?=some (.cells (l.map (Value.int kd)).toArray bt (0,0)):=hok;refine⟨rfl,.int kd (l.getD (aY off ix.den sz inner) 0),tL ht (by simpa using hag) ?_,by simp[aD,IE.den]⟩;simp[World.cell?,hok,hlt]
 ·rename_i bt kd l;split at hp
  ·cases hp
  ·rename_i hag;injection hp with hp;subst hp
   cases m with
   | ext=>exact hok.elim
   | val=>exact hok.elim
   | own b'=>
   simp only[MV.at,Option.some.injEq,Prod.mk.injEq]at hma;obtain⟨rfl,rfl⟩:=hma;have hlt:aY off ix.den sz inner<l.length:=hob.1;obtain⟨rest,hok⟩:=hok;refine⟨rfl,.int kd (l.getD (aY off ix.den sz inner) 0),tL ht (by simpa using hag) ?_,by simp[aD,IE.den]⟩;have h9:(l.map (Value.int kd)++rest)[aY off ix.den sz inner]?=some (.int kd (l.getD (aY off ix.den sz inner) 0)):=by
    rw[List.getElem?_append_left (by simpa using hlt)];simp[hlt]
   simp only[World.cell?,hok,Nat.zero_add,Option.isSome_none,Bool.false_eq_true,if_false];rw[List.getElem?_toArray];exact h9
 ·rename_i kd n f;split at hp
  ·cases hp
  ·rename_i hag;injection hp with hp;subst hp
   cases m with
   | own=>exact hok.elim
   | val=>exact hok.elim
   | ext a'=>
   simp only[MV.at]at hma;subst hma;have hle:aY off ix.den sz inner+1<=n:=hob.1;obtain⟨_,cs,bt,h1,h2⟩:=hok;refine⟨rfl,.int kd (f (aY off ix.den sz inner)),tL ht (by simpa using hag) ?_,by simp[aD,IE.den]⟩;simp[World.cell?,h1,h2 _ (show aY off ix.den sz inner<n by omega)]
 ·rename_i n f;cases m with
  | own=>exact hok.elim
  | val=>exact hok.elim
  | ext a'=>
  simp only[MV.at]at hma;subst hma;obtain⟨_,cs,bt,h1,h2⟩:=hok;split at hp
  ·rename_i hag;injection hp with hp;subst hp
   have hle:aY off ix.den sz inner+i.size<=n:=hob.1
   refine⟨rfl,.agg ((List.range i.size).map λj=>.string (f (aY off ix.den sz (inner+j)))).toArray,?_,by simp only[aD,aCx μ (λj=>.fn f off ix sz (inner+j)),SE.den]⟩;obtain⟨d,hd1,hd2⟩:=row_of T hag;obtain⟨ti,z,hi,hsz,hz,_⟩:=T.info;refine run_loadAt_mid w b _ t _ d (λj v hj=>?_) hd1 hd2 (by simp[hi,hsz]);rw[List.getElem?_map]at hj;rcases Nat.lt_or_ge j i.size with hlt | hge
   ·rw[List.getElem?_range hlt]at hj;simp only[Option.map_some,Option.some.injEq]at hj;subst hj;have:=h2 (aY off ix.den sz (inner+j)) (by simp only[aY]at hle |-;omega);simp only[World.cell?,h1];rw[<-this];simp only[aY,Option.isSome_none,Bool.false_eq_true,if_false];congr 1;omega
   ·rw[List.getElem?_eq_none (by simpa using hge)]at hj;cases hj
  ·rename_i hag;injection hp with hp;subst hp
   have hle:aY off ix.den sz inner+1<=n:=hob.1
   refine⟨rfl,.string (f (aY off ix.den sz inner)),tL ht (by simpa using hag) ?_,by simp[aD,SE.den]⟩;simp[World.cell?,h1,h2 _ (show aY off ix.den sz inner<n by omega)]
 ·cases hp
end
end Go.Ai
