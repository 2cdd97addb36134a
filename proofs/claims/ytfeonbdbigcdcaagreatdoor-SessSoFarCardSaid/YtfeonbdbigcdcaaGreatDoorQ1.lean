/- Part 1 of a proof by the abstract machine. -/
import GoSem.Step
import Derived.RangeFuncRecord
import Derived.RangeFuncNested
import Derived.RangeFuncCalls
import Derived.LoopNIn
import Derived.Below
import Derived.Laws.OwnMore
import Derived.Laws.Cells
import Derived.Laws.CopyRow
import Derived.Laws.Entries
import Derived.Laws.IdiomCopy
import Derived.ChangeKeysEq
import Derived.WideShapes
import Derived.Laws.AppendOwn
import Derived.Laws.Tables
import Derived.Laws.MakeOwn
import Derived.Laws.BytesArg
import Derived.Lib.ConvBytes
import Derived.MapKept
import Derived.Carry
set_option linter.unusedVariables false
namespace Go.AM
inductive Ty where
 | u8 | int (k:IntKind) | bool | str | sl (e:Ty) | agg (ts:List Ty)
 | u8t (E:Nat)
mutual
@[reducible] def Ty.den:Ty→Type
  | .u8=>UInt8
  | .u8t _=>UInt8
  | .int _=>Int
  | .bool=>Bool
  | .str=>List UInt8
  | .sl e=>List e.den
  | .agg ts=>denL ts
@[reducible] def denL:List Ty→Type
  | []=>Unit
  | [t]=>t.den
  | t::u::us=>t.den×denL (u::us)
end
mutual
def Ty.beq:Ty→Ty→Bool
 | .u8,.u8=>true
 | .u8t a,.u8t b=>Nat.beq a b
 | .int k,.int k'=>decide (k=k')
 | .bool,.bool=>true
 | .str,.str=>true
 | .sl a,.sl b=>a.beq b
 | .agg a,.agg b=>beqL a b
 | _,_=>false
def beqL:List Ty→List Ty→Bool
 | [],[]=>true
 | a::aS,b::bs=>a.beq b&&beqL aS bs
 | _,_=>false
end
mutual
theorem Ty.beq_eq:∀ a b:Ty,a.beq b=true→a=b
 | .u8,b,h=>by cases b<;>simp_all [Ty.beq]
 | .u8t a,b,h=>by
  cases b with
  | u8t b =>
   have e:a=b:=Nat.eq_of_beq_eq_true (by simpa only [Ty.beq] using h)
   rw [e]
  | _=>simp [Ty.beq] at h
 | .int k,b,h=>by cases b<;>simp_all [Ty.beq]
 | .bool,b,h=>by cases b<;>simp_all [Ty.beq]
 | .str,b,h=>by cases b<;>simp_all [Ty.beq]
 | .sl a,b,h=>by
  cases b with
  | sl b=>rw [Ty.beq_eq a b (by simpa [Ty.beq] using h)]
  | _=>simp [Ty.beq] at h
 | .agg a,b,h=>by
  cases b with
  | agg b=>rw [zlx a b (by simpa [Ty.beq] using h)]
  | _=>simp [Ty.beq] at h
theorem zlx:∀ a b:List Ty,beqL a b=true→a=b
 | [],b,h=>by cases b<;>simp_all [beqL]
 | a :: aS,b,h=>by
  cases b with
  | nil=>simp [beqL] at h
  | cons b bs =>
   simp only [beqL,Bool.and_eq_true] at h
   rw [Ty.beq_eq a b h.1,zlx aS bs h.2]
end
mutual
def Ty.size:Ty→Nat
 | .agg ts=>sizeL ts
 | _=>1
def sizeL:List Ty→Nat
 | []=>0
 | t::ts=>t.size+sizeL ts
end
def castSl (a b:Ty) (l:List a.den):Option (List b.den):=
 if h:a.beq b=true then some (Ty.beq_eq a b h▸l) else none
inductive Cap where
 | full | own (t:Nat) | unk | fresh
inductive AV where
 | any
 | bool (b:Bool)
 | int (k:IntKind) (n:Int)
 | str (s:List UInt8)
 | sl (τ:Ty) (l:List τ.den) (c:Cap)
 | nils
 | agg (cs:List AV)
 | tup (vs:List AV)
 | nilp
 | ref (r off:Nat)
 | imm (cs:List AV)
 | nilfn
 | fn (f:Nat) (first captured:List AV)
 | yield (j:Nat)
 | err (b:Bool)
 | row (v:Nat) (τ:Ty) (l:List τ.den)
 | ms (r v n:Nat) (τ:Ty)
 | ep (r v:Nat) (i:Int) (off:Nat) (τ:Ty)
 | imms (n:Nat) (cs:List AV)
 | bcell (r T:Nat)
 | mp (l:List (List UInt8×Int))
 | mref (r:Nat)
 | fmp (es:List (Int×Nat))
mutual
def Ty.cells:(τ:Ty)→τ.den→List AV
 | .u8,b=>[.int .u8 b.toNat]
 | .u8t _,b=>[.int .u8 b.toNat]
 | .int k,n=>[.int k n]
 | .bool,b=>[.bool b]
 | .str,s=>[.str s]
 | .sl e,l=>[.sl e l .unk]
 | .agg ts,x=>cellsL ts x
def cellsL:(ts:List Ty)→denL ts→List AV
 | [],_=>[]
 | [t],x=>t.cells x
 | t::u::us,(x,y)=>t.cells x++cellsL (u::us) y
end
def Ty.isAgg:Ty→Bool
 | .agg _=>true
 | _=>false
def toAV:(τ:Ty)→τ.den→AV
 | .u8,b => .int .u8 b.toNat
 | .u8t _,b => .int .u8 b.toNat
 | .int k,n => .int k n
 | .bool,b => .bool b
 | .str,s => .str s
 | .sl e,l => .sl e l .unk
 | .agg ts,x => .agg (cellsL ts x)
mutual
def Ty.of:(τ:Ty)→List AV→Option (τ.den×List AV)
 | .u8,cs=>match cs with
  | .int .u8 n::r=>some (UInt8.ofNat n.toNat,r)
  | _=>none
 | .u8t _,cs=>match cs with
  | .int .u8 n::r=>some (UInt8.ofNat n.toNat,r)
  | _=>none
 | .int k,cs=>match cs with
  | .int k' n::r=>if k=k' then some (n,r) else none
  | _=>none
 | .bool,cs=>match cs with
  | .bool b::r=>some (b,r)
  | _=>none
 | .str,cs=>match cs with
  | .str s::r=>some (s,r)
  | _=>none
 | .sl e,cs=>match cs with
  | .sl e' l _::r=>match castSl e' e l with
   | some l=>some (l,r)
   | none=>none
  | .nils::r=>some ([],r)
  | _=>none
 | .agg ts,cs=>ofL ts cs
def ofL:(ts:List Ty)→List AV→Option (denL ts×List AV)
 | [],cs=>some ((),cs)
 | [t],cs=>t.of cs
 | t :: u::us,cs=>match t.of cs with
  | some (x,r)=>match ofL (u::us) r with
   | some (y,r)=>some ((x,y),r)
   | none=>none
  | none=>none
end
def cellsOf:AV→List AV
 | .agg cs=>cs
 | .any=>[]
 | v=>[v]
def one1:AV→Bool
 | .agg _=>false
 | .tup _=>false
 | .any=>false
 | .row _ _ _=>false
 | .bcell _ _=>false
 | .mp _=>false
 | .fmp _=>false
 | _=>true
def oneL:List AV→Bool
 | []=>true
 | v::vs=>one1 v&&oneL vs
def fromAV (τ:Ty) (a:AV):Option τ.den:=
 match τ.of (cellsOf a) with
 | some (x,[])=>some x
 | _=>none
inductive TD where
 | int (k:IntKind) | bool | str | slice (e:Nat) | arr (n e:Nat) | struct (fs:List (Nat×Nat)) | ptr | func | iface | other | map (k e:Nat)
structure TI where
 d:TD
 size:Nat
 bytes:Nat
 agg:Bool
 zero:List AV
 ty:Option Ty
 cmp:Bool:=false
structure Entry where
 Y:Type
 o:Option Y
 enc:Y→AV
abbrev Env:=List (Nat×AV)
inductive Jmp where
 | ret | ex (i:Nat)
inductive LS where
 | ready | busy | done (j:Jmp)
structure H where
 bx:List (List AV)
 tk:List (Option Nat)
 lp:List LS
structure Ks (X:Type) where
 nxt:Env→H→Option X
 ex:Nat→Env→H→Option X
 ret:Env→H→Option X
structure HD where
 g:Nat
 i:Nat
 e:Env
abbrev Ys:=List (Nat×HD)
inductive Task where
 | call (g:Nat) (args:List AV)
 | round (j:Nat) (hd:HD) (args:List AV)
 | tryc (T q g:Nat) (args:List AV)
abbrev Open (X:Type):=Task→Ys→H→(AV→H→Option X)→Option X
inductive SV where
 | int (k:IntKind) | bool | str | sl (τ:Ty) (c:Cap) | err | const (v:AV) | agg (vs:List SV) | fn (f:Nat) (a b:List SV) | row (τ:Ty) | ms (r:Nat) (τ:Ty) | mp
mutual
@[reducible] def SV.den:SV→Type
  | .int _=>Int
  | .bool=>Bool
  | .str=>List UInt8
  | .sl τ _=>List τ.den
  | .err=>Bool
  | .const _=>Unit
  | .agg vs=>sdenL vs
  | .fn _ a b=>sdenL a×sdenL b
  | .row τ=>Nat×List τ.den
  | .ms _ _=>Nat×Nat
  | .mp=>List (List UInt8×Int)
@[reducible] def sdenL:List SV→Type
  | []=>Unit
  | v::vs=>v.den×sdenL vs
end
mutual
def SV.enc:(s:SV)→s.den→AV
 | .int k,n => .int k n
 | .bool,b => .bool b
 | .str,l => .str l
 | .sl τ c,l => .sl τ l c
 | .err,b => .err b
 | .const v,_=>v
 | .agg vs,x => .agg (sencL vs x)
 | .fn f a b,x => .fn f (sencL a x.1) (sencL b x.2)
 | .row τ,x => .row x.1 τ x.2
 | .ms r τ,v => .ms r v.1 v.2 τ
 | .mp,l => .mp l
def sencL:(vs:List SV)→sdenL vs→List AV
 | [],_=>[]
 | v::vs,x=>v.enc x.1::sencL vs x.2
end
@[reducible] def sdenE:List (Nat×SV)→Type
  | []=>Unit
  | v::vs=>v.2.den×sdenE vs
def sencE:(vs:List (Nat×SV))→sdenE vs→Env
 | [],_=>[]
 | v::vs,x=>(v.1,v.2.enc x.1)::sencE vs x.2
@[reducible] def sdenB:List (List SV)→Type
  | []=>Unit
  | v::vs=>sdenL v×sdenB vs
def sencB:(vs:List (List SV))→sdenB vs→List (List AV)
 | [],_=>[]
 | v::vs,x=>sencL v x.1::sencB vs x.2
@[reducible] def sdenT:List Bool→Type
  | []=>Unit
  | true::vs=>Nat×sdenT vs
  | false::vs=>sdenT vs
def sencT:(vs:List Bool)→sdenT vs→List (Option Nat)
 | [],_=>[]
 | true::vs,x=>some x.1::sencT vs x.2
 | false::vs,x=>none::sencT vs x
@[reducible] def sdenY:List (Nat×Nat×Nat×List (Nat×SV))→Type
  | []=>Unit
  | v::vs=>sdenE v.2.2.2×sdenY vs
def sencY:(vs:List (Nat×Nat×Nat×List (Nat×SV)))→sdenY vs→Ys
 | [],_=>[]
 | v::vs,x=>(v.1,⟨v.2.1,v.2.2.1,sencE v.2.2.2 x.1⟩)::sencY vs x.2
structure Shape where
 env:List (Nat×SV)
 bx:List (List SV)
 tk:List Bool
 lp:List LS
 ys:List (Nat×Nat×Nat×List (Nat×SV))
 m:Nat
 tm:Nat
 lm:Nat
@[reducible] def Shape.den (s:Shape):Type:=sdenE s.env×sdenB s.bx×sdenT s.tk×sdenY s.ys
def Shape.e (s:Shape) (x:s.den):Env:=sencE s.env x.1
def Shape.h (s:Shape) (x:s.den):H:=⟨sencB s.bx x.2.1,sencT s.tk x.2.2.1,s.lp⟩
def Shape.y (s:Shape) (x:s.den):Ys:=sencY s.ys x.2.2.2
structure Base where
 nb:Nat
 nt:Nat
 nl:Nat
structure LoopI (X:Type) where
 d:Nat
 B:Base
 head:Shape
 exs:List (Nat×Shape)
 rets:List Shape
 f:Ks X→head.den→Option X
structure CutI (X:Type) where
 d:Nat
 B:Base
 head:Shape
 nxt:List Shape
 exs:List (Nat×Shape)
 rets:List Shape
 f:Ks X→head.den→Option X
inductive Pr where
 | bcheck (T:Nat) | bstring (T E:Nat) | sort (τ:Ty) (f:Nat) (F:List τ.den→List τ.den)
 | fmts (es:List (Int×Nat))
 | must (T:Nat)
 | rd (F:List AV→List AV→Option AV)
 | tryp (T:Nat)
structure Cx (X:Type) where
 tab:Nat→Option TI
 fns:Nat→Option Func
 C:Nat→Option (List AV→Option Entry)
 loops:Nat→Nat→List (LoopI X)
 unroll:Nat→Nat→Nat
 cuts:Nat→Nat→List (CutI X)
 conf:Nat→Nat→List (Nat×Nat)
 rows:Nat→Option Ty:=fun _=>none
 pr:Nat→Option Pr:=fun _=>none
 keep:Nat→Bool:=fun _=>false
 bt:Option (Nat×Nat):=none
 rfs:Nat→Nat→Option (Nat×List Nat×List Nat×Code×Code)
def strMax:Nat:=2 ^ 62
def get:Env→Nat→AV
 | [],_ => .any
 | (d,v)::e,t=>bif Nat.beq d t then v else get e t
def nth {α:Type}:List α→Nat→Option α
 | [],_=>none
 | a::_,0=>some a
 | _::l,n+1=>nth l n
def upd {α:Type}:List α→Nat→α→List α
 | [],_,_=>[]
 | _::l,0,v=>v::l
 | a::l,n+1,v=>a::upd l n v
def dropN {α:Type}:Nat→List α→List α
 | 0,l=>l
 | _+1,[]=>[]
 | n+1,_::l=>dropN n l
def takeN {α:Type}:Nat→List α→Option (List α)
 | 0,_=>some []
 | _+1,[]=>none
 | n+1,a::l=>match takeN n l with
  | some r=>some (a::r)
  | none=>none
def idx {α:Type} (l:List α) (i:Int):Option α:=if 0≤i then l[i.toNat]? else none
def sub {α:Type} (l:List α) (lo hi:Int):Option (List α):=
 if 0≤lo∧lo≤hi∧hi≤l.length then some ((l.take hi.toNat).drop lo.toNat) else none
def ofVal:Value→AV
 | .bool b => .bool b
 | .int .u8 n=>bif decide (0≤n)&&decide (n<256) then .int .u8 n else .any
 | .int k n => .int k n
 | .string s=>bif Nat.ble s.data.size strMax then .str s.data.toList else .any
 | .pointer none => .nilp
 | .slice none 0 0 => .nils
 | .nilFunc => .nilfn
 | .nilIface => .err false
 | .func (.func f) x y=>bif Nat.beq x.size 0&&Nat.beq y.size 0 then .fn f [] [] else .any
 | _ => .any
def typ (ty:Option Ty) (a:AV):AV:=
 match a with
 | .nils=>match ty with
  | some (.sl e) => .sl e [] .full
  | _ => .nils
 | a=>a
mutual
def Ty.leaves:Ty→List Ty
 | .agg ts=>leavesL ts
 | τ=>[τ]
def leavesL:List Ty→List Ty
 | []=>[]
 | t::ts=>t.leaves++leavesL ts
end
def typC:List Ty→List AV→List AV
 | τ::τs,a::aS=>typ (some τ) a::typC τs aS
 | _,aS=>aS
def typA (ty:Option Ty) (a:AV):AV:=
 match ty,a with
 | some (.agg ts),.agg cs => .agg (typC (leavesL ts) cs)
 | ty,a=>typ ty a
def ev (e:Env):Operand→AV
 | .tmp t=>get e t
 | .const v=>ofVal v
 | .global _ => .any
 | .func f => .fn f [] []
def mkVal (agg:Bool) (cs:List AV):Option AV:=
 match agg,cs with
 | true,cs=>some (.agg cs)
 | false,[v]=>some v
 | false,_=>none
def tyOf:List AV→Option Nat
 | .bcell _ T::_=>some T
 | .row _ (.u8t E) _::_=>some E
 | _=>none
def noBld:List AV→Bool
 | .bcell _ _::_=>false
 | _=>true
def isRow:List AV→Bool
 | .row _ _ _::_=>true
 | .mp _::_=>true
 | .fmp _::_=>true
 | _=>false
def loadA (ti:TI) (a:AV) (h:H):Option AV:=
 match a with
 | .ref r off=>match nth h.bx r with
  | some cs=>bif isRow cs then none else match takeN ti.size (dropN off cs) with
   | some cs=>mkVal ti.agg cs
   | none=>none
  | none=>none
 | .imm cs=>match takeN ti.size cs with
  | some cs=>mkVal ti.agg cs
  | none=>none
 | _=>none
def splice:Nat→List AV→List AV→Option (List AV)
 | _,[],cs=>some cs
 | 0,v::vs,_::cs=>match splice 0 vs cs with
  | some r=>some (v::r)
  | none=>none
 | n+1,vs,c::cs=>match splice n vs cs with
  | some r=>some (c::r)
  | none=>none
 | _,_::_,[]=>none
def storeA (ti:TI) (a v:AV) (h:H):Option H:=
 match a with
 | .ref r off=>bif Nat.beq (cellsOf v).length ti.size&&oneL (cellsOf v)&&Nat.blt 0 ti.size then
  match nth h.bx r with
  | some cs=>bif isRow cs then none else match splice off (cellsOf v) cs with
   | some cs=>some { h with bx:=upd h.bx r cs }
   | none=>none
  | none=>none
  else none
 | _=>none
def eq1 (d:TD):AV→AV→Option Bool
 | .int k a,.int k' b=>if k=k' then some (a==b) else none
 | .str a,.str b=>some (a==b)
 | .bool a,.bool b=>match d with
  | .bool=>some (a==b)
  | _=>none
 | .ref _ _,.nilp=>match d with
  | .ptr=>some false
  | _=>none
 | .imm _,.nilp=>match d with
  | .ptr=>some false
  | _=>none
 | .nilp,.nilp=>match d with
  | .ptr=>some true
  | _=>none
 | .fn _ _ _,.nilfn=>match d with
  | .func=>some false
  | _=>none
 | .yield _,.nilfn=>match d with
  | .func=>some false
  | _=>none
 | .nilfn,.nilfn=>match d with
  | .func=>some true
  | _=>none
 | _,_=>none
def eqS:AV→AV→Option Bool
 | .int k a,.int k' b=>if k=k' then some (a==b) else none
 | .str a,.str b=>some (a==b)
 | .bool a,.bool b=>some (a==b)
 | _,_=>none
def kind1:AV→Nat
 | .int _ _=>1
 | .bool _=>2
 | .str _=>3
 | _=>0
def kindsB:List AV→List AV→Bool
 | [],[]=>true
 | a::aS,b::bs=>Nat.beq (kind1 a) (kind1 b)&&kindsB aS bs
 | _,_=>false
def eqL:List AV→List AV→Option Bool
 | [],[]=>some true
 | a :: aS,b::bs=>match eqS a b,bs with
  | some x,[]=>match aS with
   | []=>some x
   | _=>none
  | some x,_=>match eqL aS bs with
   | some y=>some (x&&y)
   | none=>none
  | none,_=>none
 | _,_=>none
def bitsA (op:BinOp) (k:IntKind) (x y:Int):Int:=
 let a:=BitVec.ofInt k.bits x
 let b:=BitVec.ofInt k.bits y
 match op with
 | .and=>k.wrap (a&&&b).toNat
 | .or=>k.wrap (a|||b).toNat
 | .xor=>k.wrap (a^^^b).toNat
 | _=>k.wrap (a &&& ~~~b).toNat
def shlA (k:IntKind) (x y:Int):Int:=k.wrap (x*2 ^ min y.toNat k.bits)
def shrA (k:IntKind) (x y:Int):Int:=x.fdiv (2 ^ min y.toNat k.bits)
open Classical in
noncomputable def both {X:Type} (a b:Option X):Option X:=if a=b then a else none
theorem zn4 {X:Type} {a b:Option X} {x:X} (h:both a b=some x):a=some x∧b=some x:=by
 unfold both at h
 split at h
 · rename_i e
   exact ⟨h,e▸h⟩
 · cases h
theorem zn5 {X:Type} (a:Option X):both a a=a:=by simp [both]
def binA {X:Type} (d:TD) (op:BinOp) (x y:AV) (k:AV→Option X):Option X:=
 match op,x,y with
 | .eql,x,y=>match eq1 d x y with
  | some b=>k (.bool b)
  | none=>none
 | .neq,x,y=>match eq1 d x y with
  | some b=>k (.bool (!b))
  | none=>none
 | .shl,.int q a,.int _ b=>bif decide (b<0) then none else k (.int q (shlA q a b))
 | .shr,.int q a,.int _ b=>bif decide (b<0) then none else k (.int q (shrA q a b))
 | op,.int q a,.int q' b=>if q=q' then
  (match op with
  | .add=>k (.int q (q.wrap (a+b)))
  | .sub=>k (.int q (q.wrap (a - b)))
  | .mul=>k (.int q (q.wrap (a*b)))
  | .quo=>bif b==0 then none else k (.int q (q.wrap (a.tdiv b)))
  | .rem=>bif b==0 then none else k (.int q (a.tmod b))
  | .lss=>k (.bool (decide (a<b)))
  | .leq=>k (.bool (decide (a≤b)))
  | .gtr=>k (.bool (decide (a>b)))
  | .geq=>k (.bool (decide (a≥b)))
  | .and | .or | .xor | .andNot=>k (.int q (bitsA op q a b))
  | _=>none) else none
 | .add,.str a,.str b=>bif decide (a.length+b.length≤strMax) then k (.str (a++b)) else none
 | .lss,.str a,.str b=>k (.bool (Op.bytesLess a b))
 | .leq,.str a,.str b=>k (.bool (Op.bytesLess a b||a==b))
 | .gtr,.str a,.str b=>k (.bool (!(Op.bytesLess a b||a==b)))
 | .geq,.str a,.str b=>k (.bool (!Op.bytesLess a b))
 | _,_,_=>none
def unA {X:Type} (op:UnOp) (x:AV) (k:AV→Option X):Option X:=
 match op,x with
 | .neg,.int q n=>k (.int q (q.wrap (0 - n)))
 | .xor,.int q n=>k (.int q (bitsA .xor q (if q.signed then -1 else q.max) n))
 | .not,.bool b=>k (.bool (!b))
 | _,_=>none
def aidx {X:Type} (agg:Bool) (sz:Nat) (i:Int):Nat→Int→List AV→(AV→Option X)→Option X
 | 0,_,_,_=>none
 | n + 1,j,cs,k=>bif i==j then
     (match takeN sz cs with
     | some c=>match mkVal agg c with
      | some v=>k v
      | none=>none
     | none=>none)
  else aidx agg sz i n (j+1) (dropN sz cs) k
def aref {X:Type} (sz:Nat) (i:Int):Nat→Int→Nat→Nat→(AV→Option X)→Option X
 | 0,_,_,_,_=>none
 | n+1,j,r,o,k=>bif i==j then k (.ref r o) else aref sz i n (j+1) r (o+sz) k
def aimm {X:Type} (sz:Nat) (i:Int):Nat→Int→List AV→(AV→Option X)→Option X
 | 0,_,_,_=>none
 | n+1,j,cs,k=>bif i==j then k (.imm cs) else aimm sz i n (j+1) (dropN sz cs) k
def buildS (tab:Nat→Option TI) (fs:List (Nat×Nat)) (e:Env):List (Nat×Operand)→List AV→Option (List AV)
 | [],cs=>some cs
 | (i, x)::r,cs=>match nth fs i with
  | some (off,t)=>match tab t with
   | some ti=>(match splice off (cellsOf (typ ti.ty (ev e x))) cs with
    | some cs=>bif Nat.beq (cellsOf (typ ti.ty (ev e x))).length ti.size&&Nat.blt 0 ti.size then buildS tab fs e r cs else none
    | none=>none)
   | none=>none
  | none=>none
def buildA (ti:TI) (e:Env):List (Nat×Operand)→List AV→Option (List AV)
 | [],cs=>some cs
 | (i,x)::r,cs=>match splice (i*ti.size) (cellsOf (typ ti.ty (ev e x))) cs with
  | some cs=>bif Nat.beq (cellsOf (typ ti.ty (ev e x))).length ti.size&&Nat.blt 0 ti.size then buildA ti e r cs else none
  | none=>none
def buildSl (τ:Ty) (e:Env):Nat→List (Nat×Operand)→Option (List τ.den)
 | _,[]=>some []
 | n, (i,x)::r=>bif Nat.beq n i then
  (match fromAV τ (typ (some τ) (ev e x)) with
  | some v=>match buildSl τ e (n+1) r with
   | some l=>some (v::l)
   | none=>none
  | none=>none)
  else none
def buildIm (ti:TI) (e:Env):Nat→List (Nat×Operand)→Option (List AV)
 | _,[]=>some []
 | n,(i,x)::r=>bif Nat.beq n i&&Nat.beq (cellsOf (ev e x)).length ti.size&&oneL (cellsOf (ev e x)) then
  (match buildIm ti e (n+1) r with
  | some l=>some (cellsOf (ev e x)++l)
  | none=>none)
  else none
def rn1 (ks:List Bool) (tm:Nat) (tk nw:List (Option Nat)):AV→AV×List (Option Nat)×List (Option Nat)
 | .sl τ l .full=>(.sl τ l (.own (tm+nw.length)),tk,nw++[some l.length])
 | .sl τ l (.own t)=>bif Nat.blt t tm&&(nth ks t).getD true then (.sl τ l (.own t),tk,nw) else (.sl τ l (.own (tm+nw.length)),upd tk t none,nw++[(nth tk t).getD none])
 | .sl τ l _=>(.sl τ l .unk,tk,nw)
 | .tup _=>(.any,tk,nw)
 | v=>(v,tk,nw)
def rnL (ks:List Bool) (tm:Nat) (tk nw:List (Option Nat)):List AV→List AV×List (Option Nat)×List (Option Nat)
 | []=>([],tk,nw)
 | v::vs=>let r:=rn1 ks tm tk nw v; let q:=rnL ks tm r.2.1 r.2.2 vs; (r.1::q.1,q.2)
def rn (ks:List Bool) (tm:Nat) (tk nw:List (Option Nat)):AV→AV×List (Option Nat)×List (Option Nat)
 | .agg cs=>let r:=rnL ks tm tk nw cs; (.agg r.1,r.2)
 | v=>rn1 ks tm tk nw v
def rnE (ks:List Bool) (tm:Nat) (tk nw:List (Option Nat)):Env→Env×List (Option Nat)×List (Option Nat)
 | []=>([],tk,nw)
 | (d,v)::e=>let r:=rn ks tm tk nw v; let q:=rnE ks tm r.2.1 r.2.2 e; ((d,r.1)::q.1,q.2)
def rnB (ks:List Bool) (tm:Nat) (tk nw:List (Option Nat)):List (List AV)→List (List AV)×List (Option Nat)×List (Option Nat)
 | []=>([],tk,nw)
 | cs::b=>let r:=rnL ks tm tk nw cs; let q:=rnB ks tm r.2.1 r.2.2 b; (r.1::q.1,q.2)
mutual
def okF (m tm lm:Nat):AV→Bool
 | .ref r _=>Nat.blt r m
 | .ms r _ _ _=>Nat.blt r m
 | .ep r _ _ _ _=>Nat.blt r m
 | .row _ τ _=>Nat.blt 0 τ.size
 | .bcell r _=>Nat.blt r m
 | .mref r=>Nat.blt r m
 | .imms _ cs=>okFL m tm lm cs
 | .yield j=>Nat.blt j lm
 | .sl _ _ c=>match c with
  | .own t=>Nat.blt t tm
  | _=>true
 | .agg cs=>okFL m tm lm cs
 | .tup cs=>okFL m tm lm cs
 | .imm cs=>okFL m tm lm cs
 | .fn _ a b=>okFL m tm lm a&&okFL m tm lm b
 | _=>true
def okFL (m tm lm:Nat):List AV→Bool
 | []=>true
 | v::vs=>okF m tm lm v&&okFL m tm lm vs
end
def okR1 (m tm lm:Nat):AV→Bool
 | .sl _ _ _=>true
 | .tup _=>true
 | v=>okF m tm lm v
def okRL (m tm lm:Nat):List AV→Bool
 | []=>true
 | v::vs=>okR1 m tm lm v&&okRL m tm lm vs
def okR (m tm lm:Nat):AV→Bool
 | .agg cs=>okRL m tm lm cs
 | v=>okR1 m tm lm v
def okRB (m tm lm:Nat):List (List AV)→Bool
 | []=>true
 | cs::b=>okRL m tm lm cs&&okRB m tm lm b
def okRE (m tm lm:Nat):Env→Bool
 | []=>true
 | (_,v)::e=>okR m tm lm v&&okRE m tm lm e
def takeL {α:Type}:Nat→List α→List α
 | 0,_=>[]
 | _+1,[]=>[]
 | n+1,a::l=>a::takeL n l
def live (lv:List Nat) (e:Env):Env:=lv.map fun t=>(t,get e t)
def maskT {α:Type}:List Bool→List (Option α)→List (Option α)
 | true::ks,a::l=>a::maskT ks l
 | false::ks,_::l=>none::maskT ks l
 | _,l=>l
def normO (ks:List Bool) (B:Base) (e1:Env) (b1:List (List AV)) (m tm lm:Nat) (h:H):Option (Env×H):=
 bif Nat.ble B.nb m&&Nat.ble B.nt tm&&Nat.ble B.nl lm&&Nat.ble m h.bx.length&&Nat.ble tm h.tk.length&&Nat.ble lm h.lp.length&&okRE m tm lm e1&&okRB m tm lm b1 then
  let r:=rnE ks tm h.tk [] e1
  let q:=rnB ks tm r.2.1 r.2.2 b1
  some (r.1,{ bx:=q.1,tk:=maskT ks (takeL tm q.2.1++q.2.2),lp:=takeL lm h.lp })
 else none
mutual
def coA:SV→AV→AV
 | .sl τ c,a=>match a with
  | .sl τ' l c'=>match c with
   | .unk => .sl τ' l .unk
   | _ => .sl τ' l c'
  | .nils=>match c with
   | .unk => .sl τ [] .unk
   | _ => .sl τ [] .full
  | a=>a
 | .const v,a=>match v with
  | .any => .any
  | _=>a
 | .agg vs,a=>match a with
  | .agg cs => .agg (coL vs cs)
  | a=>a
 | .fn _ p q,a=>match a with
  | .fn g x y => .fn g (coL p x) (coL q y)
  | a=>a
 | _,a=>a
def coL:List SV→List AV→List AV
 | [],cs=>cs
 | v::vs,cs=>match cs with
  | c::cs=>coA v c::coL vs cs
  | []=>[]
end
def coE (e:Env):List (Nat×SV)→Env
 | []=>[]
 | (t,s)::vs=>(t,coA s (get e t))::coE e vs
def coB:List (List SV)→List (List AV)→List (List AV)
 | [],b=>b
 | v::vs,b=>match b with
  | c::b=>(bif isRow c then c else coL v c)::coB vs b
  | []=>[]
mutual
def mat (tk:List (Option Nat)):AV→AV×List (Option Nat)
 | .sl τ l c=>match c with
  | .fresh=>(.sl τ l (.own tk.length),tk++[some l.length])
  | c=>(.sl τ l c,tk)
 | .agg cs=>let r:=matL tk cs; (.agg r.1,r.2)
 | .tup cs=>let r:=matL tk cs; (.tup r.1,r.2)
 | v=>(v,tk)
def matL (tk:List (Option Nat)):List AV→List AV×List (Option Nat)
 | []=>([],tk)
 | v::vs=>let r:=mat tk v; let q:=matL r.2 vs; (r.1::q.1,q.2)
end
mutual
def AV.beq:AV→AV→Bool
 | .any,.any=>true
 | .bool a,.bool b=>a==b
 | .nils,.nils=>true
 | .nilp,.nilp=>true
 | .nilfn,.nilfn=>true
 | .ref a b,.ref c d=>Nat.beq a c&&Nat.beq b d
 | .yield a,.yield b=>Nat.beq a b
 | .fn f a b,.fn g c d=>Nat.beq f g&&beqAL a c&&beqAL b d
 | .err a,.err b=>a==b
 | .imms n a,.imms m b=>Nat.beq n m&&beqAL a b
 | .bcell a b,.bcell c d=>Nat.beq a c&&Nat.beq b d
 | .mref a,.mref b=>Nat.beq a b
 | .fmp a,.fmp b=>decide (a=b)
 | _,_=>false
def beqAL:List AV→List AV→Bool
 | [],[]=>true
 | a::aS,b::bs=>a.beq b&&beqAL aS bs
 | _,_=>false
end
def Cap.beq:Cap→Cap→Bool
 | .full,.full=>true
 | .own a,.own b=>Nat.beq a b
 | .unk,.unk=>true
 | .fresh,.fresh=>true
 | _,_=>false
mutual
def SV.dec:(s:SV)→AV→Option s.den
 | .int k,a=>match a with
  | .int k' n=>if k=k' then some n else none
  | _=>none
 | .bool,a=>match a with
  | .bool b=>some b
  | _=>none
 | .str,a=>match a with
  | .str l=>some l
  | _=>none
 | .sl τ c,a=>match a with
  | .sl τ' l c'=>bif c.beq c' then castSl τ' τ l else none
  | _=>none
 | .err,a=>match a with
  | .err b=>some b
  | _=>none
 | .const v,a=>bif v.beq a then some () else none
 | .agg vs,a=>match a with
  | .agg cs=>sdecL vs cs
  | _=>none
 | .fn f p q,a=>match a with
  | .fn g x y=>bif Nat.beq f g then (match sdecL p x with
   | some x=>match sdecL q y with
    | some y=>some (x,y)
    | none=>none
   | none=>none) else none
  | _=>none
 | .row τ,a=>match a with
  | .row v τ' l=>match castSl τ' τ l with
   | some l=>some (v,l)
   | none=>none
  | _=>none
 | .ms r τ,a=>match a with
  | .ms r' v n τ'=>bif Nat.beq r r'&&τ.beq τ' then some (v,n) else none
  | _=>none
 | .mp,a=>match a with
  | .mp l=>some l
  | _=>none
def sdecL:(vs:List SV)→List AV→Option (sdenL vs)
 | [],cs=>match cs with
  | []=>some ()
  | _=>none
 | v :: vs,cs=>match cs with
  | c :: cs=>match v.dec c with
   | some x=>match sdecL vs cs with
    | some y=>some (x,y)
    | none=>none
   | none=>none
  | []=>none
end
def sdecE:(vs:List (Nat×SV))→Env→Option (sdenE vs)
 | [],e=>match e with
  | []=>some ()
  | _=>none
 | v :: vs,e=>match e with
  | c :: e=>bif Nat.beq v.1 c.1 then (match v.2.dec c.2 with
   | some x=>match sdecE vs e with
    | some y=>some (x,y)
    | none=>none
   | none=>none) else none
  | []=>none
def sdecB:(vs:List (List SV))→List (List AV)→Option (sdenB vs)
 | [],b=>match b with
  | []=>some ()
  | _=>none
 | v :: vs,b=>match b with
  | c :: b=>match sdecL v c with
   | some x=>match sdecB vs b with
    | some y=>some (x,y)
    | none=>none
   | none=>none
  | []=>none
def sdecT:(vs:List Bool)→List (Option Nat)→Option (sdenT vs)
 | [],b=>match b with
  | []=>some ()
  | _=>none
 | true::vs,b=>match b with
  | some n::b=>match sdecT vs b with
   | some y=>some (n,y)
   | none=>none
  | _=>none
 | false::vs,b=>match b with
  | none::b=>sdecT vs b
  | _=>none
def LS.beq:LS→LS→Bool
 | .ready,.ready=>true
 | .busy,.busy=>true
 | .done .ret,.done .ret=>true
 | .done (.ex i),.done (.ex j)=>Nat.beq i j
 | _,_=>false
def lsBeq:List LS→List LS→Bool
 | [],[]=>true
 | a::aS,b::bs=>a.beq b&&lsBeq aS bs
 | _,_=>false
def sdecY:(vs:List (Nat×Nat×Nat×List (Nat×SV)))→Ys→Option (sdenY vs)
 | [],y=>match y with
  | []=>some ()
  | _=>none
 | v :: vs,y=>match y with
  | c :: y=>bif Nat.beq v.1 c.1&&Nat.beq v.2.1 c.2.g&&Nat.beq v.2.2.1 c.2.i then (match sdecE v.2.2.2 c.2.e with
   | some x=>match sdecY vs y with
    | some z=>some (x,z)
    | none=>none
   | none=>none) else none
  | []=>none
def Shape.dec (s:Shape) (Y:Ys) (e:Env) (h:H):Option s.den:=
 match sdecE s.env e with
 | some a=>match sdecB s.bx h.bx with
  | some b=>match sdecT s.tk h.tk with
   | some c=>bif lsBeq s.lp h.lp then (match sdecY s.ys Y with
    | some d=>some (a,b,c,d)
    | none=>none) else none
   | none=>none
  | none=>none
 | none=>none
def Shape.lv (s:Shape):List Nat:=s.env.map (·.1)
def Shape.fit (s:Shape) (B:Base) (Y:Ys) (e:Env) (h:H):Option s.den:=
 match normO s.tk B (coE e s.env) (coB s.bx (takeL s.m h.bx)) s.m s.tm s.lm h with
 | some (e,h)=>s.dec Y e h
 | none=>none
mutual
def dataA:AV→Bool
 | .bool _=>true
 | .int _ _=>true
 | .str _=>true
 | .sl _ _ _=>true
 | .nils=>true
 | .err _=>true
 | .agg cs=>dataL cs
 | _=>false
def dataL:List AV→Bool
 | []=>true
 | v::vs=>dataA v&&dataL vs
end
mutual
def dc:AV→AV
 | .sl τ l _ => .sl τ l .unk
 | .agg cs => .agg (dcL cs)
 | v=>v
def dcL:List AV→List AV
 | []=>[]
 | v::vs=>dc v::dcL vs
end
mutual
def shA (n:Nat):AV→AV
 | .sl τ l c=>match c with
  | .own t => .sl τ l (.own (n+t))
  | c => .sl τ l c
 | .agg cs => .agg (shL n cs)
 | .tup cs => .tup (shL n cs)
 | .imm cs => .imm (shL n cs)
 | .imms m cs => .imms m (shL n cs)
 | .fn f a b => .fn f (shL n a) (shL n b)
 | v=>v
def shL (n:Nat):List AV→List AV
 | []=>[]
 | v::vs=>shA n v::shL n vs
end
section
variable {X:Type} (cx:Cx X)
def evs (e:Env) (ts:List Nat):List Operand→List AV
 | []=>[]
 | x::xs=>match ts with
  | t::ts=>typA ((cx.tab t).bind (·.ty)) (ev e x)::evs e ts xs
  | []=>ev e x::evs e [] xs
def grow (τ:Ty) (l m:List τ.den) (c:Cap) (bytes:Nat) (h:H) (k:AV→H→Option X):Option X:=
 bif decide ((l.length+m.length)*bytes≤2 ^ 46)&&decide (0<bytes∧bytes≤2 ^ 20) then
  match c with
  | .full=>k (.sl τ (l++m) (.own h.tk.length)) { h with tk:=h.tk++[some (l++m).length] }
  | .own t=>match nth h.tk t with
   | some (some n)=>bif Nat.beq n l.length then k (.sl τ (l++m) (.own t)) { h with tk:=upd h.tk t (some (l++m).length) } else none
   | _=>none
  | _=>none
 else none
def appendA (t:Nat) (s x:AV) (h:H) (k:AV→H→Option X):Option X:=
 match cx.tab t with
 | some { d:=.slice et,.. }=>match cx.tab et with
  | some ti=>match typ (ti.ty.map .sl) s,typ (ti.ty.map .sl) x with
   | .sl τ l c,.sl τ' m _=>match castSl τ' τ m with
    | some m=>bif Nat.beq ti.size τ.size&&Nat.beq ti.zero.length ti.size&&Nat.blt 0 ti.size then grow τ l m c ti.bytes h k else none
    | none=>none
   | .sl .u8 l c,.str m=>bif Nat.beq ti.size 1&&Nat.beq ti.zero.length ti.size then grow .u8 l m c ti.bytes h k else none
   | _,_=>none
  | none=>none
 | _=>none
def builtinA (b:Builtin) (ts:List Nat) (args:List AV) (h:H) (k:AV→H→Option X):Option X:=
 match b,args with
 | .len,[x]=>match ts with
  | t :: _=>match cx.tab t with
   | some { d:=.arr n _,.. }=>k (.int .i64 n) h
   | some { d:=.str,.. }=>match x with
    | .str s=>k (.int .i64 s.length) h
    | _=>none
   | some { d:=.slice _,.. }=>match x with
    | .sl _ l _=>k (.int .i64 l.length) h
    | .nils=>k (.int .i64 0) h
    | .imms n _=>k (.int .i64 n) h
    | _=>none
   | _=>none
  | []=>none
 | .append,[s,x]=>match ts with
  | t::t2::_=>match cx.tab t2 with
   | some { d:=.slice _,.. }=>appendA cx t s x h k
   | some { d:=.str,.. }=>appendA cx t s x h k
   | _=>none
  | _=>none
 | .min,[.int q a,.int q' b]=>if q=q' then k (.int q (if b<a then b else a)) h else none
 | .max,[.int q a,.int q' b]=>if q=q' then k (.int q (if b>a then b else a)) h else none
 | _,_=>none
def rowK (h:H) (r v:Nat) (τ:Ty) (k:List τ.den→Option X):Option X:=
 match nth h.bx r with
 | some cs=>match cs with
  | [.row v' τ' l]=>match castSl τ' τ l with
   | some l=>bif Nat.beq v v' then k l else none
   | none=>none
  | _=>none
 | none=>none
def prK (p:Pr) (args:List AV) (h:H) (k:AV→H→Option X):Option X:=
 match p,args with
 | .bcheck T,[.ref r 0]=>match nth h.bx r with
  | some [.bcell r' T',_]=>bif Nat.beq r r'&&Nat.beq T T' then k (.tup []) h else none
  | _=>none
 | .bstring T E,[.ref r 0]=>match nth h.bx r with
  | some [.bcell r' T',.ms q v n (.u8t E')]=>bif Nat.beq r r'&&Nat.beq T T'&&Nat.beq E E' then rowK h q v (.u8t E') fun l=>bif l.isEmpty then none else k (.str l) { h with bx:=upd h.bx q [.row (v+1) (.u8t E') []] } else none
  | _=>none
 | .sort τ f F,[.ms r v n τ',.fn f' [] []]=>bif τ.beq τ'&&Nat.beq f f' then rowK h r v τ fun l=>bif Nat.beq (F l).length l.length&&Nat.blt l.length strMax then k (.tup []) { h with bx:=upd h.bx r [.row v τ (F l)] } else none else none
 | .rd F,.ref r 0::as=>match nth h.bx r with
  | some cs=>bif isRow cs then none else match F cs as with
   | some v=>k v h
   | none=>none
  | none=>none
 | .fmts es,[]=>k (.mref h.bx.length) { h with bx:=h.bx++[[.fmp es]] }
 | _,_=>none
def lookY:Ys→Nat→Option HD
 | [],_=>none
 | (i,hd)::Y,j=>bif Nat.beq i j then some hd else lookY Y j
def isMs:AV→Bool
 | .ms _ _ _ _=>true
 | _=>false
def isEp:AV→Bool
 | .ep _ _ _ _ _=>true
 | _=>false
def frzK (a:AV) (h:H) (k:AV→H→Option X):Option X:=
 match a with
 | .ms r v _ τ=>rowK h r v τ fun l=>k (.sl τ l .unk) { h with bx:=upd h.bx r [.row (v+1) τ []] }
 | a=>k a h
def frzL:List AV→H→(List AV→H→Option X)→Option X
 | [],h,k=>k [] h
 | a::as,h,k=>frzK a h fun a h=>frzL as h fun as h=>k (a::as) h
def PAN:Nat:=1000000
def tryBx (q:Nat) (l:List UInt8):List (List AV):=[[.int .i64 0],[.int .i64 0,.int .i64 0],[.ref (q+3) 0],[.sl .u8 l .unk,.int .i64 0,.int .i64 0,.int .i64 0,.bool true]]
def tryEnd (q:Nat) (h:H) (k:AV→H→Option X):Option X:=match nth h.bx (q+3),nth h.bx (q+2),nth h.bx (q+1),nth h.bx q with
 | some [.sl τ l s,.int .i64 a,.int .i64 c,.int .i64 i,.bool _],some [.ref q' 0],some [.int .i64 _,.int .i64 _],some [.int .i64 _] =>
  bif Nat.beq q' (q+3) then k (.tup [.int .i64 a,.agg [.int .i64 c,.int .i64 i]])
   { h with bx:=upd (upd (upd h.bx (q+3) [.sl τ l s,.int .i64 a,.int .i64 c,.int .i64 i,.bool false]) q [.int .i64 a]) (q+1) [.int .i64 c,.int .i64 i] } else none
 | _,_,_,_=>none
def tryA (O:Open X) (Y:Ys) (T:Nat) (args:List AV) (h:H) (k:AV→H→Option X):Option X:=match args with
 | [.sl .u8 l _,.fn f first cap]=>bif Nat.blt (h.bx.length+3) PAN&&Nat.ble l.length 70368744177664 then
  O (.tryc T (h.bx.length+3) f (first++[.ref (h.bx.length+3) 0]++cap)) Y { h with bx:=h.bx++tryBx h.bx.length l } fun _ h'=>tryEnd h.bx.length h' k
  else none
 | _=>none
def prT (O:Open X) (Y:Ys) (p:Pr) (args:List AV) (h:H) (k:AV→H→Option X):Option X:=match p with
 | .tryp T=>tryA O Y T args h k
 | p=>prK p args h k
def callA (O:Open X) (Y:Ys) (f:AV) (args:List AV) (h:H) (k:AV→H→Option X):Option X:=
 match f with
 | .fn g first cap=>match cx.pr g with
  | some p=>prT O Y p (first++args++cap) h k
  | none=>match cx.C g with
  | some orc=>bif dataL (first++args++cap) then
   match orc (dcL (first++args++cap)) with
   | some en=>en.o.bind fun y=>let r:=mat [] (en.enc y); k (shA h.tk.length r.1) { h with tk:=h.tk++r.2 }
   | none=>none
   else none
  | none=>O (.call g (first++args++cap)) Y h k
 | .yield j=>match lookY Y j with
  | some hd=>O (.round j hd args) Y h k
  | none=>none
 | _=>none
def needF (fa:AV) (args:List AV):Bool:=args.any isMs&&match fa with
 | .fn g _ _=>(cx.C g).isSome&&(cx.pr g).isNone
 | _=>false
def callF (O:Open X) (Y:Ys) (fa:AV) (args:List AV) (h:H) (k:AV→H→Option X):Option X:=
 bif needF cx fa args then frzL args h fun args h=>callA cx O Y fa args h k else callA cx O Y fa args h k
def bnd:Option AV→Option (Option Int)
 | none=>some none
 | some (.int _ i)=>some (some i)
 | some _=>none
def sliceA (d:TD) (x:AV) (lo hi mx:Option AV) (k:AV→Option X):Option X:=
 match bnd lo,bnd hi,bnd mx with
 | some lo,some hi,some mx=>match d,x with
  | .str,.str s=>match mx with
   | none=>(sub s (lo.getD 0) (hi.getD s.length)).bind fun r=>k (.str r)
   | some _=>none
  | .slice et,.sl τ l c=>match cx.tab et with
   | some ei=>bif Nat.beq ei.size τ.size then
    (match mx with
    | none=>(sub l (lo.getD 0) (hi.getD l.length)).bind fun r=>k (.sl τ r .unk)
    | some m=>match hi with
     | some hi=>bif hi==m then (sub l (lo.getD 0) hi).bind fun r=>k (.sl τ r .full) else none
     | none=>none)
    else none
   | none=>none
  | _,_=>none
 | _,_,_=>none
def lookF (es:List (Int×Nat)) (a:Int) (k:Option Nat→Option X):Option X:=
 match es with
 | []=>k none
 | (x,f)::es=>bif a==x then k (some f) else lookF es a k
theorem zqn (es:List (Int×Nat)) (a:Int) (k:Option Nat→Option X):lookF es a k=k ((es.find? fun p=>a==p.1).map (·.2)):=by
 induction es with
 | nil=>rfl
 | cons p es ih =>
  simp only [lookF,List.find?_cons]
  cases a==p.1
  · simpa using ih
  · rfl
noncomputable def opA (O:Open X) (Y:Ys) (o:Oper) (e:Env) (h:H) (k:AV→H→Option X):Option X:=
 match o.op with
 | .move x | .assign x=>k (typ ((cx.tab o.type).bind (·.ty)) (ev e x)) h
 | .pick c a b=>match ev e c with
  | .bool v=>bif v then k (ev e a) h else k (ev e b) h
  | _=>none
 | .alloc t=>match cx.tab t with
  | some ti=>bif Nat.beq ti.zero.length ti.size&&Nat.blt 0 ti.size then k (.ref h.bx.length 0) { h with bx:=h.bx++[ti.zero] } else none
  | none=>none
 | .box t x=>match cx.tab t with
  | some ti=>bif Nat.beq (cellsOf (typ ti.ty (ev e x))).length ti.size&&Nat.blt 0 ti.size&&noBld (cellsOf (typ ti.ty (ev e x))) then k (.ref h.bx.length 0) { h with bx:=h.bx++[cellsOf (typ ti.ty (ev e x))] } else none
  | none=>none
 | .build t parts=>match cx.tab t with
  | some ti=>bif Nat.beq ti.zero.length ti.size&&Nat.blt 0 ti.size then match ti.d with
   | .struct fs=>match buildS cx.tab fs e parts.toList ti.zero with
    | some cs=>k (.agg cs) h
    | none=>none
   | .arr _ et=>match cx.tab et with
    | some ei=>match buildA ei e parts.toList ti.zero with
     | some cs=>k (.agg cs) h
     | none=>none
    | none=>none
   | _=>none else none
  | none=>none
 | .buildSlice t len parts=>match cx.tab t with
  | some { d:=.slice et,.. }=>match cx.tab et with
   | some ti=>match ti.ty with
    | some τ=>match buildSl τ e 0 parts.toList with
     | some l=>bif Nat.beq l.length len&&Nat.beq ti.size τ.size&&Nat.ble (len*ti.size) 16777216&&Nat.beq ti.zero.length ti.size&&Nat.blt 0 ti.size then k (.sl τ l .full) h else none
     | none=>none
    | none=>match buildIm ti e 0 parts.toList with
     | some l=>bif Nat.beq parts.toList.length len&&Nat.ble (len*ti.size) 16777216&&Nat.beq ti.zero.length ti.size&&Nat.blt 0 ti.size&&Nat.blt 0 len then k (.imms len l) h else none
     | none=>none
   | none=>none
  | _=>none
 | .load t a=>match cx.tab t with
  | some ti=>match loadA ti (ev e a) h with
   | some v=>k v h
   | none=>none
  | none=>none
 | .store t a x=>match cx.tab t with
  | some ti=>match storeA ti (ev e a) (typ ti.ty (ev e x)) h with
   | some h=>k (.tup []) h
   | none=>none
  | none=>none
 | .nilCheck x=>match ev e x with
  | .ref r o=>k (.ref r o) h
  | .imm cs=>k (.imm cs) h
  | .fn f a b=>k (.fn f a b) h
  | .yield j=>k (.yield j) h
  | _=>none
 | .binOp op t x y _=>match ev e x,ev e y with
  | .err b,.err c=>match cx.tab t with
   | some { d:=.iface,.. }=>match op,y with
    | .eql,.const .nilIface=>k (.bool (!b)) h
    | .neq,.const .nilIface=>k (.bool b) h
    | _,_=>none
   | _=>none
  | .sl _ l _,.nils=>match cx.tab t with
   | some { d:=.slice _,.. }=>match op with
    | .eql=>bif l.isEmpty then both (k (.bool true) h) (k (.bool false) h) else k (.bool false) h
    | .neq=>bif l.isEmpty then both (k (.bool false) h) (k (.bool true) h) else k (.bool true) h
    | _=>none
   | _=>none
  | .agg aS,.agg bs=>match cx.tab t,eqL aS bs with
   | some ti,some b=>bif ti.cmp&&kindsB aS ti.zero then (match op with
    | .eql=>k (.bool b) h
    | .neq=>k (.bool (!b)) h
    | _=>none) else none
   | _,_=>none
  | a,b=>binA (match cx.tab t with | some ti=>ti.d | none => .other) op a b fun v=>k v h
 | .unOp op _ x=>unA op (ev e x) fun v=>k v h
 | .convert s d x=>match cx.tab s,cx.tab d,ev e x with
  | some { d:=.int _,.. },some { d:=.int q,.. },.int _ n=>k (.int q (q.wrap n)) h
  | some { d:=.str,.. },some { d:=.str,.. },.str s=>k (.str s) h
  | some { d:=.slice et,.. },some { d:=.str,.. },.sl .u8 l _=>match cx.tab et with
   | some { d:=.int .u8,.. }=>k (.str l) h
   | _=>none
  | some { d:=.str,.. },some { d:=.slice et,.. },.str s=>match cx.tab et with
   | some { d:=.int .u8,.. }=>k (.sl .u8 s (.own h.tk.length)) { h with tk:=h.tk++[some s.length] }
   | _=>none
  | _,_,_=>none
 | .lookup t m x true=>match cx.tab t with
  | some { d:=.map kt et,.. }=>match cx.tab kt,cx.tab et with
   | some { d:=.int .i64,.. },some { zero:=_::_,.. }=>match ev e m,ev e x with
    | .mref r,.int .i64 a=>match nth h.bx r with
     | some [.fmp es]=>lookF es a fun
      | some f=>k (.tup [.fn f [] [],.bool true]) h
      | none=>k (.tup [.any,.bool false]) h
     | _=>none
    | _,_=>none
   | _,_=>none
  | _=>none
 | .makeSlice t l c=>match cx.tab t with
  | some { d:=.slice et,.. }=>match cx.tab et with
   | some ei=>match ei.ty,ev e l,ev e c with
    | some τ,.int .i64 a,.int .i64 b=>bif (decide (a=0)&&(decide (0≤b)&&decide ((ei.bytes:Int)*b≤281474976710656)&&decide (b≤281474976710656)))&&(Nat.beq ei.size τ.size&&Nat.blt 0 ei.size&&Nat.beq ei.zero.length ei.size) then
     k (.sl τ [] (.own h.tk.length)) { h with tk:=h.tk++[some 0] } else none
    | _,_,_=>none
   | none=>none
  | _=>none
 | .makeFunc (.func f) first cap=>k (.fn f (first.toList.map (ev e)) (cap.toList.map (ev e))) h
 | .slice t x lo hi mx=>match cx.tab t with
  | some ti=>sliceA cx ti.d (ev e x) (lo.map (ev e)) (hi.map (ev e)) (mx.map (ev e)) fun v=>k v h
  | none=>none
 | .fieldAddr t x f=>match cx.tab t with
  | some { d:=.struct fs,.. }=>match nth fs f with
   | some (off,ft)=>match cx.tab ft with
    | some fi=>bif Nat.blt 0 fi.size then (match ev e x with
     | .ref r o=>k (.ref r (o+off)) h
     | .imm cs=>k (.imm (dropN off cs)) h
     | _=>none) else none
    | none=>none
   | none=>none
  | _=>none
 | .field t x f=>match cx.tab t with
  | some { d:=.struct fs,.. }=>match nth fs f with
   | some (off,ft)=>match cx.tab ft,ev e x with
    | some fi,.agg cs=>match takeN fi.size (dropN off cs) with
     | some cs=>match mkVal fi.agg cs with
      | some v=>k v h
      | none=>none
     | none=>none
    | _,_=>none
   | none=>none
  | _=>none
 | .indexAddr t x i=>match cx.tab t with
  | some { d:=.slice et,.. }=>match cx.tab et with
   | some ti=>match ev e x,ev e i with
    | .sl τ l _,.int _ i=>bif Nat.beq ti.size τ.size then (idx l i).bind fun x=>k (.imm (τ.cells x)) h else none
    | .imms n cs,.int _ i=>bif Nat.ble (n*ti.size) cs.length then aimm ti.size i n 0 cs fun v=>k v h else none
    | _,_=>none
   | none=>none
  | some { d:=.arr n et,.. }=>match cx.tab et with
   | some ti=>match ev e x,ev e i with
    | .ref r o,.int _ i=>aref ti.size i n 0 r o fun v=>k v h
    | _,_=>none
   | none=>none
  | _=>none
 | .index t x i=>match ev e x,ev e i with
  | .str s,.int _ i=>match cx.tab t with
   | some { d:=.str,.. }=>(idx s i).bind fun b=>k (.int .u8 b.toNat) h
   | _=>none
  | .agg cs,.int _ i=>match cx.tab t with
   | some { d:=.arr n et,.. }=>match cx.tab et with
    | some ei=>aidx ei.agg ei.size i n 0 cs fun v=>k v h
    | none=>none
   | _=>none
  | _,_=>none
 | .extract t i=>match ev e t with
  | .tup vs=>match nth vs i with
   | some v=>k v h
   | none=>none
  | _=>none
 | .call c=>match c.callee with
  | .builtin b=>builtinA cx b c.argTypes.toList (evs cx e c.argTypes.toList c.args.toList) h k
  | .value f=>callF cx O Y (ev e f) (evs cx e c.argTypes.toList c.args.toList) h k
  | _=>none
 | _=>none
def srcK (τ:Ty) (x:AV) (h:H) (k:List τ.den→Option X):Option X:=
 match x with
 | .str s=>(match τ,k with
  | .u8,k=>k s
  | .u8t _,k=>k s
  | _,_=>none)
 | .sl τ' m _=>match castSl τ' τ m with
  | some m=>k m
  | none=>none
 | .ms r v _ τ'=>match castSl τ' τ [] with
  | some _=>rowK h r v τ k
  | none=>none
 | _=>none
def tagOK (τ:Ty) (et:Nat):Bool:=match τ with
 | .u8t E=>Nat.beq E et
 | _=>true
def srcD (d:TD) (x:AV):Bool:=match d,x with
 | .slice _,.str _=>false
 | .slice _,_=>true
 | .str,.str _=>true
 | _,_=>false
def mpT (tab:Nat→Option TI) (t:Nat):Bool:=match tab t with
 | some { d:=.map k e,.. }=>match tab k,tab e with
  | some { d:=.str,.. },some { d:=.int .i64,zero:=_::_,.. }=>true
  | _,_=>false
 | _=>false
def mpGet:List (List UInt8×Int)→List UInt8→Option Int
 | [],_=>none
 | (k,v)::l,s=>bif k==s then some v else mpGet l s
def mpLook {X:Type} (l:List (List UInt8×Int)) (s:List UInt8) (k1:Int→Option X) (k0:Option X):Option X:=match mpGet l s with
 | some v=>k1 v
 | none=>k0
def mpSet:List (List UInt8×Int)→List UInt8→Int→List (List UInt8×Int)
 | [],s,n=>[(s,n)]
 | (k,v)::l,s,n=>bif k==s then (k,n)::l else (k,v)::mpSet l s n
def isRowOp (o:Oper) (e:Env):Bool:=match o.op with
 | .makeMap t _=>mpT cx.tab t
 | .lookup t _ _ _=>mpT cx.tab t
 | .mapUpdate t _ _ _=>mpT cx.tab t
 | .move x=>(match ev e x with | .nils=>(cx.rows o.type).isSome | _=>false)
 | .assign x=>(match ev e x with | .nils=>(cx.rows o.type).isSome | _=>false)
 | .buildSlice t _ _=>(cx.rows t).isSome
 | .load _ a=>isEp (ev e a)
 | .store _ a x=>isEp (ev e a)||isMs (ev e x)
 | .fieldAddr _ x _=>isEp (ev e x)
 | .indexAddr _ x _=>isMs (ev e x)
 | .slice _ x _ _ _=>isMs (ev e x)
 | .convert s d x=>Nat.beq s d&&isMs (ev e x)
 | .call c=>match c.callee with
  | .builtin .len=>(match c.args.toList with | x::_=>isMs (ev e x) | []=>false)
  | .builtin .append=>(match c.args.toList with | [s,x]=>isMs (ev e s)||isMs (ev e x) | _=>false)
  | _=>false
 | .alloc t=>(match cx.bt with | some T=>Nat.beq t T.1 | none=>false)
 | _=>false
def toBld (a:AV) (h:H):Bool:=match a with
 | .ref r _=>match nth h.bx r with
  | some (.bcell _ _::_)=>true
  | _=>false
 | _=>false
def softOp (o:Oper) (e:Env):Bool:=match o.op with
 | .lookup _ _ _ _=>true
 | .mapUpdate _ _ _ _=>true
 | .load _ _=>true
 | .store _ _ x => !isMs (ev e x)
 | .fieldAddr _ _ _=>true
 | .indexAddr _ _ _=>true
 | .call c=>match c.callee with
  | .builtin .len=>true
  | _=>false
 | _=>false
def newRowK (ty:Nat) (h:H) (k:AV→H→Option X):Option X:=
 match cx.rows ty with
 | some τ=>bif Nat.blt 0 τ.size then k (.ms h.bx.length 1 0 τ) { h with bx:=h.bx++[[.row 1 τ []]] } else none
 | none=>none
def opR (o : Oper) (e:Env) (h:H) (k:AV→H→Option X):Option X:=
 match o.op with
 | .makeMap t none=>bif mpT cx.tab t then k (.mref h.bx.length) { h with bx:=h.bx++[[.mp []]] } else none
 | .lookup t m x true=>bif mpT cx.tab t then match ev e m,ev e x with
  | .mref r,.str s=>match nth h.bx r with
   | some [.mp l]=>mpLook l s (fun v=>k (.tup [.int .i64 v,.bool true]) h) (k (.tup [.any,.bool false]) h)
   | _=>none
  | _,_=>none
  else none
 | .mapUpdate t m x y=>bif mpT cx.tab t then match ev e m,ev e x,ev e y with
  | .mref r,.str s,.int .i64 n=>match nth h.bx r with
   | some [.mp l]=>k (.tup []) { h with bx:=upd h.bx r [.mp (mpSet l s n)] }
   | _=>none
  | _,_,_=>none
  else none
 | .move _=>newRowK cx o.type h k
 | .assign _=>newRowK cx o.type h k
 | .buildSlice t len parts=>match cx.tab t with
  | some { d:=.slice et,.. }=>match cx.tab et with
   | some ti=>match ti.ty with
    | some τ=>match buildSl τ e 0 parts.toList with
     | some l=>bif Nat.beq l.length len&&Nat.beq ti.size τ.size&&Nat.ble (len*ti.size) 16777216&&Nat.beq ti.zero.length ti.size&&Nat.blt 0 ti.size&&tagOK τ et then k (.ms h.bx.length 1 len τ) { h with bx:=h.bx++[[.row 1 τ l]] } else none
     | none=>none
    | none=>none
   | none=>none
  | _=>none
 | .load t a=>match cx.tab t with
  | some ti=>match ev e a with
   | .ep r v i off τ=>rowK h r v τ fun l=>(idx l i).bind fun x=>match takeN ti.size (dropN off (τ.cells x)) with
    | some cs=>match mkVal ti.agg cs with
     | some v=>k v h
     | none=>none
    | none=>none
   | _=>none
  | none=>none
 | .store t a x=>match cx.tab t with
  | some ti => match ev e a with
   | .ep r v i off τ=>bif Nat.beq (cellsOf (typ ti.ty (ev e x))).length ti.size&&oneL (cellsOf (typ ti.ty (ev e x)))&&Nat.blt 0 ti.size then
    rowK h r v τ fun l=>(idx l i).bind fun y=>match splice off (cellsOf (typ ti.ty (ev e x))) (τ.cells y) with
     | some ds=>match τ.of ds with
      | some (z,[])=>k (.tup []) { h with bx:=upd h.bx r [.row v τ (upd l i.toNat z)] }
      | _=>none
     | none=>none
    else none
   | a => bif toBld a h then
       (match storeA ti a (typ ti.ty (ev e x)) h with
       | some h=>k (.tup []) h
       | none=>none)
    else frzK (typ ti.ty (ev e x)) h fun v h=>match storeA ti a v h with
    | some h=>k (.tup []) h
    | none=>none
  | none=>none
 | .fieldAddr t x f=>match cx.tab t with
  | some { d:=.struct fs,.. }=>match nth fs f with
   | some (off,ft)=>match cx.tab ft with
    | some fi=>bif Nat.blt 0 fi.size then (match ev e x with
     | .ep r v i o τ=>k (.ep r v i (o+off) τ) h
     | _=>none) else none
    | none=>none
   | none=>none
  | _=>none
 | .indexAddr t x i=>match cx.tab t with
  | some { d:=.slice et,.. }=>match cx.tab et with
   | some ti=>match ev e x,ev e i with
    | .ms r v n τ,.int _ i=>bif Nat.beq ti.size τ.size&&(decide (0≤i)&&decide (i<n)) then k (.ep r v i 0 τ) h else none
    | _,_=>none
   | none=>none
  | _=>none
 | .slice t x lo hi mx=>match cx.tab t with
  | some ti=>frzK (ev e x) h fun x h=>sliceA cx ti.d x (lo.map (ev e)) (hi.map (ev e)) (mx.map (ev e)) fun v=>k v h
  | none=>none
 | .convert s d x=>bif Nat.beq s d then (match cx.tab s with
  | some { d:=.slice et,.. }=>match cx.tab et with
   | some { d:=.int .u8,.. }=>match ev e x with
    | .ms r v n τ=>bif Nat.blt 0 n then rowK h r v τ fun l=>k (.sl τ l (bif Nat.beq v 1 then .full else .unk)) { h with bx:=upd h.bx r [.row (v+1) τ []] } else none
    | _=>none
   | _=>none
  | _=>none) else none
 | .call c => match c.callee with
  | .builtin .len=>match c.argTypes.toList,c.args.toList with
   | [t],[x]=>match cx.tab t with
    | some { d:=.slice _,.. }=>match ev e x with
     | .ms _ _ n _=>k (.int .i64 n) h
     | _=>none
    | _=>none
   | _,_=>none
  | .builtin .append=>match c.argTypes.toList,c.args.toList with
   | [t, t2], [s,x]=>match cx.tab t,cx.tab t2 with
    | some { d:=.slice et,.. },some t2=>match cx.tab et with
     | some ti => match ev e s with
      | .ms r v _ τ=>bif srcD t2.d (ev e x)&&tagOK τ et then srcK τ (typ (ti.ty.map .sl) (ev e x)) h fun m=>rowK h r v τ fun l =>
       bif Nat.beq ti.size τ.size&&Nat.beq ti.zero.length ti.size&&Nat.blt 0 ti.size then
        bif decide ((l.length+m.length)*ti.bytes≤2 ^ 46)&&decide (0<ti.bytes∧ti.bytes≤2 ^ 20) then
         k (.ms r (v+1) (l++m).length τ) { h with bx:=upd h.bx r [.row (v+1) τ (l++m)] } else none
       else none
       else none
      | _=>frzL (evs cx e c.argTypes.toList c.args.toList) h fun as h=>builtinA cx .append c.argTypes.toList as h k
     | none=>none
    | _,_=>none
   | _,_=>none
  | _=>none
 | .alloc t=>match cx.bt with
  | some (T,E)=>bif Nat.beq t T then match cx.tab t with
   | some ti=>match ti.zero with
    | [.nilp,.sl .u8 [] .full]=>bif Nat.beq ti.size 2 then k (.ref (h.bx.length+1) 0) { h with bx:=(h.bx++[[.row 1 (.u8t E) []]])++[[.bcell (h.bx.length+1) T,.ms h.bx.length 1 0 (.u8t E)]] } else none
    | _=>none
   | none=>none else none
  | none=>none
 | _=>none
noncomputable def opX (O:Open X) (Y:Ys) (o:Oper) (e:Env) (h:H) (k:AV→H→Option X):Option X:=
 bif isRowOp cx o e then opR cx o e h k else opA cx O Y o e h k
def put (N:Nat) (e:Env) (d:Option Nat) (v:AV) (k:Env→Option X):Option X:=
 match d with
 | none=>k e
 | some d=>bif Nat.blt d N then k ((d,v)::e) else none
def dstOf (ops:List Oper) (j:Nat):Option Nat:=match nth ops j with
 | some o=>o.dst
 | none=>none
def mustOf (o:Oper) (e:Env):Option (AV×Nat):=match o.op with
 | .call c=>match c.callee,c.args.toList with
  | .value f,[x]=>match ev e f with
   | .fn g [] []=>match cx.pr g with
    | some (.must T)=>some (ev e x,T)
    | _=>none
   | _=>none
  | _,_=>none
 | _=>none
def mustA (a:AV) (T:Nat) (h:H) (pn:Nat→Option X) (k:Option X):Option X:=match a with
 | .ref q 0=>match nth h.bx q with
  | some [.sl _ _ _,_,.int .i64 c,.int .i64 i,.bool t]=>bif Nat.blt q PAN then bif t && !(c==0&&i==0) then pn (PAN*(T+1)+q) else k else none
  | _=>none
 | _=>none
noncomputable def opsA (O:Open X) (N:Nat) (Y:Ys) (all:List Oper) (pn:Nat→Env→H→Option X):List Oper→Env→H→(Env→H→Option X)→Option X
 | [],e,h,k=>k e h
 | o :: os,e,h,k=>match o.guard with
  | none=>match mustOf cx o e with
   | some (a,T)=>mustA a T h (fun i=>pn i e h) (put N e o.dst (.tup []) fun e=>opsA O N Y all pn os e h k)
   | none=>opX cx O Y o e h fun v h=>put N e o.dst v fun e=>opsA O N Y all pn os e h k
  | some (j,w)=>match dstOf all j with
   | some d=>match get e d with
    | .bool b =>
     let run:=opX cx O Y o ((d,.bool w)::e) h fun v h=>put N ((d,.bool w)::e) o.dst v fun e=>opsA O N Y all pn os e h k
     let pass:=put N ((d,.bool (!w))::e) o.dst (.tup []) fun e=>opsA O N Y all pn os e h k
     match w with
     | true=>bif b then run else pass
     | false=>bif b then pass else run
    | .tup _=>put N e o.dst (.tup []) fun e=>opsA O N Y all pn os e h k
    | _=>none
   | none=>none
def rid:Code→Option Nat
 | .region i _ _=>some i
 | .seq a b=>match rid a with
  | some i=>some i
  | none=>rid b
 | .cond _ a b=>match rid a with
  | some i=>some i
  | none=>rid b
 | .block _ b=>rid b
 | .loop b=>rid b
 | .scope b=>rid b
 | .rangeFunc _ _ a b=>match rid a with
  | some i=>some i
  | none=>rid b
 | _=>none
def loopN:Nat→((Env→H→Option X)→Env→H→Option X)→Env→H→Option X
 | 0,_,_,_=>none
 | n+1,b,e,h=>b (loopN n b) e h
def setLp (h:H) (j:Nat) (s:LS):H:={ h with lp:=upd h.lp j s }
def params (N:Nat) (e:Env):List Nat→List AV→Option Env
 | [],[]=>some e
 | p::ps,a::aS=>bif Nat.blt p N then params N ((p,a)::e) ps aS else none
 | _,_=>none
structure Fm where
 g:Nat
 N:Nat
 B:Base
 d:Nat
def Base.beq (a b:Base):Bool:=Nat.beq a.nb b.nb&&Nat.beq a.nt b.nt&&Nat.beq a.nl b.nl
def tryL {X:Type} (fm:Fm) (Y:Ys) (ks:Ks X) (e:Env) (h:H):List (LoopI X)→Option X
 | []=>none
 | li::l=>bif Nat.beq li.d fm.d&&li.B.beq fm.B then (match li.head.fit fm.B Y e h with
  | some s=>li.f ks s
  | none=>tryL fm Y ks e h l) else tryL fm Y ks e h l
def tryC {X:Type} (fm:Fm) (Y:Ys) (ks:Ks X) (e:Env) (h:H):List (CutI X)→Option X
 | []=>none
 | ci::l=>bif Nat.beq ci.d fm.d&&ci.B.beq fm.B then (match ci.head.fit fm.B Y e h with
  | some s=>ci.f ks s
  | none=>tryC fm Y ks e h l) else tryC fm Y ks e h l
def loopsAt (g:Nat) (b:Code):List (LoopI X):=match rid b with
 | some i=>cx.loops g i
 | none=>[]
def cutsAt (g:Nat) (b:Code):List (CutI X):=match rid b with
 | some i=>cx.cuts g i
 | none=>[]
def unrollAt (g:Nat) (b:Code):Nat:=match rid b with
 | some i=>cx.unroll g i
 | none=>0
def makesBox (o:Oper):Bool:=match o.op with
 | .alloc _=>true
 | .box _ _=>true
 | _=>false
def rankOf:List Oper→Nat→Nat
 | [],_=>0
 | _::_,0=>0
 | o::os,i+1=>bif makesBox o then rankOf os i+1 else rankOf os i
def hole:List AV:=[.row 0 (.agg []) []]
def isHole:List AV→Bool
 | [.row 0 (.agg []) []]=>true
 | _=>false
def holes:Nat→List (List AV)
 | 0=>[]
 | n+1=>hole::holes n
def fillK (q:Nat) (cs:List AV) (h:H) (k:AV→H→Option X):Option X:=
 match nth h.bx q with
 | some c=>bif isHole c then k (.ref q 0) { h with bx:=upd h.bx q cs } else none
 | none=>none
noncomputable def opP (q:Nat) (O:Open X) (Y:Ys) (o:Oper) (e:Env) (h:H) (k:AV→H→Option X):Option X:=
 match o.op with
 | .alloc t=>match cx.tab t with
  | some ti=>bif Nat.beq ti.zero.length ti.size&&Nat.blt 0 ti.size then fillK q ti.zero h k else none
  | none=>none
 | .box t x=>match cx.tab t with
  | some ti=>bif Nat.beq (cellsOf (typ ti.ty (ev e x))).length ti.size&&Nat.blt 0 ti.size&&noBld (cellsOf (typ ti.ty (ev e x))) then fillK q (cellsOf (typ ti.ty (ev e x))) h k else none
  | none=>none
 | _=>opX cx O Y o e h k
def accC (f:AV) (xs:List Operand) (e:Env):Option Nat:=match f,xs with
 | .fn _ [] [],x::_=>match ev e x with
  | .ref q _=>some q
  | _=>none
 | _,_=>none
def isRd:Option Pr→Bool
 | some (.rd _)=>true
 | _=>false
def rdK (tab:Nat→Option TI):List Nat→Bool
 | t::_=>match tab t with
  | some { d:=.ptr,.. }=>true
  | _=>false
 | []=>false
def accOf (q:Nat) (o:Oper) (e:Env):Option Nat:=match o.op with
 | .call c=>match c.callee with
  | .value f=>accC (ev e f) c.args.toList e
  | _=>none
 | .load _ a=>match ev e a with
  | .ref q _=>some q
  | .ep q _ _ _ _=>some q
  | _=>none
 | .store _ a _=>match ev e a with
  | .ref q _=>some q
  | .ep q _ _ _ _=>some q
  | _=>none
 | .alloc _=>some q
 | .box _ _=>some q
 | .lookup _ m _ _=>match ev e m with
  | .mref q=>some q
  | _=>none
 | .mapUpdate _ m _ _=>match ev e m with
  | .mref q=>some q
  | _=>none
 | _=>none
def inConf (j i:Nat):List (Nat×Nat)→Bool
 | []=>false
 | (a,b)::l=>(Nat.beq a j&&Nat.beq b i)||inConf j i l
def clash (conf:List (Nat×Nat)) (i q:Nat):List (Nat×Nat)→Bool
 | []=>false
 | (j,q')::acc=>(Nat.beq q q'&&(inConf j i conf||inConf i j conf))||clash conf i q acc
def closedCall (o:Oper) (e:Env):Bool:=match o.op with
 | .binOp _ _ x y _=>match ev e x,ev e y with
  | .sl _ _ _,.nils=>false
  | _,_=>true
 | .call c=>match c.callee with
  | .builtin _=>true
  | .value f=>match ev e f with
   | .fn g fs cs=>((cx.C g).isSome&&((cx.pr g).isNone && !((evs cx e c.argTypes.toList c.args.toList).any isMs)))||(isRd (cx.pr g)&&(fs.isEmpty&&(cs.isEmpty&&rdK cx.tab c.argTypes.toList)))
   | _=>false
  | _=>false
 | .lookup _ _ _ _=>false
 | _=>true
def closedX (o:Oper) (e:Env):Bool:=bif isRowOp cx o e then softOp o e else closedCall cx o e
noncomputable def goD (conf:List (Nat×Nat)) (O:Open X) (N:Nat) (Y:Ys) (p:Nat) (i:Nat) (o:Oper) (e:Env) (h:H) (acc:List (Nat×Nat)) (k:Env→H→List (Nat×Nat)→Option X):Option X:=
 bif closedX cx o e then match accOf p o e with
  | some q=>bif clash conf i q acc then none else opP cx p O Y o e h fun v h=>put N e o.dst v fun e=>k e h ((i,q)::acc)
  | none=>opP cx p O Y o e h fun v h=>put N e o.dst v fun e=>k e h acc
 else none
open Classical in
noncomputable def eqK {X:Type} (a b:Option (List AV)) (k:Option X):Option X:=if a=b then k else none
noncomputable def eqAll {X:Type} (conf:List (Nat×Nat)) (i:Nat) (h h':H):List (Nat×Nat)→Option X→Option X
 | [],k=>k
 | (j,q)::acc,k=>bif inConf j i conf then eqK (nth h.bx q) (nth h'.bx q) (eqAll conf i h h' acc k) else eqAll conf i h h' acc k
noncomputable def bigD (conf:List (Nat×Nat)) (O:Open X) (N:Nat) (Y:Ys) (i:Nat) (o:Oper) (e:Env) (h:H) (acc:List (Nat×Nat)) (k:Env→H→List (Nat×Nat)→Option X):Option X:=
 match o.guard with
 | none=>opX cx O Y o e h fun v h'=>eqAll conf i h h' acc (put N e o.dst v fun e=>k e h' acc)
 | some _=>none
noncomputable def smallD (conf:List (Nat×Nat)) (O:Open X) (N:Nat) (Y:Ys) (nb:Nat) (all:List Oper) (i:Nat) (o:Oper) (e:Env) (h:H) (acc:List (Nat×Nat)) (k:Env→H→List (Nat×Nat)→Option X):Option X:=
 match o.guard with
 | none=>goD cx conf O N Y (nb+rankOf all i) i o e h acc k
 | some (j,w)=>match dstOf all j with
  | some d=>match get e d with
   | .bool b =>
    let run:=goD cx conf O N Y (nb+rankOf all i) i o ((d,.bool w)::e) h acc k
    let pass:=put N ((d,.bool (!w))::e) o.dst (.tup []) fun e=>k e h acc
    match w with
    | true=>bif b then run else pass
    | false=>bif b then pass else run
   | .tup _=>put N e o.dst (.tup []) fun e=>k e h acc
   | _=>none
  | none=>none
noncomputable def stepD (conf:List (Nat×Nat)) (O:Open X) (N:Nat) (Y:Ys) (nb:Nat) (all:List Oper) (i:Nat) (o:Oper) (e:Env) (h:H) (acc:List (Nat×Nat)) (k:Env→H→List (Nat×Nat)→Option X):Option X:=
 bif inConf i i conf then bigD cx conf O N Y i o e h acc k else smallD cx conf O N Y nb all i o e h acc k
noncomputable def opsD (conf:List (Nat×Nat)) (O:Open X) (N:Nat) (Y:Ys) (nb:Nat) (all:List Oper):List (Nat×Oper)→Env→H→List (Nat×Nat)→(Env→H→Option X)→Option X
 | [],e,h,_,k=>k e h
 | (i,o)::os,e,h,acc,k=>stepD cx conf O N Y nb all i o e h acc fun e h acc=>opsD conf O N Y nb all os e h acc k
def dstsOf:List Oper→List Nat
 | []=>[]
 | o::os=>match o.dst with
  | some d=>d::dstsOf os
  | none=>dstsOf os
def number {α:Type}:Nat→List α→List (Nat×α)
 | _,[]=>[]
 | n,a::l=>(n,a)::number (n+1) l
def appE:Env→Env→Env
 | [],e=>e
 | p::ps,e=>p::appE ps e
def ordOf:List (Nat×Nat)→List Nat
 | []=>[]
 | (a,b)::l=>bif Nat.beq a 1000 then b::ordOf l else ordOf l
def pickN (ops:List Oper):List Nat→List (Nat×Oper)
 | []=>[]
 | i::l=>match nth ops i with
  | some o=>(i,o)::pickN ops l
  | none=>pickN ops l
def ordL (conf:List (Nat×Nat)) (ops:List Oper):List (Nat×Oper):=match ordOf conf with
 | []=>number 0 ops
 | l=>pickN ops l
noncomputable def drawA (conf:List (Nat×Nat)) (O:Open X) (N:Nat) (Y:Ys) (ops:List Oper) (e:Env) (h:H) (k:Env→H→Option X):Option X:=
 opsD cx conf O N Y h.bx.length ops (ordL conf ops) e { h with bx:=h.bx++holes (rankOf ops ops.length) } [] fun e' h=>k (appE (live (dstsOf ops) e') e) h
noncomputable def exec (O:Open X) (fm:Fm) (Y:Ys):Code→Ks X→Env→H→Option X
 | .skip,ks,e,h=>ks.nxt e h
 | .label _,ks,e,h=>ks.nxt e h
 | .region i ops dr,ks,e,h=>match dr with
  | false=>opsA cx O fm.N Y ops.toList (fun i e h=>bif Nat.blt (i % PAN) fm.B.nb then ks.ex i e h else none) ops.toList e h ks.nxt
  | true=>drawA cx (cx.conf fm.g i) O fm.N Y ops.toList e h ks.nxt
 | .seq a b,ks,e,h =>
  match cutsAt cx fm.g b with
  | []=>exec O fm Y a { ks with nxt:=exec O fm Y b ks } e h
  | c::cs=>exec O fm Y a { ks with nxt:=fun e h=>tryC fm Y ks e h (c::cs) } e h
 | .cond c a b,ks,e,h=>match ev e c with
  | .bool v=>bif v then exec O fm Y a ks e h else exec O fm Y b ks e h
  | _=>none
 | .block i b,ks,e,h=>exec O fm Y b { ks with ex:=fun j e h=>bif Nat.beq j i then bif Nat.blt j PAN then ks.nxt e h else none else ks.ex j e h } e h
 | .scope b,ks,e,h=>exec O fm Y b ks e h
 | .loop b,ks,e,h=>match loopsAt cx fm.g b with
  | []=>loopN (unrollAt cx fm.g b) (fun k e h=>exec O fm Y b { ks with nxt:=k } e h) e h
  | l::ls=>tryL fm Y ks e h (l::ls)
 | .exit i,ks,e,h=>bif Nat.blt i PAN then ks.ex i e h else none
 | .ret,ks,e,h=>ks.ret e h
 | .rangeFunc f _ aS b,ks,e,h=>match ev e f,(match rid aS with | some i=>some i | none=>rid b) with
  | .fn g first cap,some i=>match cx.rfs fm.g i with
   | some (_,lv,_)=>O (.call g (first++[.yield h.lp.length]++cap)) ((h.lp.length,⟨fm.g,i,live lv e⟩)::Y) { h with lp:=h.lp++[.ready] } fun _ h' =>
    match nth h'.lp h.lp.length with
    | some .ready=>ks.nxt e (setLp h' h.lp.length .busy)
    | some (.done .ret)=>ks.ret e (setLp h' h.lp.length .busy)
    | some (.done (.ex i))=>bif Nat.blt i PAN then ks.ex i e (setLp h' h.lp.length .busy) else none
    | _=>none
   | none=>none
  | _,_=>none
 | _,_,_,_=>none
def fitL (B:Base) (k:Env→H→Option X) (e:Env) (h:H):List Shape→Option X
 | []=>none
 | s::ss=>match s.fit B [] e h with
  | some x=>k (s.e x) (s.h x)
  | none=>fitL B k e h ss
def fitX (B:Base) (k:Env→H→Option X) (i:Nat) (e:Env) (h:H):List (Nat×Shape)→Option X
 | []=>none
 | (j,s)::ss=>bif Nat.beq j i then (match s.fit B [] e h with
  | some x=>k (s.e x) (s.h x)
  | none=>fitX B k i e h ss) else fitX B k i e h ss
theorem zcf {B:Base} {k:Env→H→Option X} {e:Env} {h:H} {r:X}:∀ {l:List Shape},fitL B k e h l=some r→∃ (s:Shape) (x:s.den),s.fit B [] e h=some x∧k (s.e x) (s.h x)=some r
 | [],hk=>by simp [fitL] at hk
 | s :: ss,hk=>by
  simp only [fitL] at hk
  split at hk
  · rename_i x hf
    exact ⟨s,x,hf,hk⟩
  · exact zcf hk
theorem zbi {B:Base} {k:Env→H→Option X} {i:Nat} {e:Env} {h:H} {r:X}:∀ {l:List (Nat×Shape)},fitX B k i e h l=some r→∃ (s:Shape) (x:s.den),s.fit B [] e h=some x∧k (s.e x) (s.h x)=some r
 | [],hk=>by simp [fitX] at hk
 | (j, s)::ss,hk=>by
  simp only [fitX] at hk
  cases hb:Nat.beq j i
  · rw [hb,cond_false] at hk
    exact zbi hk
  · rw [hb,cond_true] at hk
    split at hk
    · rename_i x hf
      exact ⟨s,x,hf,hk⟩
    · exact zbi hk
def loopKs (B:Base) (Y:Ys) (head:Shape) (exs:List (Nat×Shape)) (rets:List Shape) (L:head.den→Option X) (ks:Ks X):Ks X:=
 { nxt:=fun e h=>match head.fit B Y e h with
    | some s=>L s
    | none=>none
   ex:=fun i e h=>fitX B (ks.ex i) i e h exs
   ret:=fun e h=>fitL B ks.ret e h rets }
def cutKs (B:Base) (nxt:List Shape) (exs:List (Nat×Shape)) (rets:List Shape) (ks:Ks X):Ks X:=
 { nxt:=fun e h=>fitL B ks.nxt e h nxt
   ex:=fun i e h=>fitX B (ks.ex i) i e h exs
   ret:=fun e h=>fitL B ks.ret e h rets }
def resA (e:Env) (h:H):ResultVar→Option AV
 | .tmp t=>some (get e t)
 | .cell a t=>match cx.tab t with
  | some ti=>loadA ti (get e a) h
  | none=>none
def ressA (e:Env) (h:H):List ResultVar→Option (List AV)
 | []=>some []
 | r :: rs=>match resA cx e h r with
  | some v=>match ressA e h rs with
   | some vs=>some (v::vs)
   | none=>none
  | none=>none
def packA:List AV→AV
 | [v]=>v
 | vs => .tup vs
def args0:Nat→List AV→Env
 | _,[]=>[]
 | n,v::vs=>(n,v)::args0 (n+1) vs
def fin (kp:Bool) (fn:Func) (k:AV→H→Option X) (e:Env) (h:H):Option X:=
 match ressA cx e h fn.results.toList with
 | some vs=>bif kp then k (packA vs) h else frzL vs h fun vs h=>k (packA vs) h
 | none=>none
def baseOf (h:H):Base:=⟨h.bx.length,h.tk.length,h.lp.length⟩
noncomputable def runA (O:Open X) (d:Nat) (g:Nat) (args:List AV) (Y:Ys) (h:H) (k:AV→H→Option X):Option X:=
 match cx.fns g with
 | some fn=>match fn.body with
  | some c=>bif Nat.ble args.length fn.ntmps then exec cx O ⟨g,fn.ntmps,baseOf h,d⟩ Y c { nxt:=fin cx (cx.keep g) fn k,ex:=fun _ _ _=>none,ret:=fin cx (cx.keep g) fn k } (args0 0 args) h else none
  | none=>none
 | none=>none
noncomputable def runT (O:Open X) (d:Nat) (T q:Nat) (g:Nat) (args:List AV) (Y:Ys) (h:H) (k:AV→H→Option X):Option X:=
 match cx.fns g with
 | some fn=>match fn.body with
  | some c=>bif Nat.ble args.length fn.ntmps then exec cx O ⟨g,fn.ntmps,baseOf h,d⟩ Y c { nxt:=fin cx (cx.keep g) fn k,ex:=fun i _ h=>bif Nat.beq i (PAN*(T+1)+q)&&Nat.blt q PAN then k (.tup []) h else none,ret:=fin cx (cx.keep g) fn k } (args0 0 args) h else none
  | none=>none
 | none=>none
noncomputable def roundA (O:Open X) (d:Nat) (j:Nat) (hd:HD) (args:List AV) (Y:Ys) (h:H) (k:AV→H→Option X):Option X:=
 match cx.rfs hd.g hd.i with
 | some (N, _, ps,aS,b)=>match params N hd.e ps args with
  | some e1 => exec cx O ⟨hd.g,N,baseOf h,d⟩ Y aS
   { nxt := fun e2 h2=>match nth h2.lp j with
      | some .ready=>exec cx O ⟨hd.g,N,baseOf h,d⟩ Y b
       { nxt:=fun _ h3=>k (.bool true) (setLp h3 j .ready)
         ex:=fun i _ h3=>bif Nat.blt i PAN then k (.bool false) (setLp h3 j (.done (.ex i))) else none
         ret:=fun _ h3=>k (.bool false) (setLp h3 j (.done .ret)) } e2 (setLp h2 j .busy)
      | _=>none
     ex:=fun _ _ _=>none
     ret:=fun _ _=>none } e1 h
  | none=>none
 | none=>none
noncomputable def inl:Nat→Open X
 | 0=>fun _ _ _ _=>none
 | d+1=>fun t Y h k=>match t with
  | .call g args=>runA cx (inl d) d g args Y h k
  | .round j hd args=>roundA cx (inl d) d j hd args Y h k
  | .tryc T q g args=>runT cx (inl d) d T q g args Y h k
def okCap (tk:List (Option Nat)) (n:Nat):Cap→Cap→Bool
 | .unk,_=>true
 | .fresh,.own t=>match nth tk t with
  | some (some k)=>Nat.beq k n
  | _=>false
 | .fresh,.full=>true
 | _,_=>false
def resC (τ:Ty) (c:Cap) (tk:List (Option Nat)) (a:AV):Option (List τ.den×List (Option Nat)):=
 match a with
 | .sl τ' l c'=>bif okCap tk l.length c c' then (match castSl τ' τ l with
  | some l=>some (l,match c,c' with | .fresh,.own t=>upd tk t none | _,_=>tk)
  | none=>none) else none
 | .nils=>match c with
  | .unk=>some ([],tk)
  | _=>none
 | _=>none
mutual
def resD:(s:SV)→List (Option Nat)→AV→Option (s.den×List (Option Nat))
 | .int k,tk,a=>match a with
  | .int k' n=>if k=k' then some (n,tk) else none
  | _=>none
 | .bool,tk,a=>match a with
  | .bool b=>some (b,tk)
  | _=>none
 | .str,tk,a=>match a with
  | .str l=>some (l,tk)
  | _=>none
 | .sl τ c,tk,a=>resC τ c tk a
 | .err,tk,a=>match a with
  | .err b=>some (b,tk)
  | _=>none
 | .const v,tk,a=>bif v.beq a&&okF 0 0 0 v then some ((),tk) else none
 | .agg vs,tk,a=>match a with
  | .agg cs=>resL vs tk cs
  | _=>none
 | .fn _ _ _,_,_=>none
 | .row _,_,_=>none
 | .ms _ _,_,_=>none
 | .mp,_,_=>none
def resL:(vs:List SV)→List (Option Nat)→List AV→Option (sdenL vs×List (Option Nat))
 | [],tk,cs=>match cs with
  | []=>some ((),tk)
  | _=>none
 | v :: vs,tk,cs=>match cs with
  | c :: cs=>match resD v tk c with
   | some x=>match resL vs x.2 cs with
    | some y=>some ((x.1,y.1),y.2)
    | none=>none
   | none=>none
  | []=>none
end
inductive RV where
 | one (s:SV) | many (vs:List SV)
@[reducible] def RV.den:RV→Type
  | .one s=>s.den
  | .many vs=>sdenL vs
def RV.enc:(r:RV)→r.den→AV
 | .one s,x=>s.enc x
 | .many vs,x => .tup (sencL vs x)
def RV.dec (r:RV) (tk:List (Option Nat)) (a:AV):Option r.den:=
 match r with
 | .one s=>match resD s tk a with
  | some x=>some x.1
  | none=>none
 | .many vs=>match a with
  | .tup cs=>match resL vs tk cs with
   | some x=>some x.1
   | none=>none
  | _=>none
end
noncomputable def closed (r:RV) (cx:Cx r.den) (d:Nat) (g:Nat) (args:List AV):Option r.den:=
 runA cx (inl cx d) d g args [] ⟨[],[],[]⟩ fun v h=>r.dec h.tk v
end Go.AM
set_option linter.unusedVariables false
namespace Go.AM
open Go.RowKit
def RowOf {α:Type} (p:α→List Value→Prop):List α→List Value→Prop
 | [],us=>us=[]
 | x::l,us=>∃ v1 v2,us=v1++v2∧p x v1∧RowOf p l v2
theorem RowOf.mono {α:Type} {p q:α→List Value→Prop}:∀ (l:List α) (us:List Value),(∀ x∈l,∀ vs,p x vs→q x vs)→RowOf p l us→RowOf q l us
 | [],us,_,h=>h
 | x::l,us,hpq,h=>by
  obtain ⟨v1,v2,e,h1,h2⟩:=h
  exact ⟨v1,v2,e,hpq x (by simp) v1 h1,RowOf.mono l v2 (fun y hy=>hpq y (by simp [hy])) h2⟩
theorem RowOf.append {α:Type} {p:α→List Value→Prop}:∀ {l m:List α} {us vs:List Value},RowOf p l us→RowOf p m vs→RowOf p (l++m) (us++vs)
 | [],m,us,vs,h,k=>by
  have:us=[]:=h
  subst this
  simpa using k
 | x::l,m,us,vs,h,k=>by
  obtain ⟨v1,v2,rfl,h1,h2⟩:=h
  exact ⟨v1,v2++vs,by simp,h1,RowOf.append h2 k⟩
theorem RowOf.length {α:Type} {p:α→List Value→Prop} {sz:Nat} (hp:∀ x vs,p x vs→vs.length=sz):∀ {l:List α} {us:List Value},RowOf p l us→us.length=l.length*sz
 | [],us,h=>by
  have:us=[]:=h
  simp [this]
 | x::l,us,h=>by
  obtain ⟨v1,v2,rfl,h1,h2⟩:=h
  rw [List.length_append,hp _ _ h1,RowOf.length hp h2,List.length_cons,Nat.add_mul]
  omega
theorem RowOf.at {α:Type} {p:α→List Value→Prop} {sz:Nat} (hp:∀ x vs,p x vs→vs.length=sz):∀ {l:List α} {us:List Value},RowOf p l us→∀ (i:Nat) (x:α),l[i]? = some x→p x ((us.drop (i*sz)).take sz)
 | [],us,h,i,x,hx=>by simp at hx
 | y::l,us,h,0,x,hx=>by
  obtain ⟨v1,v2,rfl,h1,h2⟩:=h
  simp at hx
  subst hx
  have:=hp _ _ h1
  simpa [← this] using h1
 | y::l,us,h,i+1,x,hx=>by
  obtain ⟨v1,v2,rfl,h1,h2⟩:=h
  have h0:=hp _ _ h1
  have:=RowOf.at hp h2 i x (by simpa using hx)
  rw [show (i+1)*sz=v1.length+i*sz from by rw [Nat.add_mul,h0]; omega]
  rw [List.drop_append,List.drop_eq_nil_of_le (Nat.le_add_right _ _)]
  simpa using this
theorem RowOf.sub {α:Type} {p:α→List Value→Prop} {sz:Nat} (hp:∀ x vs,p x vs→vs.length=sz):∀ {l:List α} {us:List Value},RowOf p l us→∀ (a b:Nat),a≤b→b≤l.length→RowOf p ((l.take b).drop a) ((us.take (b*sz)).drop (a*sz))
 | [],us,h,a,b,hab,hb=>by
  have:us=[]:=h
  subst this
  simp at hb
  subst hb
  simp [RowOf]
 | y::l,us,h,a,0,hab,hb=>by
  have:a=0:=by omega
  subst this
  simp [RowOf]
 | y::l,us,h,0,b+1,hab,hb=>by
  obtain ⟨v1,v2,rfl,h1,h2⟩:=h
  have h0:=hp _ _ h1
  have:=RowOf.sub hp h2 0 b (by omega) (by simpa using hb)
  refine ⟨v1,v2.take (b*sz),?_,h1,by simpa using this⟩
  rw [show (b+1)*sz=v1.length+b*sz from by rw [Nat.add_mul,h0]; omega]
  rw [List.take_append,List.take_of_length_le (Nat.le_add_right _ _)]
  simp
 | y::l,us,h,a+1,b+1,hab,hb=>by
  obtain ⟨v1,v2,rfl,h1,h2⟩:=h
  have h0:=hp _ _ h1
  have:=RowOf.sub hp h2 a b (by omega) (by simpa using hb)
  rw [show (b+1)*sz=v1.length+b*sz from by rw [Nat.add_mul,h0]; omega,show (a+1)*sz=v1.length+a*sz from by rw [Nat.add_mul,h0]; omega]
  rw [List.take_append,List.take_of_length_le (Nat.le_add_right _ _),List.drop_append,List.drop_eq_nil_of_le (Nat.le_add_right _ _)]
  simpa using this
mutual
def RepC (w:World) (D:Nat→Nat→Prop):(τ:Ty)→τ.den→List Value→Prop
 | .u8,b,vs=>vs=[.int .u8 b.toNat]
 | .u8t _,b,vs=>vs=[.int .u8 b.toNat]
 | .int k,n,vs=>(k = .u8→0≤n∧n<256)∧vs=[.int k n]
 | .bool,b,vs=>vs=[.bool b]
 | .str,s,vs=>s.length≤strMax∧∃ bs:ByteArray,vs=[.string bs]∧bs.data.toList=s
 | .sl e,l,vs=>l.length≤strMax∧∃ A c us,vs=[.slice A l.length c]∧l.length≤c∧RowOf (fun x us=>RepC w D e x us) l us ∧
  (0<l.length→∃ b o,A=some ⟨b,o,none⟩∧∀ (j:Nat) (u:Value),us[j]? = some u→D b (o+j)∧w.cell? ⟨b,o+j,none⟩=some u)
 | .agg ts,x,vs=>RepCL w D ts x vs
def RepCL (w:World) (D:Nat→Nat→Prop):(ts:List Ty)→denL ts→List Value→Prop
 | [],_,vs=>vs=[]
 | [t],x,vs=>RepC w D t x vs
 | t::u::us,(x,y),vs=>∃ v1 v2,vs=v1++v2∧RepC w D t x v1∧RepCL w D (u::us) y v2
end
structure Tk where
 n:Nat
 A:Option Nat
 cap:Nat
 sz:Nat
structure LpG where
 l:Nat
 st:Loop
structure BvG where
 v:Nat
 len:Nat
 cap:Nat
 sz:Nat
structure GS where
 D:Nat→Nat→Prop
 bx:List (Option Nat)
 tk:List (Option Tk)
 lp:List LpG
 df:List Nat
 bv:Nat→BvG
def bv0:Nat→BvG:=fun _=>⟨0,0,0,0⟩
def CapOK (G:GS) (v:Value) (len sz:Nat):Cap→Prop
 | .full=>∃ A,v = .slice A len len
 | .own t=>∃ o,G.tk[t]? = some o∧∀ g,o=some g→len≤g.n∧(len=g.n→g.sz=sz∧∃ A,v = .slice A len g.cap∧(len<g.cap→∃ b,A=some ⟨b,0,none⟩∧g.A=some b))
 | .unk=>True
 | .fresh=>True
inductive RepV (w:World) (G:GS):Value→AV→Prop
 | any (v:Value):RepV w G v .any
 | bool (b:Bool):RepV w G (.bool b) (.bool b)
 | int (k:IntKind) (n:Int) (h:k = .u8→0≤n∧n<256):RepV w G (.int k n) (.int k n)
 | str (s:ByteArray) (l:List UInt8) (h:s.data.toList=l) (hl:l.length≤strMax):RepV w G (.string s) (.str l)
 | sl (τ:Ty) (l:List τ.den) (c:Cap) (v:Value) (h:RepC w G.D (.sl τ) l [v]) (hc:CapOK G v l.length τ.size c):RepV w G v (.sl τ l c)
 | nils:RepV w G (.slice none 0 0) .nils
 | agg (vs:Array Value) (cs:List AV) (hl:vs.size=cs.length) (h:∀ (i:Nat) (v:Value) (c:AV),vs[i]? = some v→cs[i]? = some c→RepV w G v c):RepV w G (.agg vs) (.agg cs)
 | tup (vs:Array Value) (cs:List AV) (hl:vs.size=cs.length) (h:∀ (i:Nat) (v:Value) (c:AV),vs[i]? = some v→cs[i]? = some c→RepV w G v c):RepV w G (.tuple vs) (.tup cs)
 | nilp:RepV w G (.pointer none) .nilp
 | ref (r off b:Nat) (h:G.bx[r]? = some (some b)) (hv:(G.bv r).v=0):RepV w G (.pointer (some ⟨b,off,none⟩)) (.ref r off)
 | ms (r v n:Nat) (τ:Ty) (x:Value) (h0:0<v) (hx:∃ A c,x = .slice A n c∧(0<n→∃ b o,A=some ⟨b,o,none⟩)) (h:∃ q,G.bx[r]? = some q∧v≤(G.bv r).v∧((G.bv r).v=v→(G.bv r).sz=τ.size∧(G.bv r).len=n∧∃ A,x = .slice A n (G.bv r).cap∧∀ b,q=some b→A=some ⟨b,0,none⟩)):RepV w G x (.ms r v n τ)
 | ep (r v:Nat) (i:Int) (off:Nat) (τ:Ty) (x:Value) (h0:0<v) (hx:∃ b o,x = .pointer (some ⟨b,o,none⟩)) (h:∃ q,G.bx[r]? = some q∧v≤(G.bv r).v∧((G.bv r).v=v→(G.bv r).sz=τ.size∧0≤i∧i<(G.bv r).len∧∀ b,q=some b→x = .pointer (some ⟨b,i.toNat*τ.size+off,none⟩))):RepV w G x (.ep r v i off τ)
 | imm (b o:Nat) (us:List Value) (cs:List AV) (hl:us.length=cs.length) (hm:∀ (i:Nat) (u:Value),us[i]? = some u→G.D b (o+i)∧w.cell? ⟨b,o+i,none⟩=some u)
  (h:∀ (i:Nat) (u:Value) (c:AV),us[i]? = some u→cs[i]? = some c→RepV w G u c):RepV w G (.pointer (some ⟨b,o,none⟩)) (.imm cs)
 | imms (n:Nat) (b o c:Nat) (us:List Value) (cs:List AV) (h0:0<n) (hc:n≤c) (hl:us.length=cs.length) (hm:∀ (i:Nat) (u:Value),us[i]? = some u→G.D b (o+i)∧w.cell? ⟨b,o+i,none⟩=some u)
  (h:∀ (i:Nat) (u:Value) (c:AV),us[i]? = some u→cs[i]? = some c→RepV w G u c):RepV w G (.slice (some ⟨b,o,none⟩) n c) (.imms n cs)
 | bcell (r T b:Nat) (v:Value) (h:G.bx[r]? = some (some b)) (hv:(G.bv r).v=0) (hp:v = .pointer none∨v = .pointer (some ⟨b,0,none⟩)):RepV w G v (.bcell r T)
 | mref (r b:Nat) (h:G.bx[r]? = some (some b)) (hv:(G.bv r).v=0):RepV w G (.map (some b)) (.mref r)
 | nilfn:RepV w G .nilFunc .nilfn
 | fn (f:Nat) (x y:Array Value) (a b:List AV) (hx:x.size=a.length) (h1:∀ (i:Nat) (v:Value) (c:AV),x[i]? = some v→a[i]? = some c→RepV w G v c)
  (hy:y.size=b.length) (h2:∀ (i:Nat) (v:Value) (c:AV),y[i]? = some v→b[i]? = some c→RepV w G v c):RepV w G (.func (.func f) x y) (.fn f a b)
 | yield (j:Nat) (p:LpG) (h:G.lp[j]? = some p):RepV w G (.func (.yield p.l) #[] #[]) (.yield j)
 | err0:RepV w G .nilIface (.err false)
 | err1 (t:TypeId) (x:Value):RepV w G (.iface t x) (.err true)
def RepL (w:World) (G:GS) (vs:List Value) (cs:List AV):Prop:=vs.length=cs.length∧∀ (i:Nat) (v:Value) (c:AV),vs[i]? = some v→cs[i]? = some c→RepV w G v c
def TkStep (a b:Option (Option Tk)):Prop:=∃ o o',a=some o∧b=some o'∧(o'=none∨o'=o∨∃ g g',o=some g∧o'=some g'∧g.n<g'.n)
structure Ext (B:Base) (G G':GS):Prop where
 D:∀ b o,G.D b o→G'.D b o
 bx:∀ r,r<B.nb→(G'.bx[r]? = G.bx[r]? ∧ G'.bv r=G.bv r)∨(0<(G.bv r).v∧(G.bv r).v<(G'.bv r).v∧∃ b,G'.bx[r]? = some b)∨(G.bx[r]? = some none∧(G.bv r).v=0∧∃ b,G'.bx[r]? = some b)
 tk:∀ t,t<B.nt→TkStep G.tk[t]? G'.tk[t]?
 lp:∀ j,j<B.nl→G'.lp[j]? = G.lp[j]?
 df:G'.df=G.df
def GS.base (G:GS):Base:=⟨G.bx.length,G.tk.length,G.lp.length⟩
def Base.le (A B:Base):Prop:=A.nb≤B.nb∧A.nt≤B.nt∧A.nl≤B.nl
def Keep (D:Nat→Nat→Prop) (w w':World):Prop:=∀ b o,D b o→w'.cell? ⟨b,o,none⟩=w.cell? ⟨b,o,none⟩
theorem TkStep.trans {a b c:Option (Option Tk)} (h:TkStep a b) (k:TkStep b c):TkStep a c:=by
 obtain ⟨o,o',rfl,rfl,h⟩:=h
 obtain ⟨p,p',e,rfl,k⟩:=k
 obtain rfl:=Option.some.inj e
 refine ⟨o,p',rfl,rfl,?_⟩
 rcases k with rfl | rfl | ⟨g,g',rfl,rfl,hk⟩
 · exact .inl rfl
 · exact h
 · rcases h with h | h | ⟨f,f',rfl,e,hh⟩
   · cases h
   · exact .inr (.inr ⟨g,g',h.symm,rfl,hk⟩)
   · obtain rfl:=Option.some.inj e
     exact .inr (.inr ⟨f,g',rfl,rfl,Nat.lt_trans hh hk⟩)
def BxStep (a b:Option (Option Nat)) (x y:BvG):Prop:=(b=a∧y=x)∨(0<x.v∧x.v<y.v∧∃ q,b=some q)∨(a=some none∧x.v=0∧∃ q,b=some q)
theorem zja {a b c:Option (Option Nat)} {x y z:BvG} (h:BxStep a b x y) (k:BxStep b c y z):BxStep a c x z:=by
 rcases h with ⟨rfl,rfl⟩ | ⟨h1,h2,q,rfl⟩ | ⟨h1,h2,q,rfl⟩
 · exact k
 · rcases k with ⟨rfl,rfl⟩ | ⟨k1,k2,q',rfl⟩ | ⟨k1,k2,q',rfl⟩
   · exact .inr (.inl ⟨h1,h2,q,rfl⟩)
   · exact .inr (.inl ⟨h1,by omega,q',rfl⟩)
   · omega
 · rcases k with ⟨rfl,rfl⟩ | ⟨k1,k2,q',rfl⟩ | ⟨k1,k2,q',rfl⟩
   · exact .inr (.inr ⟨h1,h2,q,rfl⟩)
   · exact .inr (.inr ⟨h1,h2,q',rfl⟩)
   · exact .inr (.inr ⟨h1,h2,q',rfl⟩)
theorem Ext.trans {B:Base} {G G1 G2:GS} (h:Ext B G G1) (k:Ext B G1 G2):Ext B G G2:=
 ⟨fun b o x=>k.D b o (h.D b o x),fun r hr=>zja (h.bx r hr) (k.bx r hr),fun t ht=>(h.tk t ht).trans (k.tk t ht),
  fun j hj=>(k.lp j hj).trans (h.lp j hj),k.df.trans h.df⟩
theorem Ext.mono {A B:Base} {G G':GS} (h:Ext B G G') (hl:A.le B):Ext A G G':=
 ⟨h.D,fun r hr=>h.bx r (Nat.lt_of_lt_of_le hr hl.1),fun t ht=>h.tk t (Nat.lt_of_lt_of_le ht hl.2.1),fun j hj=>h.lp j (Nat.lt_of_lt_of_le hj hl.2.2),h.df⟩
theorem Ext.refl {B:Base} {G:GS} (h:B.le G.base):Ext B G G:=
 ⟨fun _ _ x=>x,fun _ _ => .inl ⟨rfl,rfl⟩,fun t ht=>by
  have ht':t<G.tk.length:=Nat.lt_of_lt_of_le ht h.2.1
  exact ⟨G.tk[t],G.tk[t],by simp [ht'],by simp [ht'],.inr (.inl rfl)⟩,fun _ _=>rfl,rfl⟩
theorem Base.le_refl (B:Base):B.le B:=⟨Nat.le_refl _,Nat.le_refl _,Nat.le_refl _⟩
theorem Base.le_trans {A B C:Base} (h:A.le B) (k:B.le C):A.le C:=⟨Nat.le_trans h.1 k.1,Nat.le_trans h.2.1 k.2.1,Nat.le_trans h.2.2 k.2.2⟩
theorem Keep.refl (D:Nat→Nat→Prop) (w:World):Keep D w w:=fun _ _ _=>rfl
theorem Keep.trans {D D':Nat→Nat→Prop} {w w1 w2:World} (h:Keep D w w1) (hd:∀ b o,D b o→D' b o) (k:Keep D' w1 w2):Keep D w w2:=
 fun b o x=>(k b o (hd b o x)).trans (h b o x)
mutual
theorem RepC.mono {w w':World} {D D':Nat→Nat→Prop} (hd:∀ b o,D b o→D' b o) (hk:Keep D w w'):∀ (τ:Ty) (x:τ.den) (vs:List Value),RepC w D τ x vs→RepC w' D' τ x vs
 | .u8,x,vs,h=>by simpa [RepC] using h
 | .u8t _,x,vs,h=>by simpa [RepC] using h
 | .int k,x,vs,h=>by simpa [RepC] using h
 | .bool,x,vs,h=>by simpa [RepC] using h
 | .str,x,vs,h=>by simpa [RepC] using h
 | .sl e,l,vs,h=>by
  simp only [RepC] at h ⊢
  obtain ⟨hl,A,c,us,hv,hc,hrow,hr⟩:=h
  refine ⟨hl,A,c,us,hv,hc,RowOf.mono l us (fun x _ vs hx=>RepC.mono hd hk e x vs hx) hrow,fun h0 => ?_⟩
  obtain ⟨b,o,ha,hr⟩:=hr h0
  exact ⟨b,o,ha,fun j u hju=>⟨hd _ _ (hr j u hju).1,(hk _ _ (hr j u hju).1).trans (hr j u hju).2⟩⟩
 | .agg ts,x,vs,h=>by
  simp only [RepC] at h ⊢
  exact RepCL.mono hd hk ts x vs h
theorem RepCL.mono {w w':World} {D D':Nat→Nat→Prop} (hd:∀ b o,D b o→D' b o) (hk:Keep D w w'):∀ (ts:List Ty) (x:denL ts) (vs:List Value),RepCL w D ts x vs→RepCL w' D' ts x vs
 | [],x,vs,h=>by simpa [RepCL] using h
 | [t],x,vs,h=>by
  simp only [RepCL] at h ⊢
  exact RepC.mono hd hk t x vs h
 | t::u::us,(x,y),vs,h=>by
  simp only [RepCL] at h ⊢
  obtain ⟨v1,v2,e,h1,h2⟩:=h
  exact ⟨v1,v2,e,RepC.mono hd hk t x v1 h1,RepCL.mono hd hk (u::us) y v2 h2⟩
end
theorem CapOK.mono {G G':GS} {v:Value} {n sz:Nat} {c:Cap} (h:CapOK G v n sz c) (he:Ext G.base G G'):CapOK G' v n sz c:=by
 cases c with
 | full=>exact h
 | unk=>trivial
 | fresh=>trivial
 | own t =>
  obtain ⟨o,ho,hg⟩:=h
  have ht:t<G.tk.length:=by
   have:=(List.getElem?_eq_some_iff.1 ho).1
   exact this
  obtain ⟨p,p',e1,e2,hs⟩:=he.tk t ht
  rw [ho] at e1
  obtain rfl:=Option.some.inj e1
  refine ⟨p',e2,fun g hgp => ?_⟩
  rcases hs with rfl | rfl | ⟨f,f',rfl,rfl,hlt⟩
  · cases hgp
  · exact hg g hgp
  · obtain rfl:=Option.some.inj hgp
    obtain ⟨h1,_⟩:=hg f rfl
    exact ⟨by omega,fun e=>by omega⟩
theorem RepV.mono {w w':World} {G G':GS} (he:Ext G.base G G') (hk:Keep G.D w w') {v:Value} {a:AV} (h:RepV w G v a):RepV w' G' v a:=by
 induction h with
 | any v=>exact .any v
 | bool b=>exact .bool b
 | int k n h=>exact .int k n h
 | str s l h hl=>exact .str s l h hl
 | sl τ l c v h hc=>exact .sl τ l c v (RepC.mono he.D hk _ _ _ h) (hc.mono he)
 | nils=>exact .nils
 | agg vs cs hl _ ih=>exact .agg vs cs hl ih
 | tup vs cs hl _ ih=>exact .tup vs cs hl ih
 | nilp=>exact .nilp
 | ref r off b h hv =>
  rcases he.bx r (List.getElem?_eq_some_iff.1 h).1 with ⟨h1,h2⟩ | ⟨h1,_,_⟩ | ⟨h1,_,_⟩
  · exact .ref r off b (h1.trans h) (by rw [h2]; exact hv)
  · omega
  · rw [h] at h1; cases h1
 | ms r v n τ x h0 hs h =>
  obtain ⟨b,hb,hp,hx⟩:=h
  rcases he.bx r (List.getElem?_eq_some_iff.1 hb).1 with ⟨h1,h2⟩ | ⟨h1,h2,b',hb'⟩ | ⟨_,h1,_⟩
  · exact .ms r v n τ x h0 hs ⟨b,h1.trans hb,by rw [h2]; exact hp,by rw [h2]; exact hx⟩
  · exact .ms r v n τ x h0 hs ⟨b',hb',by omega,fun e=>by omega⟩
  · omega
 | ep r v i off τ x h0 hs h =>
  obtain ⟨b,hb,hp,hx⟩:=h
  rcases he.bx r (List.getElem?_eq_some_iff.1 hb).1 with ⟨h1,h2⟩ | ⟨h1,h2,b',hb'⟩ | ⟨_,h1,_⟩
  · exact .ep r v i off τ x h0 hs ⟨b,h1.trans hb,by rw [h2]; exact hp,by rw [h2]; exact hx⟩
  · exact .ep r v i off τ x h0 hs ⟨b',hb',by omega,fun e=>by omega⟩
  · omega
 | imm b o us cs hl hm _ ih=>exact .imm b o us cs hl (fun i u hu=>⟨he.D _ _ (hm i u hu).1,(hk _ _ (hm i u hu).1).trans (hm i u hu).2⟩) ih
 | imms n b o c us cs h0 hc hl hm _ ih=>exact .imms n b o c us cs h0 hc hl (fun i u hu=>⟨he.D _ _ (hm i u hu).1,(hk _ _ (hm i u hu).1).trans (hm i u hu).2⟩) ih
 | bcell r T b v h hv hp =>
  rcases he.bx r (List.getElem?_eq_some_iff.1 h).1 with ⟨h1,h2⟩ | ⟨h1,_,_⟩ | ⟨h1,_,_⟩
  · exact .bcell r T b v (h1.trans h) (by rw [h2]; exact hv) hp
  · omega
  · rw [h] at h1; cases h1
 | mref r b h hv =>
  rcases he.bx r (List.getElem?_eq_some_iff.1 h).1 with ⟨h1,h2⟩ | ⟨h1,_,_⟩ | ⟨h1,_,_⟩
  · exact .mref r b (h1.trans h) (by rw [h2]; exact hv)
  · omega
  · rw [h] at h1; cases h1
 | nilfn=>exact .nilfn
 | fn f x y a b hx _ hy _ i1 i2=>exact .fn f x y a b hx i1 hy i2
 | yield j p h=>exact .yield j p ((he.lp j (List.getElem?_eq_some_iff.1 h).1).trans h)
 | err0=>exact .err0
 | err1 t x=>exact .err1 t x
theorem RepL.mono {w w':World} {G G':GS} (he:Ext G.base G G') (hk:Keep G.D w w') {vs:List Value} {cs:List AV} (h:RepL w G vs cs):RepL w' G' vs cs:=
 ⟨h.1,fun i v c hv hc=>(h.2 i v c hv hc).mono he hk⟩
inductive RepB (w:World) (G:GS) (r:Nat):List Value→List AV→Prop
 | box (vs:List Value) (cs:List AV) (h:isRow cs=false) (hv:(G.bv r).v=0) (hl:RepL w G vs cs):RepB w G r vs cs
 | row (vs:List Value) (v:Nat) (τ:Ty) (l:List τ.den) (cap:Nat) (h0:0<v) (hv:G.bv r=⟨v,l.length,cap,τ.size⟩) (hz:0<τ.size) (hc:l.length≤cap) (hm:l.length≤strMax) (hs:vs.length=cap*τ.size)
  (hl:RowOf (fun x us=>RepC w G.D τ x us) l (vs.take (l.length*τ.size))) (h1:v=1→cap=l.length):RepB w G r vs [.row v τ l]
def RepN0 (G:GS) (r:Nat) (cs:List AV):Prop:=∃ (v:Nat) (τ:Ty),cs=[.row v τ []]∧0<v∧0<τ.size∧G.bv r=⟨v,0,0,τ.size⟩
def RepN (G:GS) (r:Nat) (cs:List AV):Prop:=RepN0 G r cs∨(cs=hole∧(G.bv r).v=0)
theorem RepL.noRow {w:World} {G:GS} {vs:List Value} {cs:List AV} (h:RepL w G vs cs):isRow cs=false:=by
 cases cs with
 | nil=>rfl
 | cons c q =>
  cases c with
  | row v τ l =>
   have h0:0<vs.length:=by rw [h.1]; simp
   have hx:=h.2 0 vs[0] (.row v τ l) (by simp [h0]) rfl
   generalize vs[0]=u at hx
   cases hx
  | mp l =>
   have h0:0<vs.length:=by rw [h.1]; simp
   have hx:=h.2 0 vs[0] (.mp l) (by simp [h0]) rfl
   generalize vs[0]=u at hx
   cases hx
  | fmp l =>
   have h0:0<vs.length:=by rw [h.1]; simp
   have hx:=h.2 0 vs[0] (.fmp l) (by simp [h0]) rfl
   generalize vs[0]=u at hx
   cases hx
  | _=>rfl
theorem RepB.list {w:World} {G:GS} {r:Nat} {vs:List Value} {cs:List AV} (h:RepB w G r vs cs) (hr:isRow cs=false):(G.bv r).v=0∧RepL w G vs cs:=by
 cases h with
 | box _ h hv hl=>exact ⟨hv,hl⟩
 | row=>cases hr
theorem RepN0.toB {G:GS} {r:Nat} {cs:List AV} (h:RepN0 G r cs) (w:World):RepB w G r [] cs:=by
 obtain ⟨v,τ,rfl,h0,hz,hv⟩:=h
 exact .row [] v τ [] 0 h0 (by simpa using hv) hz (Nat.le_refl _) (Nat.zero_le _) (by simp) (by simp [RowOf]) (fun _=>rfl)
theorem RepB.toN {w:World} {G:GS} {r:Nat} {cs:List AV} (h:RepB w G r [] cs) (hv:0<(G.bv r).v):RepN0 G r cs:=by
 cases h with
 | box _ _ h0 _=>omega
 | row v τ l cap h0 hb hz hc hm hs hl h1 =>
  have hc0:cap=0:=by
   rcases Nat.eq_zero_or_pos cap with e | e
   · exact e
   · have:=Nat.mul_pos e hz
     simp at hs
     omega
  subst hc0
  have:l=[]:=List.eq_nil_of_length_eq_zero (by omega)
  subst this
  exact ⟨v,τ,rfl,h0,hz,by simpa using hb⟩
theorem RepB.keep {w w':World} {G G':GS} {r:Nat} (he:Ext G.base G G') (hk:Keep G.D w w') (hbv:G'.bv r=G.bv r) {vs:List Value} {cs:List AV} (h:RepB w G r vs cs):RepB w' G' r vs cs:=by
 cases h with
 | box _ h hv hl=>exact .box _ _ h (by rw [hbv]; exact hv) (hl.mono he hk)
 | row v τ l cap h0 hv hz hc hm hs hl h1=>exact .row _ v τ l cap h0 (by rw [hbv]; exact hv) hz hc hm hs (RowOf.mono _ _ (fun x _ us hx=>RepC.mono he.D hk τ x us hx) hl) h1
def MapRel (es:Array MapEntry) (l:List (List UInt8×Int)):Prop:=es.toList.map (fun x=>(x.key,x.val))=l.map fun p=>(Value.string ⟨p.1.toArray⟩,Value.int .i64 p.2)
def fmGo:Nat→List (Int×Nat)→List MapEntry
 | _,[]=>[]
 | i,(k,f)::l=>⟨.int .i64 k,.func (.func f) #[] #[],i⟩::fmGo (i+1) l
def fmEnts (l:List (Int×Nat)):Array MapEntry:=(fmGo 0 l).toArray
inductive RepO (w:World) (G:GS) (r:Nat):Obj→List AV→Prop
 | cells (vs:Array Value) (t:TypeId) (cs:List AV) (h:RepB w G r vs.toList cs) (ht:∀ T,tyOf cs=some T→t=T):RepO w G r (.cells vs t (0,0)) cs
 | mp (es:Array MapEntry) (c:Nat) (l:List (List UInt8×Int)) (hv:(G.bv r).v=0) (h:MapRel es l):RepO w G r (.map es c) [.mp l]
 | fm (l:List (Int×Nat)) (c:Nat) (hv:(G.bv r).v=0):RepO w G r (.map (fmEnts l) c) [.fmp l]
theorem RepO.keep {w w':World} {G G':GS} {r:Nat} (he:Ext G.base G G') (hk:Keep G.D w w') (hbv:G'.bv r=G.bv r) {ob:Obj} {cs:List AV} (h:RepO w G r ob cs):RepO w' G' r ob cs:=by
 cases h with
 | cells vs t cs h ht=>exact .cells vs t cs (h.keep he hk hbv) ht
 | mp es c l hv h=>exact .mp es c l (by rw [hbv]; exact hv) h
 | fm l c hv=>exact .fm l c (by rw [hbv]; exact hv)
theorem RepO.list {w:World} {G:GS} {r:Nat} {ob:Obj} {cs:List AV} (h:RepO w G r ob cs) (hr:isRow cs=false):∃ vs t,ob = .cells vs t (0,0)∧(G.bv r).v=0∧RepL w G vs.toList cs∧(∀ T,tyOf cs=some T→t=T):=by
 cases h with
 | cells vs t _ h ht =>
  obtain ⟨h1,h2⟩:=h.list hr
  exact ⟨vs,t,rfl,h1,h2,ht⟩
 | mp=>cases hr
 | fm=>cases hr
theorem RepO.row {w:World} {G:GS} {r v:Nat} {ob:Obj} {τ:Ty} {l:List τ.den} (h:RepO w G r ob [.row v τ l]):∃ vs t,ob = .cells vs t (0,0)∧RepB w G r vs.toList [.row v τ l]∧tagOK τ t=true:=by
 cases h with
 | cells vs t _ h ht =>
  refine ⟨vs,t,rfl,h,?_⟩
  cases τ with
  | u8t E=>rw [ht E rfl]; simp [tagOK]
  | _=>rfl
theorem zbq {τ:Ty} {t v:Nat} {l:List τ.den} (h:tagOK τ t=true):∀ T,tyOf [.row v τ l]=some T→t=T:=by
 intro T hT
 cases τ with
 | u8t E =>
  simp only [tyOf,Option.some.injEq] at hT
  subst hT
  exact (Nat.eq_of_beq_eq_true h).symm
 | _=>simp [tyOf] at hT
theorem zfx {cs:List AV} (h:noBld cs=true) (h2:isRow cs=false):∀ T,tyOf cs=some T→False:=by
 intro T hT
 unfold tyOf at hT
 split at hT
 · simp [noBld] at h
 · simp [isRow] at h2
 · cases hT
def jcode:Jmp→Code
 | .ret => .ret
 | .ex i => .exit i
def sameLoop (a b:Loop):Prop:=a.fn=b.fn∧a.tmps=b.tmps∧a.params=b.params∧a.assign=b.assign∧a.body=b.body∧a.defers=b.defers
def LsOK (rec:Loop):LS→Prop
 | .ready=>rec.state = .ready∧rec.pending=none
 | .busy=>True
 | .done j=>rec.state = .done∧rec.pending=some (jcode j)
def TkOK (B0:Nat) (G:GS) (w:World) (g:Tk):Prop:=
 g.n≤g.cap∧(g.n<g.cap→∃ b,g.A=some b∧B0≤b∧some b∉G.bx∧∃ cs et fr,w.heap[b]? = some (.cells cs et fr)∧g.cap*g.sz≤cs.size ∧
  ∀ i,g.n*g.sz≤i→i<g.cap*g.sz→¬ G.D b i∧w.frozen? ⟨b,i,none⟩=false)
structure Wd where
 w:World
 D:Nat→Nat→Prop
structure St (B0:Nat) (w0:Wd) (G:GS) (h:H) (w:World):Prop where
 below:Below B0 w0.w w
 b0:B0≤w.heap.size
 bxl:h.bx.length=G.bx.length
 box:∀ (r b:Nat) (cs:List AV),G.bx[r]? = some (some b)→h.bx[r]? = some cs→B0≤b∧∃ ob,w.heap[b]? = some ob∧RepO w G r ob cs
 virt:∀ (r:Nat) (cs:List AV),G.bx[r]? = some none→h.bx[r]? = some cs→RepN G r cs
 inj:∀ (r r' b:Nat),G.bx[r]? = some (some b)→G.bx[r']? = some (some b)→r=r'
 dat:∀ (b o:Nat),G.D b o→(∃ u,w.cell? ⟨b,o,none⟩=some u)∧some b∉G.bx
 dat0:∀ (b o:Nat),G.D b o→w0.D b o∨B0≤b
 tkl:h.tk=G.tk.map (Option.map Tk.n)
 tok:∀ (t:Nat) (g:Tk),G.tk[t]? = some (some g)→TkOK B0 G w g
 tki:∀ (t t':Nat) (g g':Tk),G.tk[t]? = some (some g)→G.tk[t']? = some (some g')→t≠t'→g.n<g.cap→g'.n<g'.cap→g.A≠g'.A
 lpl:h.lp.length=G.lp.length
 loop:∀ (j:Nat) (p:LpG) (s:LS),G.lp[j]? = some p→h.lp[j]? = some s→B0≤p.l∧∃ rec,w.heap[p.l]? = some (.loop rec)∧sameLoop rec p.st∧LsOK rec s
 lpi:∀ (j j':Nat) (p p':LpG),G.lp[j]? = some p→G.lp[j']? = some p'→p.l=p'.l→j=j'
 dfr:∀ (d:Nat),d∈G.df→B0≤d∧w.heap[d]? = some (.deferred (some []))
 dfn:G.df.Nodup
theorem zl {α:Type}:∀ (l:List α) (i:Nat),nth l i=l[i]?
 | [],i=>by cases i<;>rfl
 | a::l,0=>rfl
 | a::l,i+1=>by simp [nth,zl l i]
theorem zk {α:Type}:∀ (l:List α) (i:Nat) (v:α),upd l i v=l.set i v
 | [],i,v=>by cases i<;>rfl
 | a::l,0,v=>rfl
 | a::l,i+1,v=>by simp [upd,zk l i]
theorem za4 {α:Type}:∀ (n:Nat) (l:List α),dropN n l=l.drop n
 | 0,l=>rfl
 | n+1,[]=>rfl
 | n+1,a::l=>by simp [dropN,za4 n l]
theorem zbc {α:Type}:∀ (n:Nat) (l:List α),takeL n l=l.take n
 | 0,l=>rfl
 | n+1,[]=>rfl
 | n+1,a::l=>by simp [takeL,zbc n l]
theorem zbr {α:Type}:∀ (n:Nat) (l r:List α),takeN n l=some r→r=l.take n∧r.length=n
 | 0,l,r,h=>by simp [takeN] at h; simp [← h]
 | n+1,[],r,h=>by simp [takeN] at h
 | n + 1,a::l,r,h=>by
  simp only [takeN] at h
  split at h
  · rename_i q hq
    obtain rfl:=Option.some.inj h
    obtain ⟨h1,h2⟩:=zbr n l q hq
    exact ⟨by simp [h1],by simp [h2]⟩
  · cases h
theorem Keep.of_grown {D:Nat→Nat→Prop} {w w':World} {row:Option Nat} (hg:w.grownBy w' row) (hd:∀ b o,D b o→∃ u,w.cell? ⟨b,o,none⟩=some u) (hr:∀ b o,D b o→row≠some b):Keep D w w':=by
 intro b o h
 obtain ⟨u,hu⟩:=hd b o h
 have hlt:b<w.heap.size:=World.block_lt_of_cell? w _ hu
 exact World.cell?_of_block (hg.block b hlt (fun e=>hr b o h e.symm))
theorem St.grown0 {B0:Nat} {w0:Wd} {G:GS} {h:H} {w w':World} (s:St B0 w0 G h w) (hg:w.grownBy w' none):St B0 w0 G h w':=by
 have hk:Keep G.D w w':=Keep.of_grown hg (fun b o x=>(s.dat b o x).1) (fun _ _ _=>by simp)
 have hx:Ext G.base G G:=Ext.refl (Base.le_refl _)
 have hb:∀ b o,w.heap[b]? = some o→w'.heap[b]? = some o:=fun b o x =>
  (hg.block b (Array.getElem?_eq_some_iff.1 x).1 (by simp)).trans x
 exact
 { below:=s.below.grown hg s.b0 (by simp)
   b0:=Nat.le_trans s.b0 hg.size
   bxl:=s.bxl
   box:=fun r b cs h1 h2=>by
    obtain ⟨hB,ob,hh,hr⟩:=s.box r b cs h1 h2
    exact ⟨hB,ob,hb _ _ hh,hr.keep hx hk rfl⟩
   virt:=s.virt
   inj:=s.inj
   dat:=fun b o x=>by
    obtain ⟨⟨u,hu⟩,hn⟩:=s.dat b o x
    exact ⟨⟨u,(hk b o x).trans hu⟩,hn⟩
   dat0:=s.dat0
   tkl:=s.tkl
   tok:=fun t g ht=>by
    obtain ⟨h1,h2⟩:=s.tok t g ht
    refine ⟨h1,fun hlt => ?_⟩
    obtain ⟨b,hA,hB,hn,cs,et,fr,hh,hc,hi⟩:=h2 hlt
    refine ⟨b,hA,hB,hn,cs,et,fr,hb _ _ hh,hc,fun i hi1 hi2=>⟨(hi i hi1 hi2).1,?_⟩⟩
    rw [World.frozen?_of_block (w:=w) (by rw [hh]; exact hb _ _ hh)]
    exact (hi i hi1 hi2).2
   tki:=s.tki
   lpl:=s.lpl
   loop:=fun j p st h1 h2=>by
    obtain ⟨hB,rec,hh,hr⟩:=s.loop j p st h1 h2
    exact ⟨hB,rec,hb _ _ hh,hr⟩
   lpi:=s.lpi
   dfr:=fun d hd=>⟨(s.dfr d hd).1,hb _ _ (s.dfr d hd).2⟩
   dfn:=s.dfn }
end Go.AM
set_option linter.unusedVariables false
set_option linter.unusedSimpArgs false
namespace Go.AM
open Go.RowKit
theorem addp (b o j:Nat):(⟨b,o,none⟩:Addr).add j=⟨b,o+j,none⟩:=by unfold Addr.add; split<;>simp_all
theorem zap (w:World) (G:GS):RepV w G undef (.tup []):=.tup #[] [] rfl (by intro i v c h; simp at h)
structure EnvR (w:World) (G:GS) (N:Nat) (tmps:Array Value) (e:Env):Prop where
 size:tmps.size=N
 rep:∀ t:Nat,RepV w G (tmps.getD t undef) (get e t)
theorem EnvR.mono {w w':World} {G G':GS} {N:Nat} {tmps:Array Value} {e:Env} (h:EnvR w G N tmps e) (he:Ext G.base G G') (hk:Keep G.D w w'):EnvR w' G' N tmps e:=
 ⟨h.size,fun t=>(h.rep t).mono he hk⟩
theorem zc9 (d:Nat) (v:AV) (e:Env) (t:Nat):get ((d,v)::e) t=if d=t then v else get e t:=by
 simp only [get]
 by_cases h:d=t
 · subst h; simp
 · rw [if_neg h]
   have:Nat.beq d t=false:=by
    cases hb:Nat.beq d t
    · rfl
    · exact absurd (Nat.eq_of_beq_eq_true hb) h
   rw [this]; rfl
theorem EnvR.put {w:World} {G:GS} {N:Nat} {tmps:Array Value} {e:Env} (h:EnvR w G N tmps e) {d:Nat} {v:Value} {a:AV} (hd:d<N) (hv:RepV w G v a):EnvR w G N (tmps.setIfInBounds d v) ((d,a)::e):=by
 refine ⟨by simp [h.size],fun t => ?_⟩
 rw [zc9]
 by_cases ht:d=t
 · subst ht
   rw [if_pos rfl]
   have:(tmps.setIfInBounds d v).getD d undef=v:=by simp [Array.getD,h.size,hd]
   rw [this]; exact hv
 · rw [if_neg ht]
   have:(tmps.setIfInBounds d v).getD t undef=tmps.getD t undef:=by
    simp only [Array.getD_eq_getD_getElem?]
    rw [Array.getElem?_setIfInBounds_ne ht]
   rw [this]; exact h.rep t
theorem nble {a b:Nat}:Nat.ble a b=true↔a≤b:=⟨Nat.le_of_ble_eq_true,Nat.ble_eq_true_of_le⟩
theorem nblt {a b:Nat}:Nat.blt a b=true↔a<b:=by simp [Nat.blt,nble,Nat.succ_le_iff]
theorem nbeq {a b:Nat}:Nat.beq a b=true↔a=b:=⟨Nat.eq_of_beq_eq_true,fun h=>by subst h; exact Nat.beq_refl a⟩
theorem zb {X:Type} {c:Bool} {x:Option X} {r:X} (h:(bif c then x else none)=some r):c=true∧x=some r:=by
 cases c
 · cases h
 · exact ⟨rfl,h⟩
theorem zn6 (w:World) (G:GS) (v:Value):RepV w G v (ofVal v):=by
 cases v with
 | bool b=>exact .bool b
 | int k n =>
  by_cases hk:k = .u8
  · subst hk
    simp only [ofVal]
    cases hc:decide (0≤n)&&decide (n<256)
    · exact .any _
    · simp only [Bool.and_eq_true,decide_eq_true_eq] at hc
      exact .int _ _ fun _=>hc
  · have:ofVal (.int k n) = .int k n:=by cases k<;>first | rfl | exact absurd rfl hk
    rw [this]
    exact .int _ _ fun e=>absurd e hk
 | string s =>
  simp only [ofVal]
  cases hc:Nat.ble s.data.size strMax
  · exact .any _
  · exact .str _ _ rfl (by simpa using nble.1 hc)
 | pointer a=>cases a with
  | none=>exact .nilp
  | some a=>exact .any _
 | slice a n c =>
  cases a with
  | none =>
   cases n with
   | zero=>cases c with
    | zero=>exact .nils
    | succ c=>exact .any _
   | succ n=>exact .any _
  | some a=>exact .any _
 | func f x y=>cases f with
  | func f =>
   simp only [ofVal]
   cases hc:Nat.beq x.size 0&&Nat.beq y.size 0
   · exact .any _
   · simp only [Bool.and_eq_true,nbeq] at hc
     refine .fn f x y [] [] hc.1 (fun i v c _ h=>by simp at h) hc.2 (fun i v c _ h=>by simp at h)
  | _=>exact .any _
 | nilFunc=>exact .nilfn
 | nilIface=>exact .err0
 | _=>exact .any _
theorem EnvR.ev {w:World} {G:GS} {N:Nat} {a:Act} {e:Env} (h:EnvR w G N a.tmps e) (x:Operand):RepV w G (a.eval x) (ev e x):=by
 cases x with
 | tmp t=>exact h.rep t
 | const v=>exact zn6 w G v
 | global g=>exact .any _
 | func f=>exact .fn f #[] #[] [] [] rfl (by simp) rfl (by simp)
theorem zac {w:World} {G:GS} {v:Value} {a:AV} (h:RepV w G v a) (ty:Option Ty):RepV w G v (typ ty a):=by
 cases a with
 | nils =>
  cases ty with
  | none=>exact h
  | some τ =>
   cases τ with
   | sl e =>
    cases h
    refine .sl e [] .full _ ?_ ⟨none,rfl⟩
    simp only [RepC]
    exact ⟨by simp,none,0,[],rfl,by simp,rfl,fun h=>by simp at h⟩
   | _=>exact h
 | _=>exact h
theorem zjb:∀ (ts:List Ty) (cs:List AV),(typC ts cs).length=cs.length
 | [],_=>rfl
 | _::_,[]=>rfl
 | _::ts,_::cs=>by simp [typC,zjb ts cs]
theorem zjc:∀ (ts:List Ty) (cs:List AV) (i:Nat) (c:AV),(typC ts cs)[i]? = some c→∃ c0 ty,cs[i]? = some c0∧(c=typ ty c0∨c=c0)
 | [],cs,i,c,h=>⟨c,none,h,.inr rfl⟩
 | _::_,[],i,c,h=>by simp [typC] at h
 | t::ts,a::cs,0,c,h=>by
  simp only [typC,List.getElem?_cons_zero,Option.some.injEq] at h
  exact ⟨a,some t,rfl,.inl h.symm⟩
 | t::ts,a::cs,i+1,c,h=>by
  simp only [typC,List.getElem?_cons_succ] at h
  simpa using zjc ts cs i c h
theorem zqo {w:World} {G:GS} {v:Value} {a:AV} (h:RepV w G v a) (ty:Option Ty):RepV w G v (typA ty a):=by
 unfold typA
 split
 · cases h with
   | agg vs cs hl hc =>
    refine .agg vs _ (by rw [zjb]; exact hl) fun i v c hv hcc => ?_
    obtain ⟨c0,t,h0,hor⟩:=zjc _ _ i c hcc
    have:=hc i v c0 hv h0
    rcases hor with rfl | rfl
    · exact zac this t
    · exact this
 · exact zac h _
theorem za5 {w:World} {G:GS} {v:Value} {a:AV} (h:RepV w G v a) (ha:a ≠ .any):RepL w G v.cells.toList (cellsOf a):=by
 have one:∀ (u:Value) (c:AV),RepV w G u c→RepL w G [u] [c]:=fun u c hu=>⟨rfl,fun i v c' hv hc=>by
  cases i with
  | zero=>simp at hv hc; subst hv; subst hc; exact hu
  | succ i=>simp at hv⟩
 cases h with
 | any=>exact absurd rfl ha
 | agg vs cs hl h=>exact ⟨by simpa [Value.cells,cellsOf] using hl,fun i v c hv hc=>h i v c (by simpa [Value.cells] using hv) hc⟩
 | sl τ l c v h hc =>
  have h':=h
  simp only [RepC] at h
  obtain ⟨_,A,cc,_,hv,_⟩:=h
  simp at hv
  subst hv
  exact one _ _ (.sl τ l c _ h' hc)
 | bool b=>exact one _ _ (.bool b)
 | int k n h=>exact one _ _ (.int k n h)
 | str s l h hl=>exact one _ _ (.str s l h hl)
 | nils=>exact one _ _ .nils
 | tup vs cs hl h=>exact one _ _ (.tup vs cs hl h)
 | nilp=>exact one _ _ .nilp
 | ref r off b h hv=>exact one _ _ (.ref r off b h hv)
 | ms r v n τ x h0 hs h =>
  have hs':=hs
  obtain ⟨A,c,rfl,_⟩:=hs
  exact one _ _ (.ms r v n τ _ h0 hs' h)
 | ep r v i off τ x h0 hs h =>
  have hs':=hs
  obtain ⟨b1,o1,rfl⟩:=hs
  exact one _ _ (.ep r v i off τ _ h0 hs' h)
 | imm b o us cs hl hm h=>exact one _ _ (.imm b o us cs hl hm h)
 | imms n b o c us cs h0 hc hl hm h=>exact one _ _ (.imms n b o c us cs h0 hc hl hm h)
 | bcell r T b v h hv hp =>
  rcases hp with e | e
  · subst e; exact one _ _ (.bcell r T b _ h hv (.inl rfl))
  · subst e; exact one _ _ (.bcell r T b _ h hv (.inr rfl))
 | mref r b h hv=>exact one _ _ (.mref r b h hv)
 | nilfn=>exact one _ _ .nilfn
 | fn f x y a b hx h1 hy h2=>exact one _ _ (.fn f x y a b hx h1 hy h2)
 | yield j p h=>exact one _ _ (.yield j p h)
 | err0=>exact one _ _ .err0
 | err1 t x=>exact one _ _ (.err1 t x)
theorem zau {a:AV} (h:0<(cellsOf a).length):a ≠ .any:=by rintro rfl; simp [cellsOf] at h
theorem ztg {w:World} {G:GS} {v:Value} {a:AV} (h:RepV w G v a) (h1:one1 a=true):v.oneCell'=true:=by
 cases h with
 | any=>simp [one1] at h1
 | agg=>simp [one1] at h1
 | tup=>simp [one1] at h1
 | bcell=>simp [one1] at h1
 | sl τ l c v h hc =>
  simp only [RepC] at h
  obtain ⟨_,A,cc,_,hv,_⟩:=h
  simp at hv
  subst hv
  rfl
 | ms r v n τ x h0 hs h =>
  obtain ⟨A,c,rfl,_⟩:=hs
  rfl
 | ep r v i off τ x h0 hs h =>
  obtain ⟨b1,o1,rfl⟩:=hs
  rfl
 | _=>rfl
theorem zfy {w:World} {G:GS}:∀ {vs:List Value} {cs:List AV},RepL w G vs cs→oneL cs=true→∀ v∈vs,v.oneCell'=true
 | [],_,_,_,v,h=>by cases h
 | u::vs,[],h,_,v,hv=>by have:=h.1; simp at this
 | u::vs,c::cs,h,h1,v,hv=>by
  simp only [oneL,Bool.and_eq_true] at h1
  cases hv with
  | head=>exact ztg (h.2 0 _ _ rfl rfl) h1.1
  | tail _ hv=>exact zfy (vs:=vs) (cs:=cs) ⟨by simpa using h.1,fun i v c h2 h3=>h.2 (i+1) v c (by simpa using h2) (by simpa using h3)⟩ h1.2 v hv
theorem RepL.take {w:World} {G:GS} {vs:List Value} {cs:List AV} (h:RepL w G vs cs) (n:Nat):RepL w G (vs.take n) (cs.take n):=
 ⟨by simp [h.1],fun i v c hv hc=>by
  rw [List.getElem?_take] at hv hc
  split at hv
  · rename_i hi
    rw [if_pos hi] at hc
    exact h.2 i v c hv hc
  · cases hv⟩
theorem RepL.drop {w:World} {G:GS} {vs:List Value} {cs:List AV} (h:RepL w G vs cs) (n:Nat):RepL w G (vs.drop n) (cs.drop n):=
 ⟨by simp [h.1],fun i v c hv hc=>h.2 (n+i) v c (by simpa using hv) (by simpa using hc)⟩
theorem RepL.append {w:World} {G:GS} {vs us:List Value} {cs ds:List AV} (h:RepL w G vs cs) (k:RepL w G us ds):RepL w G (vs++us) (cs++ds):=
 ⟨by simp [h.1,k.1],fun i v c hv hc=>by
  by_cases hi:i<vs.length
  · rw [List.getElem?_append_left hi] at hv
    rw [List.getElem?_append_left (by rw [← h.1]; exact hi)] at hc
    exact h.2 i v c hv hc
  · rw [List.getElem?_append_right (by omega)] at hv
    rw [List.getElem?_append_right (by rw [← h.1]; omega),← h.1] at hc
    exact k.2 _ v c hv hc⟩
theorem RepL.nil {w:World} {G:GS}:RepL w G [] []:=⟨rfl,fun i v c h=>by simp at h⟩
theorem RepL.cons {w:World} {G:GS} {v:Value} {c:AV} {vs:List Value} {cs:List AV} (h:RepV w G v c) (k:RepL w G vs cs):RepL w G (v::vs) (c::cs):=
 ⟨by simp [k.1],fun i u d hu hd=>by
  cases i with
  | zero=>simp at hu hd; subst hu; subst hd; exact h
  | succ i=>exact k.2 i u d (by simpa using hu) (by simpa using hd)⟩
theorem RepL.tail {w:World} {G:GS} {v:Value} {c:AV} {vs:List Value} {cs:List AV} (h:RepL w G (v::vs) (c::cs)):RepV w G v c∧RepL w G vs cs:=
 ⟨h.2 0 v c rfl rfl,by simpa using h.1,fun i u d hu hd=>h.2 (i+1) u d (by simpa using hu) (by simpa using hd)⟩
mutual
theorem zax {w:World} {G:GS}:∀ (τ:Ty) (x:τ.den) (vs:List Value),RepC w G.D τ x vs→RepL w G vs (τ.cells x)
 | .u8,x,vs,h=>by
  simp only [RepC] at h; subst h
  simp only [Ty.cells]
  exact .cons (.int _ _ fun _=>⟨by omega,by have:=x.toNat_lt; omega⟩) .nil
 | .u8t _,x,vs,h=>by
  simp only [RepC] at h; subst h
  simp only [Ty.cells]
  exact .cons (.int _ _ fun _=>⟨by omega,by have:=UInt8.toNat_lt x; omega⟩) .nil
 | .int k,x,vs,h=>by
  simp only [RepC] at h; obtain ⟨hk,rfl⟩:=h
  simp only [Ty.cells]
  exact .cons (.int _ _ hk) .nil
 | .bool,x,vs,h=>by
  simp only [RepC] at h; subst h
  simp only [Ty.cells]
  exact .cons (.bool _) .nil
 | .str,x,vs,h=>by
  simp only [RepC] at h
  obtain ⟨hl,bs,rfl,hs⟩:=h
  simp only [Ty.cells]
  exact .cons (.str _ _ hs hl) .nil
 | .sl e,l,vs,h=>by
  have h':=h
  simp only [RepC] at h
  obtain ⟨_,A,c,_,rfl,_⟩:=h
  simp only [Ty.cells]
  exact .cons (.sl e l .unk _ h' trivial) .nil
 | .agg ts,x,vs,h=>by
  simp only [RepC] at h
  simp only [Ty.cells]
  exact zfa ts x vs h
theorem zfa {w:World} {G:GS}:∀ (ts:List Ty) (x:denL ts) (vs:List Value),RepCL w G.D ts x vs→RepL w G vs (cellsL ts x)
 | [],x,vs,h=>by
  simp only [RepCL] at h; subst h
  exact .nil
 | [t],x,vs,h=>by
  simp only [RepCL] at h
  simp only [cellsL]
  exact zax t x vs h
 | t::u::us,(x,y),vs,h=>by
  simp only [RepCL] at h
  obtain ⟨v1,v2,rfl,h1,h2⟩:=h
  simp only [cellsL]
  exact (zax t x v1 h1).append (zfa (u::us) y v2 h2)
end
mutual
theorem zda:∀ (τ:Ty) (x:τ.den),(τ.cells x).length=τ.size
 | .u8,x=>rfl
 | .u8t _,x=>rfl
 | .int k,x=>rfl
 | .bool,x=>rfl
 | .str,x=>rfl
 | .sl e,l=>rfl
 | .agg ts,x=>by simp only [Ty.cells,Ty.size]; exact zfb ts x
theorem zfb:∀ (ts:List Ty) (x:denL ts),(cellsL ts x).length=sizeL ts
 | [],x=>rfl
 | [t],x=>by simp only [cellsL,sizeL,Nat.add_zero]; exact zda t x
 | t::u::us,(x,y)=>by
  have h:=zfb (u::us) y
  simp only [cellsL,List.length_append,sizeL] at h ⊢
  rw [zda t x,h]
end
theorem zu {w:World} {D:Nat→Nat→Prop} {τ:Ty} {x:τ.den} {vs:List Value} (h:RepC w D τ x vs):vs.length=τ.size:=by
 have:=(zax (w:=w) (G:=⟨D,[],[],[],[],bv0⟩) τ x vs h).1
 rw [this,zda]
end Go.AM
set_option linter.unusedVariables false
set_option linter.unusedSimpArgs false
namespace Go.AM
open Go.RowKit
def TdOK (P:Program) (t:Nat):TD→Prop
 | .int k=>P.underlying t=some (.int k)
 | .bool=>P.underlying t=some .bool
 | .str=>P.underlying t=some .string
 | .slice e=>P.underlying t=some (.slice e)
 | .arr n e=>P.underlying t=some (.array n e)
 | .struct fs=>∃ fields:Array Field,P.underlying t=some (.struct fields)∧fields.toList.map (fun f=>(f.offset,f.type))=fs∧∀ f∈fields.toList,∃ i,P.info? f.type=some i
 | .ptr=>∃ e,P.underlying t=some (.pointer e)
 | .func=>∃ ps rs v,P.underlying t=some (.func ps rs v)
 | .iface=>∃ ms,P.underlying t=some (.interface ms)
 | .other=>True
 | .map k e=>P.underlying t=some (.map k e)
def descAgg:TypeDesc→Bool
 | .struct _=>true
 | .array _ _=>true
 | _=>false
structure TiOK (P:Program) (t:Nat) (ti:TI):Prop where
 info:∃ i,P.info? t=some i∧i.size=ti.size∧i.bytes=ti.bytes∧(ti.zero≠[]→∃ z,i.zero=some z∧∀ w G,RepL w G z.cells.toList ti.zero)
 agg:∃ d,P.underlying t=some d∧ti.agg=descAgg d
 d:TdOK P t ti.d
 cmp:ti.cmp=true→P.eqGuardType P.depth t=false∧∀ (w:World) (G:GS) (xs ys:Array Value) (aS bs:List AV) (c:Bool),kindsB aS ti.zero=true→RepL w G xs.toList aS→RepL w G ys.toList bs→eqL aS bs=some c →
  (Op.equal t (.agg xs) (.agg ys)).run P w = .ok c w
def TabOK (P:Program) (tab:Nat→Option TI):Prop:=∀ t ti,tab t=some ti→TiOK P t ti
section
variable {P:Program} {w:World} {G:GS}
theorem zq {t:Nat} {ti:TI} (h:TiOK P t ti):(sizeOf t).run P w = .ok ti.size w:=by
 obtain ⟨i,hi,hs,_⟩:=h.info
 simp [sizeOf,typeInfo,hi,hs]
theorem zgk {t:Nat} {ti:TI} (h:TiOK P t ti):(isAgg t).run P w = .ok ti.agg w:=by
 obtain ⟨d,hd,ha⟩:=h.agg
 unfold isAgg
 simp only [Sem.run_bind,run_underlying hd,Result.andThen_ok]
 rw [ha]
 cases d<;>rfl
theorem zr {b o:Nat} {vs:Array Value} {t:TypeId} {fr:Nat×Nat} (h:w.heap[b]? = some (.cells vs t fr)):w.cell? ⟨b,o,none⟩=vs[o]?:=by
 simp [World.cell?,h]
theorem zn7 {a:Addr} {v:Value} (h:w.cell? a=some v):(load a).run P w = .ok v w:=by
 simp [load,Sem.run,h]
theorem zca {t:Nat} {ti:TI} (h:TiOK P t ti) {b o:Nat} {us:List Value} {cs:List AV} {r:AV} (hl:us.length=ti.size)
 (hm:∀ (i:Nat) (u:Value),us[i]? = some u→w.cell? ⟨b,o+i,none⟩=some u) (hr:RepL w G us cs) (hv:mkVal ti.agg cs=some r) :
 ∃ v,(loadVar t ⟨b,o,none⟩).run P w = .ok v w∧RepV w G v r:=by
 unfold loadVar
 simp only [Sem.run_bind,zgk h,Result.andThen_ok]
 cases ha:ti.agg with
 | true =>
  rw [ha] at hv
  simp only [mkVal,Option.some.injEq] at hv
  subst hv
  refine ⟨.agg us.toArray,?_,.agg _ _ (by simpa using hr.1) (fun i v c hv hc=>hr.2 i v c (by simpa using hv) hc)⟩
  simp only [if_true,Sem.run_bind,zq h,Result.andThen_ok]
  rw [← hl,run_loadCells_list (P:=P) w ⟨b,o,none⟩ us (fun j v hj=>by rw [addp]; exact hm j v hj)]
  rfl
 | false =>
  rw [ha] at hv
  cases cs with
  | nil=>simp [mkVal] at hv
  | cons c cs=>cases cs with
   | cons d ds=>simp [mkVal] at hv
   | nil =>
    simp only [mkVal,Option.some.injEq] at hv
    subst hv
    have h1:us.length=1:=by simpa using hr.1
    match us,h1 with
    | [u],_ =>
     refine ⟨u,?_,hr.2 0 u c rfl rfl⟩
     simp only [Bool.false_eq_true,if_false]
     exact zn7 (by simpa using hm 0 u rfl)
theorem zfc {B0:Nat} {w0:Wd} {h:H} (s:St B0 w0 G h w) {t:Nat} {ti:TI} (hti:TiOK P t ti) {pv:Value} {pa r:AV} (hp:RepV w G pv pa)
 (hl:loadA ti pa h=some r):∃ v,(Instr.loadAt t pv).run P w = .ok v w∧RepV w G v r:=by
 unfold loadA at hl
 split at hl
 · rename_i q off
   split at hl
   · rename_i cs hq
     cases hir:isRow cs with
     | true=>rw [hir] at hl; cases hl
     | false =>
     rw [hir,cond_false] at hl
     split at hl
     · rename_i ds hd
       rw [zl] at hq
       rw [za4] at hd
       obtain ⟨e1,e2⟩:=zbr _ _ _ hd
       cases hp with
       | ref _ _ b hb =>
        obtain ⟨_,ob,hh,hr⟩:=s.box _ _ _ hb hq
        obtain ⟨vs,ty,rfl,_,hr,_⟩:=hr.list hir
        have hR:=(hr.drop off).take ti.size
        rw [← e1] at hR
        have hlen:((vs.toList.drop off).take ti.size).length=ti.size:=by rw [hR.1,e2]
        obtain ⟨v,hv,hrep⟩:=zca (w:=w) (G:=G) hti (b:=b) (o:=off) hlen (fun i u hu=>by
         rw [zr hh]
         rw [List.getElem?_take] at hu
         split at hu
         · simpa using hu
         · cases hu) hR hl
        refine ⟨v,?_,hrep⟩
        simp only [Instr.loadAt,Instr.sureAddr,Sem.run_bind,Sem.run_pure,Result.andThen_ok]
        exact hv
     · cases hl
   · cases hl
 · rename_i cs
   split at hl
   · rename_i ds hd
     obtain ⟨e1,e2⟩:=zbr _ _ _ hd
     cases hp with
     | imm b o us _ hll hm hrr =>
      have hR:=(RepL.take ⟨hll,hrr⟩ ti.size)
      rw [← e1] at hR
      have hlen:(us.take ti.size).length=ti.size:=by rw [hR.1,e2]
      obtain ⟨v,hv,hrep⟩:=zca (w:=w) (G:=G) hti (b:=b) (o:=o) hlen (fun i u hu=>by
       rw [List.getElem?_take] at hu
       split at hu
       · exact (hm i u hu).2
       · cases hu) hR hl
      refine ⟨v,?_,hrep⟩
      simp only [Instr.loadAt,Instr.sureAddr,Sem.run_bind,Sem.run_pure,Result.andThen_ok]
      exact hv
   · cases hl
 · cases hl
theorem zbv:∀ (off:Nat) (vs cs r:List AV),splice off vs cs=some r→off+vs.length≤cs.length∧r=cs.take off++vs++cs.drop (off+vs.length)∨(vs=[]∧r=cs)
 | _,[],cs,r,h=>by
  right
  cases cs<;>simp [splice] at h<;>simp [h]
 | 0,v::vs,[],r,h=>by simp [splice] at h
 | 0,v :: vs,c::cs,r,h=>by
  simp only [splice] at h
  split at h
  · rename_i q hq
    obtain rfl:=Option.some.inj h
    left
    rcases zbv 0 vs cs q hq with ⟨h1,h2⟩ | ⟨rfl,rfl⟩
    · simp at h1 h2 ⊢
      exact ⟨h1,h2⟩
    · simp
  · cases h
 | n+1,v::vs,[],r,h=>by simp [splice] at h
 | n + 1,v::vs,c::cs,r,h=>by
  simp only [splice] at h
  split at h
  · rename_i q hq
    obtain rfl:=Option.some.inj h
    left
    rcases zbv n (v::vs) cs q hq with ⟨h1,h2⟩ | ⟨h1,_⟩
    · refine ⟨by simp at h1 ⊢; omega,?_⟩
      rw [h2,show n+1+(v::vs).length=(n+(v::vs).length)+1 from by omega]
      simp
    · cases h1
  · cases h
theorem St.addBox {B0:Nat} {w0:Wd} {h:H} (s:St B0 w0 G h w) {vs:Array Value} {cs:List AV} (t:TypeId) (g:BvG)
 (hr:∀ G':GS,Ext G.base G G'→G'.bv h.bx.length=g→G'.bx[h.bx.length]? = some (some w.heap.size)→Keep G.D w (w.alloc (.cells vs t))→RepB (w.alloc (.cells vs t)) G' h.bx.length vs.toList cs) (hT:∀ T,tyOf cs=some T→t=T) :
 ∃ G',Ext G.base G G'∧Keep G.D w (w.alloc (.cells vs t))∧St B0 w0 G' { h with bx:=h.bx++[cs] } (w.alloc (.cells vs t)) ∧
  G'.bx[h.bx.length]? = some (some w.heap.size)∧G'.bv h.bx.length=g∧G'.D=G.D:=by
 have hg:w.grownBy (w.alloc (.cells vs t)) none:=World.grownBy_alloc w _ none
 have s':=s.grown0 hg
 have hk:Keep G.D w (w.alloc (.cells vs t)):=Keep.of_grown hg (fun b o x=>(s.dat b o x).1) (fun _ _ _=>by simp)
 have hlt:∀ (r b:Nat),G.bx[r]? = some (some b)→b<w.heap.size:=fun r b hb=>by
  have hr':r<h.bx.length:=by rw [s.bxl]; exact (List.getElem?_eq_some_iff.1 hb).1
  obtain ⟨_,ob,hh,_⟩:=s.box r b _ hb (List.getElem?_eq_getElem hr')
  exact (Array.getElem?_eq_some_iff.1 hh).1
 have hbv:∀ r,r<G.bx.length→(fun r=>if r=G.bx.length then g else G.bv r) r=G.bv r:=fun r hr=>if_neg (by omega)
 have hx:Ext G.base G { G with bx:=G.bx++[some w.heap.size],bv:=fun r=>if r=G.bx.length then g else G.bv r }:=
  { D := fun _ _ x=>x
    bx:=fun r hr=>by
     have:r<G.bx.length:=hr
     exact .inl ⟨by simp [List.getElem?_append_left this],hbv r this⟩
    tk:=(Ext.refl (Base.le_refl _)).tk
    lp:=fun _ _=>rfl
    df:=rfl }
 refine ⟨{ G with bx:=G.bx++[some w.heap.size],bv:=fun r=>if r=G.bx.length then g else G.bv r },hx,hk,?_,by simp [s.bxl],by simp [s.bxl],rfl⟩
 exact
 { below := s'.below
   b0:=s'.b0
   bxl:=by simp [s.bxl]
   box := fun r b ds h1 h2=>by
    by_cases hr':r<G.bx.length
    · simp only [List.getElem?_append_left hr'] at h1
      simp only [List.getElem?_append_left (by rw [s.bxl]; exact hr')] at h2
      obtain ⟨hB,ob,hh,hrr⟩:=s'.box r b ds h1 h2
      exact ⟨hB,ob,hh,hrr.keep hx (Keep.refl _ _) (hbv r hr')⟩
    · simp only [List.getElem?_append_right (Nat.le_of_not_lt hr')] at h1
      simp only [List.getElem?_append_right (by rw [s.bxl]; exact Nat.le_of_not_lt hr')] at h2
      have e0:r - G.bx.length=0:=by
       have:=(List.getElem?_eq_some_iff.1 h1).1
       simp at this
       omega
      rw [e0] at h1
      rw [s.bxl,e0] at h2
      simp at h1 h2
      subst h1
      subst h2
      have er:r=G.bx.length:=by omega
      subst er
      refine ⟨s.b0,_,World.alloc_heap_new w _,.cells _ _ _ ?_ hT⟩
      have hh:=hr _ hx (by simp [s.bxl]) (by simp [s.bxl]) hk
      rw [s.bxl] at hh
      exact hh
   virt:=fun r ds h1 h2=>by
    by_cases hr':r<G.bx.length
    · simp only [List.getElem?_append_left hr'] at h1
      simp only [List.getElem?_append_left (by rw [s.bxl]; exact hr')] at h2
      rcases s'.virt r ds h1 h2 with ⟨v,τ,e1,e2,e3,e4⟩ | ⟨e1,e2⟩
      · exact .inl ⟨v,τ,e1,e2,e3,(hbv r hr').trans e4⟩
      · exact .inr ⟨e1,(congrArg BvG.v (hbv r hr')).trans e2⟩
    · simp only [List.getElem?_append_right (Nat.le_of_not_lt hr')] at h1
      have e0:r - G.bx.length=0:=by
       have:=(List.getElem?_eq_some_iff.1 h1).1
       simp at this
       omega
      rw [e0] at h1
      simp at h1
   inj := fun r r' b h1 h2=>by
    by_cases hr1:r<G.bx.length
    · simp only [List.getElem?_append_left hr1] at h1
      by_cases hr2:r'<G.bx.length
      · simp only [List.getElem?_append_left hr2] at h2
        exact s.inj r r' b h1 h2
      · simp only [List.getElem?_append_right (Nat.le_of_not_lt hr2)] at h2
        have e0:r' - G.bx.length=0:=by
         have:=(List.getElem?_eq_some_iff.1 h2).1
         simp at this
         omega
        rw [e0] at h2
        simp at h2
        have:=hlt r b h1
        omega
    · simp only [List.getElem?_append_right (Nat.le_of_not_lt hr1)] at h1
      have e0:r - G.bx.length=0:=by
       have:=(List.getElem?_eq_some_iff.1 h1).1
       simp at this
       omega
      rw [e0] at h1
      simp at h1
      by_cases hr2:r'<G.bx.length
      · simp only [List.getElem?_append_left hr2] at h2
        have:=hlt r' b h2
        omega
      · simp only [List.getElem?_append_right (Nat.le_of_not_lt hr2)] at h2
        have e0':r' - G.bx.length=0:=by
         have:=(List.getElem?_eq_some_iff.1 h2).1
         simp at this
         omega
        omega
   dat:=fun b o x=>by
    obtain ⟨hu,hn⟩:=s'.dat b o x
    refine ⟨hu,?_⟩
    simp only [List.mem_append,List.mem_singleton,not_or,Option.some.injEq]
    refine ⟨hn,?_⟩
    obtain ⟨u,hu0⟩:=(s.dat b o x).1
    have:=World.block_lt_of_cell? w _ hu0
    simp at this
    omega
   dat0:=s'.dat0
   tkl:=s'.tkl
   tok:=fun t g ht=>by
    obtain ⟨h1,h2⟩:=s'.tok t g ht
    refine ⟨h1,fun hlt' => ?_⟩
    obtain ⟨b,hA,hB,hn,cs',et,fr,hh,hc,hi⟩:=h2 hlt'
    refine ⟨b,hA,hB,?_,cs',et,fr,hh,hc,hi⟩
    simp only [List.mem_append,List.mem_singleton,not_or,Option.some.injEq]
    refine ⟨hn,?_⟩
    obtain ⟨b',hA',_,_,cs0,_,_,hh0,_⟩:=(s.tok t g ht).2 hlt'
    rw [hA] at hA'
    obtain rfl:=Option.some.inj hA'
    have:=(Array.getElem?_eq_some_iff.1 hh0).1
    omega
   tki:=s'.tki
   lpl:=s'.lpl
   loop:=s'.loop
   lpi:=s'.lpi
   dfr:=s'.dfr
   dfn:=s'.dfn }
theorem St.addObj {B0:Nat} {w0:Wd} {h:H} (s:St B0 w0 G h w) {ob:Obj} {cs:List AV} (g:BvG)
 (hr:∀ G':GS,Ext G.base G G'→G'.bv h.bx.length=g→G'.bx[h.bx.length]? = some (some w.heap.size)→Keep G.D w (w.alloc ob)→RepO (w.alloc ob) G' h.bx.length ob cs) :
 ∃ G',Ext G.base G G'∧Keep G.D w (w.alloc ob)∧St B0 w0 G' { h with bx:=h.bx++[cs] } (w.alloc ob) ∧
  G'.bx[h.bx.length]? = some (some w.heap.size)∧G'.bv h.bx.length=g∧G'.D=G.D:=by
 have hg:w.grownBy (w.alloc ob) none:=World.grownBy_alloc w _ none
 have s':=s.grown0 hg
 have hk:Keep G.D w (w.alloc ob):=Keep.of_grown hg (fun b o x=>(s.dat b o x).1) (fun _ _ _=>by simp)
 have hlt:∀ (r b:Nat),G.bx[r]? = some (some b)→b<w.heap.size:=fun r b hb=>by
  have hr':r<h.bx.length:=by rw [s.bxl]; exact (List.getElem?_eq_some_iff.1 hb).1
  obtain ⟨_,ob',hh,_⟩:=s.box r b _ hb (List.getElem?_eq_getElem hr')
  exact (Array.getElem?_eq_some_iff.1 hh).1
 have hbv:∀ r,r<G.bx.length→(fun r=>if r=G.bx.length then g else G.bv r) r=G.bv r:=fun r hr=>if_neg (by omega)
 have hx:Ext G.base G { G with bx:=G.bx++[some w.heap.size],bv:=fun r=>if r=G.bx.length then g else G.bv r }:=
  { D := fun _ _ x=>x
    bx:=fun r hr=>by
     have:r<G.bx.length:=hr
     exact .inl ⟨by simp [List.getElem?_append_left this],hbv r this⟩
    tk:=(Ext.refl (Base.le_refl _)).tk
    lp:=fun _ _=>rfl
    df:=rfl }
 refine ⟨{ G with bx:=G.bx++[some w.heap.size],bv:=fun r=>if r=G.bx.length then g else G.bv r },hx,hk,?_,by simp [s.bxl],by simp [s.bxl],rfl⟩
 exact
 { below := s'.below
   b0:=s'.b0
   bxl:=by simp [s.bxl]
   box := fun r b ds h1 h2=>by
    by_cases hr':r<G.bx.length
    · simp only [List.getElem?_append_left hr'] at h1
      simp only [List.getElem?_append_left (by rw [s.bxl]; exact hr')] at h2
      obtain ⟨hB,ob',hh,hrr⟩:=s'.box r b ds h1 h2
      exact ⟨hB,ob',hh,hrr.keep hx (Keep.refl _ _) (hbv r hr')⟩
    · simp only [List.getElem?_append_right (Nat.le_of_not_lt hr')] at h1
      simp only [List.getElem?_append_right (by rw [s.bxl]; exact Nat.le_of_not_lt hr')] at h2
      have e0:r - G.bx.length=0:=by
       have:=(List.getElem?_eq_some_iff.1 h1).1
       simp at this
       omega
      rw [e0] at h1
      rw [s.bxl,e0] at h2
      simp at h1 h2
      subst h1
      subst h2
      have er:r=G.bx.length:=by omega
      subst er
      refine ⟨s.b0,_,World.alloc_heap_new w _,?_⟩
      have hh:=hr _ hx (by simp [s.bxl]) (by simp [s.bxl]) hk
      rw [s.bxl] at hh
      exact hh
   virt:=fun r ds h1 h2=>by
    by_cases hr':r<G.bx.length
    · simp only [List.getElem?_append_left hr'] at h1
      simp only [List.getElem?_append_left (by rw [s.bxl]; exact hr')] at h2
      rcases s'.virt r ds h1 h2 with ⟨v,τ,e1,e2,e3,e4⟩ | ⟨e1,e2⟩
      · exact .inl ⟨v,τ,e1,e2,e3,(hbv r hr').trans e4⟩
      · exact .inr ⟨e1,(congrArg BvG.v (hbv r hr')).trans e2⟩
    · simp only [List.getElem?_append_right (Nat.le_of_not_lt hr')] at h1
      have e0:r - G.bx.length=0:=by
       have:=(List.getElem?_eq_some_iff.1 h1).1
       simp at this
       omega
      rw [e0] at h1
      simp at h1
   inj := fun r r' b h1 h2=>by
    by_cases hr1:r<G.bx.length
    · simp only [List.getElem?_append_left hr1] at h1
      by_cases hr2:r'<G.bx.length
      · simp only [List.getElem?_append_left hr2] at h2
        exact s.inj r r' b h1 h2
      · simp only [List.getElem?_append_right (Nat.le_of_not_lt hr2)] at h2
        have e0:r' - G.bx.length=0:=by
         have:=(List.getElem?_eq_some_iff.1 h2).1
         simp at this
         omega
        rw [e0] at h2
        simp at h2
        have:=hlt r b h1
        omega
    · simp only [List.getElem?_append_right (Nat.le_of_not_lt hr1)] at h1
      have e0:r - G.bx.length=0:=by
       have:=(List.getElem?_eq_some_iff.1 h1).1
       simp at this
       omega
      rw [e0] at h1
      simp at h1
      by_cases hr2:r'<G.bx.length
      · simp only [List.getElem?_append_left hr2] at h2
        have:=hlt r' b h2
        omega
      · simp only [List.getElem?_append_right (Nat.le_of_not_lt hr2)] at h2
        have e0':r' - G.bx.length=0:=by
         have:=(List.getElem?_eq_some_iff.1 h2).1
         simp at this
         omega
        omega
   dat:=fun b o x=>by
    obtain ⟨hu,hn⟩:=s'.dat b o x
    refine ⟨hu,?_⟩
    simp only [List.mem_append,List.mem_singleton,not_or,Option.some.injEq]
    refine ⟨hn,?_⟩
    obtain ⟨u,hu0⟩:=(s.dat b o x).1
    have:=World.block_lt_of_cell? w _ hu0
    simp at this
    omega
   dat0:=s'.dat0
   tkl:=s'.tkl
   tok:=fun t g ht=>by
    obtain ⟨h1,h2⟩:=s'.tok t g ht
    refine ⟨h1,fun hlt' => ?_⟩
    obtain ⟨b,hA,hB,hn,cs',et,fr,hh,hc,hi⟩:=h2 hlt'
    refine ⟨b,hA,hB,?_,cs',et,fr,hh,hc,hi⟩
    simp only [List.mem_append,List.mem_singleton,not_or,Option.some.injEq]
    refine ⟨hn,?_⟩
    obtain ⟨b',hA',_,_,cs0,_,_,hh0,_⟩:=(s.tok t g ht).2 hlt'
    rw [hA] at hA'
    obtain rfl:=Option.some.inj hA'
    have:=(Array.getElem?_eq_some_iff.1 hh0).1
    omega
   tki:=s'.tki
   lpl:=s'.lpl
   loop:=s'.loop
   lpi:=s'.lpi
   dfr:=s'.dfr
   dfn:=s'.dfn }
theorem St.newBox {B0:Nat} {w0:Wd} {h:H} (s:St B0 w0 G h w) {vs:Array Value} {cs:List AV} (hr:RepL w G vs.toList cs) (t:TypeId) (hn:noBld cs=true) :
 ∃ G',Ext G.base G G'∧Keep G.D w (w.alloc (.cells vs t))∧St B0 w0 G' { h with bx:=h.bx++[cs] } (w.alloc (.cells vs t)) ∧
  G'.bx[h.bx.length]? = some (some w.heap.size)∧(G'.bv h.bx.length).v=0:=by
 obtain ⟨G',h1,h2,h3,h4,h5,_⟩:=s.addBox (vs:=vs) (cs:=cs) t ⟨0,0,0,0⟩ (fun G' hx hg _ hk => .box _ _ hr.noRow (by rw [hg]) (hr.mono hx hk)) (fun T hT=>(zfx hn hr.noRow T hT).elim)
 exact ⟨G',h1,h2,h3,h4,by rw [h5]⟩
end
end Go.AM
set_option linter.unusedVariables false
set_option linter.unusedSimpArgs false
namespace Go.AM
open Go.RowKit
section
variable {P:Program} {w:World} {G:GS}
theorem zd8 (w:World) (g:Nat) (cs:Array Value):w.grownBy (w.setRow g cs) (some g):=
 ⟨rfl,rfl,rfl,by simp,fun k _ hk=>setRow_other w g k _ (fun e=>hk (by simp [e]))⟩
theorem zd2 (w:World) (g:Nat) (cs:Array Value) (a:Addr):(w.setRow g cs).frozen? a=w.frozen? a:=by
 by_cases h:a.block=g
 · cases hg:w.heap[g]? with
   | none =>
    have:(w.setRow g cs).heap[g]? = none:=by simp [World.setRow,Array.getElem?_modify,hg]
    simp [World.frozen?,h,this,hg]
   | some o =>
    cases o with
    | cells cur t fr =>
     have h2:=setRow_heap w g cur cs t fr hg
     simp [World.frozen?,h,h2,hg]
    | _ =>
     have:(w.setRow g cs).heap[g]? = w.heap[g]?:=by
      simp only [World.setRow,Array.getElem?_modify,if_true,hg]
      rfl
     simp [World.frozen?,h,this]
 · simp [World.frozen?,setRow_other w g a.block cs h]
theorem zaf (g o:Nat) (t:TypeId) (fz:Nat×Nat):∀ (vs:List Value) (i:Nat) (cur:Array Value) (w:World),w.heap[g]? = some (.cells cur t fz) →
 (∀ j,j<vs.length→w.frozen? ⟨g,o+i+j,none⟩=false)→o+i+vs.length≤cur.size→(∀ v∈vs,v.oneCell'=true) →
 (storeCells ⟨g,o,none⟩ vs i).run P w = .ok () (w.setRow g (cur.toList.take (o+i)++vs++cur.toList.drop (o+i+vs.length)).toArray)
 | [],i,cur,w,hg,_,_,_=>by
  simp only [storeCells,List.append_nil,List.length_nil,Nat.add_zero,List.take_append_drop,Array.toArray_toList]
  rw [setRow_self w g cur t fz hg]
  rfl
 | v :: rest,i,cur,w,hg,hfz,hl,h1=>by
  have hi:o+i<cur.size:=by simp at hl; omega
  have hcell:w.cell? ⟨g,o+i,none⟩=some cur[o+i]:=by simp [World.cell?,hg,hi]
  have hfro:w.frozen? ⟨g,o+i,none⟩=false:=by simpa using hfz 0 (by simp)
  have hst:(store ((⟨g,o,none⟩:Addr).add i) v).run P w = .ok () (w.setRow g (cur.setIfInBounds (o+i) v)):=by
   rw [addp,run_store P w _ v _ (h1 v (by simp)),hcell]
   simp [hfro,setCell_eq_setRow w g (o+i) cur t fz v hg]
  have ih:=zaf g o t fz rest (i+1) (cur.setIfInBounds (o+i) v) (w.setRow g (cur.setIfInBounds (o+i) v)) (setRow_heap w g cur _ t _ hg)
   (fun j hj=>by
    rw [zd2]
    have:=hfz (j+1) (by simp; omega)
    rwa [show o+i+(j+1)=o+(i+1)+j from by omega] at this) (by simp at hl ⊢; omega) (fun x hx=>h1 x (by simp [hx]))
  simp only [storeCells,Sem.run_bind,hst,Result.andThen_ok,ih,setRow_setRow]
  congr 3
  have e:=list_seg_step cur.toList (o+i) v rest (by simp at hl ⊢; omega)
  simpa [Array.toList_setIfInBounds,Nat.add_assoc] using e
theorem St.row {B0:Nat} {w0:Wd} {h:H} (s:St B0 w0 G h w) {w':World} {b:Nat} (hg:w.grownBy w' (some b)) (hB:B0≤b) (hD:∀ o,G.D b o→w'.cell? ⟨b,o,none⟩=w.cell? ⟨b,o,none⟩)
 (hk:∀ (cs:Array Value) (t:TypeId) (fr:Nat×Nat),w.heap[b]? = some (.cells cs t fr)→∃ cs':Array Value,w'.heap[b]? = some (.cells cs' t fr)∧cs'.size=cs.size)
 (hc:∃ cs t fr,w.heap[b]? = some (.cells cs t fr)) :
 Keep G.D w w'∧Below B0 w0.w w'∧B0≤w'.heap.size∧(∀ (x o:Nat),G.D x o→(∃ u,w'.cell? ⟨x,o,none⟩=some u)∧some x∉G.bx) ∧
 (∀ (t:Nat) (g:Tk),G.tk[t]? = some (some g)→TkOK B0 G w' g) ∧
 (∀ (j:Nat) (p:LpG) (st:LS),G.lp[j]? = some p→h.lp[j]? = some st→B0≤p.l∧∃ rec,w'.heap[p.l]? = some (.loop rec)∧sameLoop rec p.st∧LsOK rec st) ∧
 (∀ (d:Nat),d∈G.df→B0≤d∧w'.heap[d]? = some (.deferred (some []))):=by
 obtain ⟨cs0,t0,fr0,hcb⟩:=hc
 have hkeep:Keep G.D w w':=fun x o hx=>by
  by_cases hxb:x=b
  · subst hxb; exact hD o hx
  · obtain ⟨u,hu⟩:=(s.dat x o hx).1
    exact World.cell?_of_block (hg.block x (World.block_lt_of_cell? w _ hu) (by simp [hxb]))
 have hoth:∀ x o,w.heap[x]? = some o→x≠b→w'.heap[x]? = some o:=fun x o hx hne =>
  (hg.block x (Array.getElem?_eq_some_iff.1 hx).1 (by simp [hne])).trans hx
 refine ⟨hkeep,s.below.grown hg s.b0 (fun k e=>by simp at e; omega),Nat.le_trans s.b0 hg.size,?_,?_,?_,?_⟩
 · intro x o hx
   obtain ⟨⟨u,hu⟩,hn⟩:=s.dat x o hx
   exact ⟨⟨u,(hkeep x o hx).trans hu⟩,hn⟩
 · intro t g ht
   obtain ⟨h1,h2⟩:=s.tok t g ht
   refine ⟨h1,fun hlt => ?_⟩
   obtain ⟨x,hA,hBx,hn,cs,et,fr,hh,hcs,hi⟩:=h2 hlt
   by_cases hxb:x=b
   · subst hxb
     obtain ⟨cs',hh',hs'⟩:=hk cs et fr hh
     refine ⟨x,hA,hBx,hn,cs',et,fr,hh',by omega,fun i i1 i2=>⟨(hi i i1 i2).1,?_⟩⟩
     have:=(hi i i1 i2).2
     simp [World.frozen?,hh,hh'] at this ⊢
     exact this
   · refine ⟨x,hA,hBx,hn,cs,et,fr,hoth x _ hh hxb,hcs,fun i i1 i2=>⟨(hi i i1 i2).1,?_⟩⟩
     rw [World.frozen?_of_block (w:=w) (by rw [hh]; exact hoth x _ hh hxb)]
     exact (hi i i1 i2).2
 · intro j p st hp hst
   obtain ⟨hBl,rec,hh,hr⟩:=s.loop j p st hp hst
   exact ⟨hBl,rec,hoth _ _ hh (fun e=>by rw [e,hcb] at hh; cases hh),hr⟩
 · intro d hd
   obtain ⟨hBd,hh⟩:=s.dfr d hd
   exact ⟨hBd,hoth _ _ hh (fun e=>by rw [e,hcb] at hh; cases hh)⟩
theorem St.setBlk {B0:Nat} {w0:Wd} {h:H} (s:St B0 w0 G h w) {w':World} {q b:Nat} {vs nv:Array Value} {ty:TypeId} {ds:List AV} (hb:G.bx[q]? = some (some b)) (hh:w.heap[b]? = some (.cells vs ty (0,0))) (hB:B0≤b) (hnvs:nv.size=vs.size)
 (hg:w.grownBy w' (some b)) (hh':w'.heap[b]? = some (.cells nv ty (0,0)))
 (hr:Keep G.D w w'→RepB w' G q nv.toList ds) (hty:∀ T,tyOf ds=some T→ty=T):Keep G.D w w'∧St B0 w0 G { h with bx:=upd h.bx q ds } w':=by
 have hbD:∀ o,¬ G.D b o:=fun o ho=>(s.dat b o ho).2 (List.mem_of_getElem? hb)
 obtain ⟨hk,h1,h2,h3,h4,h5,h6⟩:=s.row hg hB (fun o ho=>absurd ho (hbD o)) (fun cs' t' fr' hh2=>by
  rw [hh] at hh2
  cases hh2
  exact ⟨nv,hh',hnvs⟩) ⟨_,_,_,hh⟩
 have hx:Ext G.base G G:=Ext.refl (Base.le_refl _)
 refine ⟨hk,?_⟩
 exact
 { below := h1
   b0:=h2
   bxl:=by simp [zk,s.bxl]
   box := fun r x es hr1 hr2=>by
    simp only [zk,List.getElem?_set] at hr2
    by_cases hrq:q=r
    · subst hrq
      rw [if_pos rfl] at hr2
      split at hr2
      · obtain rfl:=Option.some.inj hr2
        rw [hb] at hr1
        obtain rfl:=Option.some.inj (Option.some.inj hr1)
        exact ⟨hB,_,hh',.cells _ _ _ (hr hk) hty⟩
      · cases hr2
    · rw [if_neg hrq] at hr2
      obtain ⟨hBx,ob,hh2,hr'⟩:=s.box r x es hr1 hr2
      have hxb:x≠b:=fun e=>hrq (s.inj q r b hb (by rw [← e]; exact hr1))
      exact ⟨hBx,ob,(hg.block x (Array.getElem?_eq_some_iff.1 hh2).1 (by simp [hxb])).trans hh2,hr'.keep hx hk rfl⟩
   virt:=fun r es hr1 hr2=>by
    simp only [zk,List.getElem?_set] at hr2
    by_cases hrq:q=r
    · subst hrq
      rw [hb] at hr1
      cases hr1
    · rw [if_neg hrq] at hr2
      exact s.virt r es hr1 hr2
   inj:=s.inj
   dat:=h3
   dat0:=s.dat0
   tkl:=s.tkl
   tok:=h4
   tki:=s.tki
   lpl:=s.lpl
   loop:=h5
   lpi:=s.lpi
   dfr:=h6
   dfn:=s.dfn }
theorem St.setBox {B0:Nat} {w0:Wd} {h:H} (s:St B0 w0 G h w) {q b:Nat} {vs nv:Array Value} {ty:TypeId} {ds:List AV} (hb:G.bx[q]? = some (some b)) (hh:w.heap[b]? = some (.cells vs ty (0,0))) (hB:B0≤b) (hnvs:nv.size=vs.size)
 (hr:Keep G.D w (w.setRow b nv)→RepB (w.setRow b nv) G q nv.toList ds) (hty:∀ T,tyOf ds=some T→ty=T):Keep G.D w (w.setRow b nv)∧St B0 w0 G { h with bx:=upd h.bx q ds } (w.setRow b nv):=
 s.setBlk hb hh hB hnvs (zd8 w b nv) (setRow_heap w b vs nv ty _ hh) hr hty
theorem St.other {B0:Nat} {w0:Wd} {h:H} (s:St B0 w0 G h w) {w':World} {b:Nat} (hg:w.grownBy w' (some b)) (hB:B0≤b) (hD:∀ o,G.D b o→w'.cell? ⟨b,o,none⟩=w.cell? ⟨b,o,none⟩)
 (hc:∃ cs t fr,w.heap[b]? = some (.cells cs t fr)) (hn:some b∉G.bx) (ht:∀ (t:Nat) (g:Tk),G.tk[t]? = some (some g)→g.n<g.cap→g.A≠some b):Keep G.D w w'∧St B0 w0 G h w':=by
 obtain ⟨cs0,t0,fr0,hcb⟩:=hc
 have hkeep:Keep G.D w w':=fun x o hx=>by
  by_cases hxb:x=b
  · subst hxb; exact hD o hx
  · obtain ⟨u,hu⟩:=(s.dat x o hx).1
    exact World.cell?_of_block (hg.block x (World.block_lt_of_cell? w _ hu) (by simp [hxb]))
 have hoth:∀ x o,w.heap[x]? = some o→x≠b→w'.heap[x]? = some o:=fun x o hx hne =>
  (hg.block x (Array.getElem?_eq_some_iff.1 hx).1 (by simp [hne])).trans hx
 refine ⟨hkeep,?_⟩
 exact
 { below:=s.below.grown hg s.b0 (fun k e=>by simp at e; omega)
   b0:=Nat.le_trans s.b0 hg.size
   bxl:=s.bxl
   box:=fun r x es hr1 hr2=>by
    obtain ⟨hBx,ob,hh',hr'⟩:=s.box r x es hr1 hr2
    exact ⟨hBx,ob,hoth x _ hh' (fun e=>hn (e▸List.mem_of_getElem? hr1)),hr'.keep (Ext.refl (Base.le_refl _)) hkeep rfl⟩
   virt:=s.virt
   inj:=s.inj
   dat:=fun x o hx=>by
    obtain ⟨⟨u,hu⟩,hn⟩:=s.dat x o hx
    exact ⟨⟨u,(hkeep x o hx).trans hu⟩,hn⟩
   dat0:=s.dat0
   tkl:=s.tkl
   tok:=fun t g htg=>by
    obtain ⟨h1,h2⟩:=s.tok t g htg
    refine ⟨h1,fun hlt => ?_⟩
    obtain ⟨x,hA,hBx,hnx,cs,et,fr,hh,hcs,hi⟩:=h2 hlt
    have hxb:x≠b:=fun e=>ht t g htg hlt (by rw [hA,e])
    refine ⟨x,hA,hBx,hnx,cs,et,fr,hoth x _ hh hxb,hcs,fun i i1 i2=>⟨(hi i i1 i2).1,?_⟩⟩
    rw [World.frozen?_of_block (w:=w) (by rw [hh]; exact hoth x _ hh hxb)]
    exact (hi i i1 i2).2
   tki:=s.tki
   lpl:=s.lpl
   loop:=fun j p st hp hst=>by
    obtain ⟨hBl,rec,hh,hr⟩:=s.loop j p st hp hst
    exact ⟨hBl,rec,hoth _ _ hh (fun e=>by rw [e,hcb] at hh; cases hh),hr⟩
   lpi:=s.lpi
   dfr:=fun d hd=>by
    obtain ⟨hBd,hh⟩:=s.dfr d hd
    exact ⟨hBd,hoth _ _ hh (fun e=>by rw [e,hcb] at hh; cases hh)⟩
   dfn:=s.dfn }
theorem zn8 {off:Nat} {vs cs ds:List AV} {T:Nat} (ho:oneL vs=true) (hv:0<vs.length) (h:splice off vs cs=some ds) (hT:tyOf ds=some T):tyOf cs=some T:=by
 cases vs with
 | nil=>simp at hv
 | cons v vs =>
  simp only [oneL,Bool.and_eq_true] at ho
  cases cs with
  | nil=>cases off<;>simp [splice] at h
  | cons c cs =>
   cases off with
   | zero =>
    simp only [splice] at h
    split at h
    · obtain rfl:=Option.some.inj h
      unfold tyOf at hT
      split at hT
      · rename_i e
        simp only [List.cons.injEq] at e
        rw [e.1] at ho
        simp [one1] at ho
      · rename_i e
        simp only [List.cons.injEq] at e
        rw [e.1] at ho
        simp [one1] at ho
      · cases hT
    · cases h
   | succ n =>
    simp only [splice] at h
    split at h
    · obtain rfl:=Option.some.inj h
      cases c<;>first | exact hT | (rename_i τ l; cases τ<;>exact hT) | (simp [tyOf] at hT)
    · cases h
theorem zcb {B0:Nat} {w0:Wd} {h h':H} (s:St B0 w0 G h w) {t:Nat} {ti:TI} (hti:TiOK P t ti) {pv v:Value} {pa a:AV} (hp:RepV w G pv pa) (hv:RepV w G v a)
 (hs:storeA ti pa a h=some h'):∃ w',(Instr.storeAt t pv v).run P w = .ok () w'∧Keep G.D w w'∧St B0 w0 G h' w':=by
 unfold storeA at hs
 split at hs
 · rename_i q off
   obtain ⟨hc,hs⟩:=zb hs
   simp only [Bool.and_eq_true,nbeq,nblt] at hc
   obtain ⟨⟨hlen,hone⟩,hpos⟩:=hc
   split at hs
   · rename_i cs hq
     cases hir:isRow cs with
     | true=>rw [hir] at hs; cases hs
     | false =>
     rw [hir,cond_false] at hs
     split at hs
     · rename_i ds hd
       obtain rfl:=Option.some.inj hs
       rw [zl] at hq
       have hne:a ≠ .any:=zau (by omega)
       have hR:=za5 hv hne
       have hone':=zfy hR hone
       cases hp with
       | ref _ _ b hb =>
        obtain ⟨hB,ob,hh,hr⟩:=s.box _ _ _ hb hq
        obtain ⟨vs,ty,rfl,hbv0,hr,hty⟩:=hr.list hir
        rcases zbv _ _ _ _ hd with ⟨hle,hds⟩ | ⟨h0,_⟩
        · have hvl:v.cells.toList.length=ti.size:=by rw [hR.1,hlen]
          have hsz:off+v.cells.toList.length≤vs.size:=by
           have:=hr.1
           simp at this
           rw [hR.1]
           omega
          have hrun:=zaf (P:=P) b off ty (0,0) v.cells.toList 0 vs w hh (fun j _=>by simp [World.frozen?,hh]) (by simpa using hsz) hone'
          simp only [Nat.add_zero] at hrun
          generalize hnv:(vs.toList.take off++v.cells.toList++vs.toList.drop (off+v.cells.toList.length)).toArray=nv at hrun
          have hnvs:nv.size=vs.size:=by
           rw [← hnv]; simp; simp at hsz; omega
          have hx:Ext G.base G G:=Ext.refl (Base.le_refl _)
          obtain ⟨hk,hst⟩:=s.setBox (ds:=ds) hb hh hB hnvs (fun hk=>by
           have hnvl:nv.toList=vs.toList.take off++v.cells.toList++vs.toList.drop (off+v.cells.toList.length):=by rw [← hnv]
           rw [hnvl,hds]
           have e1:=(hr.take off).append hR
           have e2:=hr.drop (off+(cellsOf a).length)
           rw [← hR.1] at e2
           have e3:=RepL.append e1 e2
           rw [hR.1] at e3
           rw [hR.1]
           exact .box _ _ (e3.mono hx hk).noRow hbv0 (e3.mono hx hk)) (fun T hT=>hty T (zn8 hone (by omega) hd hT))
          refine ⟨w.setRow b nv,?_,hk,hst⟩
          simp only [Instr.storeAt,Instr.sureAddr,storeVar,Sem.run_bind,Sem.run_pure,Result.andThen_ok,zq hti]
          rw [if_neg (by simpa using hvl)]
          exact hrun
        · rw [h0] at hlen
          simp at hlen
          omega
     · cases hs
   · cases hs
 · cases hs
end
end Go.AM
set_option linter.unusedVariables false
set_option linter.unusedSimpArgs false
namespace Go.AM
open Go.RowKit
section
variable {P:Program} {w:World} {G:GS}
theorem zqp {need old bytes:Nat} (h:(need)*bytes≤2 ^ 46) (hb:bytes≤2 ^ 20) (ho:old<need):Builtin.nextslicecap need old*bytes≤2 ^ 48:=by
 have key:Builtin.nextslicecap need old≤2*need+512:=by
  unfold Builtin.nextslicecap
  split
  · omega
  · split
    · omega
    · have grow:∀ (r c:Nat),c≤2*need+512→Builtin.growBy need r c≤2*need+512:=by
       intro r
       induction r with
       | zero=>intro c hc; simpa [Builtin.growBy] using hc
       | succ r ih =>
        intro c hc
        simp only [Builtin.growBy]
        split
        · exact hc
        · rename_i hlt
          exact ih _ (by omega)
      exact grow 4 old (by omega)
 calc Builtin.nextslicecap need old*bytes≤(2*need+512)*bytes:=Nat.mul_le_mul_right _ key
  _=2*(need*bytes)+512*bytes:=by rw [Nat.add_mul,Nat.mul_assoc]
  _≤2 ^ 48:=by omega
theorem zn9 {w:World} {b i:Nat} {cs:Array Value} {t:TypeId} (h:w.heap[b]? = some (.cells cs t (0,0))):w.frozen? ⟨b,i,none⟩=false:=by
 unfold World.frozen?
 simp only [h]
 simp
theorem zbb {t t2 et ty:TypeId} {i:TypeInfo} {d2:TypeDesc} (ht:P.underlying t=some (.slice et)) (ht2:P.underlying t2=some d2) (hd2:∀ k,d2 ≠ .int k) (hi:P.info? et=some i)
 {A:Option Addr} {n cap m:Nat} {xv:Value} {news:List Value} (hlen:(Builtin.lenOf xv).run P w = .ok m w) (hfirst:(Builtin.firstCells i.size m xv).run P w = .ok news.toArray w)
 (hroom:n+m≤cap) {w':World} (hst:∀ a,A=some a→(storeCells (a.add (n*i.size)) news).run P w = .ok () w') (hw:A=none→w'=w) :
 (Builtin.append_ #[t,t2] ty #[.slice A n cap,xv]).run P w = .ok (.slice A (n+m) cap) w':=by
 have hz:(match d2 with | .int _=>true | _=>false)=false:=by
  cases d2<;>first | rfl | exact absurd rfl (hd2 _)
 cases A with
 | none =>
  obtain rfl:=hw rfl
  simp [Builtin.append_,run_underlying ht,run_underlying ht2,sizeOf,typeInfo,hi,hlen,hroom,hfirst,hz]
 | some a =>
  have:=hst a rfl
  simp [Builtin.append_,run_underlying ht,run_underlying ht2,sizeOf,typeInfo,hi,hlen,hroom,hfirst,hz,this]
theorem zct {t t2 et ty:TypeId} {i:TypeInfo} {z:Value} {d2:TypeDesc} (ht:P.underlying t=some (.slice et)) (ht2:P.underlying t2=some d2) (hd2:∀ k,d2 ≠ .int k) (hi:P.info? et=some i) (hz0:i.zero=some z)
 {A:Option Addr} {n cap m:Nat} {xv:Value} {news olds:List Value} (hlen:(Builtin.lenOf xv).run P w = .ok m w) (hfirst:(Builtin.firstCells i.size m xv).run P w.drew = .ok news.toArray w.drew)
 (hold:(Builtin.firstCells i.size n (.slice A n cap)).run P w.drew = .ok olds.toArray w.drew)
 (hroom:¬ n+m≤cap) (hb:(n+m)*i.bytes≤2 ^ 46) (hb0:0<i.bytes) (hb1:i.bytes≤2 ^ 20) :
 ∃ c',n+m≤c'∧(Builtin.append_ #[t,t2] ty #[.slice A n cap,xv]).run P w =
  .ok (.slice (some ⟨w.heap.size,0,none⟩) (n+m) c') (w.drew.alloc (.cells (olds.toArray++news.toArray++Builtin.zeroCells z.cells (c' - (n+m))) et)):=by
 have hz:(match d2 with | .int _=>true | _=>false)=false:=by
  cases d2<;>first | rfl | exact absurd rfl (hd2 _)
 have hfit:=zqp hb hb1 (Nat.lt_of_not_le hroom)
 refine ⟨grownCap w (n+m) cap et,grownCap_ge w _ _ _,?_⟩
 have hn0:i.bytes≠0:=by omega
 have hfit':¬ 281474976710656<Builtin.nextslicecap (n+m) cap*i.bytes:=by omega
 have hn:¬ (n+m≤cap):=hroom
 simp [Builtin.append_,run_underlying ht,run_underlying ht2,sizeOf,typeInfo,zeroValue,hi,hz0,hlen,hn,hfit',Question.forced,hfirst,hold,newRow,grownCap,hz,hn0]
 congr 2
 apply Array.ext'
 simp [List.append_assoc]
theorem za2 {size n:Nat} {A:Option Addr} {c:Nat} {us:List Value} (hl:us.length=n*size)
 (hc:0<n→∃ b o,A=some ⟨b,o,none⟩∧∀ (j:Nat) (u:Value),us[j]? = some u→w.cell? ⟨b,o+j,none⟩=some u) :
 (Builtin.firstCells size n (.slice A n c)).run P w = .ok us.toArray w:=by
 cases A with
 | none =>
  have h0:n=0:=by
   cases n with
   | zero=>rfl
   | succ n=>obtain ⟨b,o,h,_⟩:=hc (by omega); cases h
  subst h0
  have:us=[]:=List.eq_nil_of_length_eq_zero (by simpa using hl)
  subst this
  simp [Builtin.firstCells]
 | some a =>
  simp only [Builtin.firstCells]
  rw [← hl]
  by_cases hn:0<n
  · obtain ⟨b,o,h,hcell⟩:=hc hn
    obtain rfl:=Option.some.inj h
    exact run_loadCells_list (P:=P) w _ us (fun j v hj=>by rw [addp]; exact hcell j v hj)
  · have h0:n=0:=by omega
    subst h0
    have:us=[]:=List.eq_nil_of_length_eq_zero (by simpa using hl)
    subst this
    simp [loadCells,loadCellsFrom]
structure SrcOK (P:Program) (w:World) (G:GS) (size:Nat) (τ:Ty) (m:List τ.den) (xv:Value) (news:List Value):Prop where
 row:RowOf (fun x us=>RepC w G.D τ x us) m news
 len:∀ wx:World,(Builtin.lenOf xv).run P wx = .ok m.length wx
 first:∀ wx:World,(∀ a,wx.cell? a=w.cell? a)→(Builtin.firstCells size m.length xv).run P wx = .ok news.toArray wx
mutual
theorem zfz {w:World} {D:Nat→Nat→Prop}:∀ (τ:Ty) (x:τ.den) (vs:List Value),RepC w D τ x vs→∀ v∈vs,v.oneCell'=true
 | .u8,x,vs,h=>by simp only [RepC] at h; subst h; simp [Value.oneCell']
 | .u8t _,x,vs,h=>by simp only [RepC] at h; subst h; simp [Value.oneCell']
 | .int k,x,vs,h=>by simp only [RepC] at h; obtain ⟨_,rfl⟩:=h; simp [Value.oneCell']
 | .bool,x,vs,h=>by simp only [RepC] at h; subst h; simp [Value.oneCell']
 | .str,x,vs,h=>by simp only [RepC] at h; obtain ⟨_,bs,rfl,_⟩:=h; simp [Value.oneCell']
 | .sl e,l,vs,h=>by simp only [RepC] at h; obtain ⟨_,A,c,us,rfl,_⟩:=h; simp [Value.oneCell']
 | .agg ts,x,vs,h=>by simp only [RepC] at h; exact zhx ts x vs h
theorem zhx {w:World} {D:Nat→Nat→Prop}:∀ (ts:List Ty) (x:denL ts) (vs:List Value),RepCL w D ts x vs→∀ v∈vs,v.oneCell'=true
 | [],x,vs,h=>by simp only [RepCL] at h; subst h; simp
 | [t],x,vs,h=>by simp only [RepCL] at h; exact zfz t x vs h
 | t::u::us,(x,y),vs,h=>by
  simp only [RepCL] at h
  obtain ⟨v1,v2,rfl,h1,h2⟩:=h
  intro v hv
  rcases List.mem_append.1 hv with hv | hv
  · exact zfz t x v1 h1 v hv
  · exact zhx (u::us) y v2 h2 v hv
end
theorem zd9 {w:World} {D:Nat→Nat→Prop} {τ:Ty}:∀ {l:List τ.den} {us:List Value},RowOf (fun x us=>RepC w D τ x us) l us→∀ v∈us,v.oneCell'=true
 | [],us,h=>by
  have:us=[]:=h
  subst this
  simp
 | x::l,us,h=>by
  obtain ⟨v1,v2,rfl,h1,h2⟩:=h
  intro v hv
  rcases List.mem_append.1 hv with hv | hv
  · exact zfz τ x v1 h1 v hv
  · exact zd9 h2 v hv
def Ends {X:Type} (B0:Nat) (w0:Wd) (G:GS) (w:World) (k:AV→H→Option X) (r:X) (v:Value) (w':World):Prop:=
 ∃ av G' h',Ext G.base G G'∧Keep G.D w w'∧St B0 w0 G' h' w'∧RepV w' G' v av∧k av h'=some r
theorem Ends.same {X:Type} {B0:Nat} {w0:Wd} {h:H} {k:AV→H→Option X} {r:X} {v:Value} {av:AV} (s:St B0 w0 G h w) (hv:RepV w G v av) (hk:k av h=some r):Ends B0 w0 G w k r v w:=
 ⟨av,G,h,Ext.refl (Base.le_refl _),Keep.refl _ _,s,hv,hk⟩
theorem St.rowOther {B0:Nat} {w0:Wd} {h:H} (s:St B0 w0 G h w) {w':World} {b:Nat} (hg:w.grownBy w' (some b)) (hB:B0≤b) (hD:∀ o,G.D b o→w'.cell? ⟨b,o,none⟩=w.cell? ⟨b,o,none⟩)
 (hk:∀ (cs:Array Value) (t:TypeId) (fr:Nat×Nat),w.heap[b]? = some (.cells cs t fr)→∃ cs':Array Value,w'.heap[b]? = some (.cells cs' t fr)∧cs'.size=cs.size)
 (hc:∃ cs t fr,w.heap[b]? = some (.cells cs t fr)) (hn:some b∉G.bx):Keep G.D w w'∧St B0 w0 G h w':=by
 obtain ⟨hkeep,h1,h2,h3,h4,h5,h6⟩:=s.row hg hB hD hk hc
 refine ⟨hkeep,?_⟩
 exact
 { below:=h1
   b0:=h2
   bxl:=s.bxl
   box:=fun r x es hr1 hr2=>by
    obtain ⟨hBx,ob,hh',hr'⟩:=s.box r x es hr1 hr2
    have hxb:x≠b:=fun e=>hn (e▸List.mem_of_getElem? hr1)
    exact ⟨hBx,ob,(hg.block x (Array.getElem?_eq_some_iff.1 hh').1 (by simp [hxb])).trans hh',hr'.keep (Ext.refl (Base.le_refl _)) hkeep rfl⟩
   virt:=s.virt
   inj:=s.inj
   dat:=h3
   dat0:=s.dat0
   tkl:=s.tkl
   tok:=h4
   tki:=s.tki
   lpl:=s.lpl
   loop:=h5
   lpi:=s.lpi
   dfr:=h6
   dfn:=s.dfn }
structure TkSet (tk tk':List (Option Tk)) (pos:Nat) (g:Tk):Prop where
 other:∀ t,t≠pos→tk'[t]? = tk[t]?
 here:tk'[pos]? = some (some g)
 step:pos=tk.length∨∃ g0,tk[pos]? = some (some g0)∧g0.n<g.n
theorem TkSet.push (tk:List (Option Tk)) (g:Tk):TkSet tk (tk++[some g]) tk.length g:=
 ⟨fun t ht=>by
  by_cases h:t<tk.length
  · rw [List.getElem?_append_left h]
  · rw [List.getElem?_eq_none (by simp; omega),List.getElem?_eq_none (by omega)],by simp,.inl rfl⟩
theorem TkSet.set {tk:List (Option Tk)} {t:Nat} {g0:Tk} (h:tk[t]? = some (some g0)) {g:Tk} (hn:g0.n<g.n):TkSet tk (tk.set t (some g)) t g:=
 ⟨fun u hu=>by simp [List.getElem?_set,Ne.symm hu],by simp [(List.getElem?_eq_some_iff.1 h).1],.inr ⟨g0,h,hn⟩⟩
theorem St.setTok {B0:Nat} {w0:Wd} {h:H} (s:St B0 w0 G h w) {D':Nat→Nat→Prop} {pos:Nat} {g:Tk} {tk':List (Option Tk)} (hT:TkSet G.tk tk' pos g)
 (hD:∀ b o,G.D b o→D' b o) (hD0:∀ b o,D' b o→G.D b o∨B0≤b) (hDc:∀ (b o:Nat),D' b o→(∃ u,w.cell? ⟨b,o,none⟩=some u)∧some b∉G.bx)
 (hDo:∀ (t:Nat) (g0:Tk),t≠pos→G.tk[t]? = some (some g0)→g0.n<g0.cap→∀ b,g0.A=some b→∀ i,g0.n*g0.sz≤i→i<g0.cap*g0.sz→¬ D' b i)
 (hg:TkOK B0 { G with D:=D' } w g) (hi:∀ (t:Nat) (g0:Tk),t≠pos→G.tk[t]? = some (some g0)→g0.n<g0.cap→g.n<g.cap→g0.A≠g.A) :
 St B0 w0 { G with D:=D',tk:=tk' } { h with tk:=tk'.map (Option.map Tk.n) } w∧Ext G.base G { G with D:=D',tk:=tk' }:=by
 have hx : Ext G.base G { G with D:=D',tk:=tk' }:=
  { D := hD
    bx:=fun _ _ => .inl ⟨rfl,rfl⟩
    tk:=fun t ht=>by
     have ht':t<G.tk.length:=ht
     by_cases hp:t=pos
     · subst hp
       rcases hT.step with e | ⟨g0,h0,hlt⟩
       · omega
       · exact ⟨some g0,some g,h0,hT.here,.inr (.inr ⟨g0,g,rfl,rfl,hlt⟩)⟩
     · show TkStep G.tk[t]? tk'[t]?
       rw [hT.other t hp]
       exact ⟨G.tk[t],G.tk[t],by simp [ht'],by simp [ht'],.inr (.inl rfl)⟩
    lp:=fun _ _=>rfl
    df:=rfl }
 refine ⟨?_,hx⟩
 exact
 { below := s.below
   b0:=s.b0
   bxl:=s.bxl
   box:=fun r b cs h1 h2=>by
    obtain ⟨hB,ob,hh,hr⟩:=s.box r b cs h1 h2
    exact ⟨hB,ob,hh,hr.keep hx (Keep.refl _ _) rfl⟩
   virt:=s.virt
   inj:=s.inj
   dat:=hDc
   dat0:=fun b o x=>(hD0 b o x).elim (s.dat0 b o) .inr
   tkl:=rfl
   tok := fun t g' ht=>by
    by_cases hp:t=pos
    · subst hp
      have e:some (some g')=some (some g):=ht.symm.trans hT.here
      simp at e
      subst e
      exact hg
    · have ht':G.tk[t]? = some (some g'):=(hT.other t hp).symm.trans ht
      obtain ⟨h1,h2⟩:=s.tok t g' ht'
      refine ⟨h1,fun hlt => ?_⟩
      obtain ⟨b,hA,hB,hn,cs,et,fr,hh,hc,hii⟩:=h2 hlt
      exact ⟨b,hA,hB,hn,cs,et,fr,hh,hc,fun i i1 i2=>⟨hDo t g' hp ht' hlt b hA i i1 i2,(hii i i1 i2).2⟩⟩
   tki := fun t t' g1 g2 h1 h2 hne l1 l2=>by
    by_cases hp:t=pos
    · subst hp
      have e:some (some g1)=some (some g):=h1.symm.trans hT.here
      simp at e
      subst e
      have h2':G.tk[t']? = some (some g2):=(hT.other t' (Ne.symm hne)).symm.trans h2
      exact Ne.symm (hi t' g2 (Ne.symm hne) h2' l2 l1)
    · have h1':G.tk[t]? = some (some g1):=(hT.other t hp).symm.trans h1
      by_cases hp':t'=pos
      · subst hp'
        have e:some (some g2)=some (some g):=h2.symm.trans hT.here
        simp at e
        subst e
        exact hi t g1 hp h1' l1 l2
      · have h2':G.tk[t']? = some (some g2):=(hT.other t' hp').symm.trans h2
        exact s.tki t t' g1 g2 h1' h2' hne l1 l2
   lpl:=s.lpl
   loop:=s.loop
   lpi:=s.lpi
   dfr:=s.dfr
   dfn:=s.dfn }
theorem zgl {X:Type} {B0:Nat} {w0:Wd} {h:H} {k:AV→H→Option X} {r:X} (s:St B0 w0 G h w) {t t2 et ty:TypeId} {i:TypeInfo} {z:Value} {d2:TypeDesc}
 (ht:P.underlying t=some (.slice et)) (ht2:P.underlying t2=some d2) (hd2:∀ k,d2 ≠ .int k) (hi:P.info? et=some i) (hz0:i.zero=some z) (hzs:z.cells.size=i.size) (hpos:0<i.size)
 {τ:Ty} (hsz:i.size=τ.size) {l m:List τ.den} {c:Cap} {sv xv:Value} {news:List Value} (hs:RepV w G sv (.sl τ l c)) (hx:SrcOK P w G i.size τ m xv news)
 (hg:grow τ l m c i.bytes h k=some r) :
 ∃ v w',(Builtin.append_ #[t,t2] ty #[sv,xv]).run P w = .ok v w'∧Ends B0 w0 G w k r v w':=by
 unfold grow at hg
 obtain ⟨hb,hg⟩:=zb hg
 simp only [Bool.and_eq_true,decide_eq_true_eq] at hb
 obtain ⟨hb,hb0,hb1⟩:=hb
 have hmax:l.length+m.length≤strMax:=by
  have:l.length+m.length≤(l.length+m.length)*i.bytes:=Nat.le_mul_of_pos_right _ hb0
  have h3:(2:Nat) ^ 46≤strMax:=by decide
  omega
 have hlh:h.tk.length=G.tk.length:=by rw [s.tkl]; simp
 cases hs with
 | sl _ _ _ _ hrep hcap =>
 simp only [RepC] at hrep
 obtain ⟨hll,A,cap,us,hsv,hlc,hrow,hmem⟩:=hrep
 simp only [List.cons.injEq,and_true] at hsv
 subst hsv
 have hlen:∀ (x:τ.den) (vs:List Value),RepC w G.D τ x vs→vs.length=τ.size:=fun x vs hx=>zu hx
 have husl:us.length=l.length*τ.size:=RowOf.length hlen hrow
 have hnl:news.length=m.length*τ.size:=RowOf.length hlen hx.row
 have hrow2:=RowOf.append hrow hx.row
 have hnewlen:(us++news).length=(l.length+m.length)*τ.size:=by rw [List.length_append,husl,hnl,Nat.add_mul]
 by_cases hroom:l.length+m.length≤cap
 · by_cases hm : m=[]
   ·
    subst hm
    have hnn:news=[]:=List.eq_nil_of_length_eq_zero (by simpa using hnl)
    subst hnn
    have hrun:=zbb (w:=w) (ty:=ty) (n:=l.length) (cap:=cap) ht ht2 hd2 hi (A:=A) (hx.len w) (hx.first w (fun _=>rfl)) (by simpa using hroom) (w':=w) (fun a _=>rfl) (fun _=>rfl)
    simp only [List.length_nil,Nat.add_zero] at hrun
    refine ⟨_,w,hrun,?_⟩
    have hRC:∀ D':Nat→Nat→Prop,(∀ b o,G.D b o→D' b o)→RepC w D' (.sl τ) (l++[]) [.slice A l.length cap]:=fun D' hDD=>by
     refine RepC.mono hDD (Keep.refl _ _) _ _ _ ?_
     simp only [RepC,List.append_nil]
     exact ⟨hll,A,cap,us,rfl,hlc,hrow,hmem⟩
    cases c with
    | full =>
     obtain ⟨A',hA'⟩:=hcap
     simp at hA'
     obtain ⟨_,hcl⟩:=hA'
     obtain ⟨hst,hext⟩:=s.setTok (D':=G.D) (TkSet.push G.tk ⟨l.length,none,l.length,τ.size⟩) (fun _ _ x=>x) (fun _ _ x => .inl x) s.dat
      (fun t g0 _ h0 hlt b hA i i1 i2=>by
       obtain ⟨b',hA',_,_,_,_,_,_,_,hii⟩:=(s.tok t g0 h0).2 hlt
       rw [hA] at hA'; obtain rfl:=Option.some.inj hA'
       exact (hii i i1 i2).1)
      ⟨Nat.le_refl _,fun h=>absurd h (Nat.lt_irrefl _)⟩ (fun t g0 _ _ _ h=>absurd h (Nat.lt_irrefl _))
     refine ⟨_,_,_,hext,Keep.refl _ _,hst,.sl τ (l++[]) (.own G.tk.length) _ (hRC _ (fun _ _ x=>x)) ?_,?_⟩
     · refine ⟨some ⟨l.length,none,l.length,τ.size⟩,by simp,fun g hg => ?_⟩
       obtain rfl:=Option.some.inj hg
       simp only [List.append_nil]
       exact ⟨Nat.le_refl _,fun _=>⟨by simp,A,by rw [hcl],fun h=>absurd h (Nat.lt_irrefl _)⟩⟩
     · rw [hlh] at hg
       simp only [List.map_append,List.map_cons,List.map_nil,← s.tkl] at hg ⊢
       simpa using hg
    | own t0 =>
     simp only at hg
     split at hg
     · rename_i n hn
       obtain ⟨he,hg2⟩:=zb hg
       replace hg:=hg2
       rw [nbeq] at he
       subst he
       refine ⟨_,G,h,Ext.refl (Base.le_refl _),Keep.refl _ _,s,.sl τ (l++[]) (.own t0) _ (hRC _ (fun _ _ x=>x)) (by simpa using hcap),?_⟩
       have:{ h with tk:=upd h.tk t0 (some (l++[]).length) }=h:=by
        rw [zk]
        rw [zl] at hn
        have e:h.tk.set t0 (some (l++[]).length)=h.tk:=by
         apply List.ext_getElem?
         intro j
         rw [List.getElem?_set]
         split
         · rename_i hj
           subst hj
           split
           · rw [hn]; simp
           · rename_i hj; exact absurd (List.getElem?_eq_some_iff.1 hn).1 hj
         · rfl
        rw [e]
       rw [this] at hg
       exact hg
     · cases hg
    | unk=>cases hg
    | fresh=>cases hg
   ·
    have hml:0<m.length:=List.length_pos_iff.2 hm
    cases c with
    | full =>
     obtain ⟨A',hA'⟩:=hcap
     simp at hA'
     omega
    | unk=>cases hg
    | fresh=>cases hg
    | own t0 =>
     simp only at hg
     split at hg
     · rename_i n hn
       obtain ⟨he,hg2⟩:=zb hg
       replace hg:=hg2
       rw [nbeq] at he
       subst he
       obtain ⟨o,ho,hog⟩:=hcap
       rw [zl,s.tkl,List.getElem?_map,ho] at hn
       simp only [Option.map_some,Option.some.injEq] at hn
       cases o with
       | none=>simp at hn
       | some g =>
       simp only [Option.map_some,Option.some.injEq] at hn
       obtain ⟨_,hfit⟩:=hog g rfl
       obtain ⟨hgsz,A',hA',hsp⟩:=hfit hn.symm
       simp only [Value.slice.injEq] at hA'
       obtain ⟨rfl,_,rfl⟩:=hA'
       obtain ⟨b,rfl,hgA⟩:=hsp (by omega)
       obtain ⟨b',hA2,hB,hbn,cs,et',fr,hh,hcs,hii⟩:=(s.tok t0 g ho).2 (by omega)
       rw [hgA] at hA2
       obtain rfl:=Option.some.inj hA2
       rw [hgsz,hn] at hii
       rw [hgsz] at hcs
       have hfitc:(l.length+m.length)*τ.size≤cs.size:=Nat.le_trans (Nat.mul_le_mul_right _ hroom) hcs
       have hadd2:(l.length+m.length)*τ.size=l.length*τ.size+m.length*τ.size:=Nat.add_mul _ _ _
       have hcaps:(l.length+m.length)*τ.size≤g.cap*τ.size:=Nat.mul_le_mul_right _ hroom
       have hrun0:=zaf (P:=P) b (l.length*τ.size) et' fr news 0 cs w hh (fun j hj=>(hii _ (by omega) (by omega)).2) (by omega) (zd9 hx.row)
       simp only [Nat.add_zero] at hrun0
       generalize hnv:(cs.toList.take (l.length*τ.size)++news++cs.toList.drop (l.length*τ.size+news.length)).toArray=nv at hrun0
       have hnvl:nv.toList=cs.toList.take (l.length*τ.size)++news++cs.toList.drop (l.length*τ.size+news.length):=by rw [← hnv]
       have hnvs:nv.size=cs.size:=by rw [← hnv]; simp; omega
       have hheap:=setRow_heap w b cs nv et' fr hh
       have hcell:∀ o,(o<l.length*τ.size∨(l.length+m.length)*τ.size≤o)→(w.setRow b nv).cell? ⟨b,o,none⟩=w.cell? ⟨b,o,none⟩:=fun o ho=>by
        rw [zr hheap,zr hh]
        rw [← Array.getElem?_toList,← Array.getElem?_toList,hnvl]
        rcases ho with ho | ho
        · rw [List.append_assoc,List.getElem?_append_left (by simp; omega),List.getElem?_take,if_pos ho]
        · rw [List.getElem?_append_right (by simp; omega),List.getElem?_drop]
          congr 1
          simp
          omega
       have hDk:∀ o,G.D b o→(w.setRow b nv).cell? ⟨b,o,none⟩=w.cell? ⟨b,o,none⟩:=fun o ho=>hcell o (by
        by_cases h1:o<l.length*τ.size
        · exact .inl h1
        · refine .inr (Nat.le_of_not_lt fun h2 => ?_)
          exact (hii o (by omega) (by omega)).1 ho)
       obtain ⟨hkeep,s'⟩:=s.rowOther (zd8 w b nv) hB hDk (fun cs' t' fr' hh'=>by
        rw [hh] at hh'; cases hh'; exact ⟨nv,hheap,hnvs⟩) ⟨_,_,_,hh⟩ hbn
       have hrun:=zbb (w:=w) (ty:=ty) (n:=l.length) (cap:=g.cap) ht ht2 hd2 hi (A:=some ⟨b,0,none⟩) (hx.len w) (hx.first w (fun _=>rfl)) hroom (w':=w.setRow b nv)
        (fun a ha=>by
         obtain rfl:=Option.some.inj ha
         rw [addp,hsz,Nat.zero_add]
         exact hrun0) (fun ha=>by cases ha)
       have hnewc:∀ (j:Nat) (u:Value),(us++news)[j]? = some u→(w.setRow b nv).cell? ⟨b,j,none⟩=some u:=fun j u hj=>by
        by_cases h1:j<us.length
        · rw [List.getElem?_append_left h1] at hj
          rw [hcell j (.inl (by omega))]
          have hl0:0<l.length:=by
           cases hq:l.length with
           | zero=>rw [hq] at husl; omega
           | succ q=>omega
          obtain ⟨b2,o2,hA3,hmm⟩:=hmem hl0
          simp only [Option.some.injEq,Addr.mk.injEq,and_true] at hA3
          obtain ⟨rfl,rfl⟩:=hA3
          simpa using (hmm j u hj).2
        · rw [List.getElem?_append_right (by omega)] at hj
          rw [zr hheap,← Array.getElem?_toList,hnvl,List.getElem?_append_left (by simp; have:=(List.getElem?_eq_some_iff.1 hj).1; omega),List.getElem?_append_right (by simp; omega)]
          rw [← hj]
          congr 1
          simp
          omega
       let D':Nat→Nat→Prop:=fun x o=>G.D x o∨(x=b∧o<(l.length+m.length)*τ.size)
       have hexist:∀ o,o<(l.length+m.length)*τ.size→∃ u,(w.setRow b nv).cell? ⟨b,o,none⟩=some u:=fun o ho=>by
        rw [zr hheap]
        exact ⟨nv[o]'(by omega),by simp [show o<nv.size from by omega]⟩
       obtain ⟨hst,hext⟩:=s'.setTok (D':=D') (TkSet.set (g:=⟨l.length+m.length,some b,g.cap,τ.size⟩) ho (by simp only; omega)) (fun _ _ x => .inl x) (fun x o hx=>hx.imp id fun y=>by rw [y.1]; assumption)
        (fun x o hxo=>by
         rcases hxo with hxo | ⟨rfl,hxo⟩
         · exact s'.dat x o hxo
         · exact ⟨hexist o hxo,hbn⟩)
        (fun t g0 hne h0 hlt x hA j j1 j2 hd=>by
         obtain ⟨b',hA',_,_,_,_,_,_,_,hjj⟩:=(s'.tok t g0 h0).2 hlt
         rw [hA] at hA'; obtain rfl:=Option.some.inj hA'
         rcases hd with hd | ⟨rfl,hd⟩
         · exact (hjj j j1 j2).1 hd
         · exact s'.tki t t0 g0 g h0 ho hne hlt (by omega) (by rw [hA,hgA]))
        ⟨hroom,fun hlt=>⟨b,rfl,hB,hbn,nv,et',fr,hheap,by rw [hnvs]; exact hcs,fun j j1 j2=>by
         simp only at j1 j2
         refine ⟨fun hd => ?_,?_⟩
         · rcases hd with hd | ⟨_,hd⟩
           · exact (hii j (by omega) (by omega)).1 hd
           · omega
         · rw [zd2]; exact (hii j (by omega) (by omega)).2⟩⟩
        (fun t g0 hne h0 hlt _=>by
         have:=s'.tki t t0 g0 g h0 ho hne hlt (by omega)
         rwa [hgA] at this)
       refine ⟨_,_,hrun,_,_,_,hext,hkeep,hst,.sl τ (l++m) (.own t0) _ ?_ ?_,?_⟩
       · simp only [RepC,List.length_append]
         refine ⟨hmax,some ⟨b,0,none⟩,g.cap,us++news,rfl,hroom,?_,fun _=>⟨b,0,rfl,fun j u hj=>⟨.inr ⟨by rfl,?_⟩,?_⟩⟩⟩
         · exact RowOf.mono _ _ (fun x _ vs hxv=>RepC.mono (fun _ _ hd => .inl hd) hkeep τ x vs hxv) hrow2
         · have:=(List.getElem?_eq_some_iff.1 hj).1
           rw [hnewlen] at this
           omega
         · rw [Nat.zero_add]; exact hnewc j u hj
       · refine ⟨some ⟨l.length+m.length,some b,g.cap,τ.size⟩,by simp [(List.getElem?_eq_some_iff.1 ho).1],fun g' hg' => ?_⟩
         obtain rfl:=Option.some.inj hg'
         simp only [List.length_append]
         exact ⟨Nat.le_refl _,fun _=>⟨by simp,_,rfl,fun _=>⟨b,rfl,rfl⟩⟩⟩
       · rw [zk] at hg
         have e:(G.tk.set t0 (some ⟨l.length+m.length,some b,g.cap,τ.size⟩)).map (Option.map Tk.n)=h.tk.set t0 (some (l++m).length):=by
          rw [s.tkl,List.map_set]
          simp
         rw [e]
         exact hg
     · cases hg
 ·
  have hrunx:∃ c',l.length+m.length≤c'∧(Builtin.append_ #[t,t2] ty #[.slice A l.length cap,xv]).run P w =
   .ok (.slice (some ⟨w.heap.size,0,none⟩) (l.length+m.length) c') (w.drew.alloc (.cells (us.toArray++news.toArray++Builtin.zeroCells z.cells (c' - (l.length+m.length))) et)):=
   zct ht ht2 hd2 hi hz0 (hx.len w) (hx.first w.drew (fun _=>rfl))
    (za2 (by rw [hsz]; exact husl) (fun h0=>by
     obtain ⟨b,o,e,hmm⟩:=hmem h0
     exact ⟨b,o,e,fun j u hj=>(hmm j u hj).2⟩)) hroom hb hb0 hb1
  obtain ⟨c',hc',hrun⟩:=hrunx
  generalize hrw:(us.toArray++news.toArray++Builtin.zeroCells z.cells (c' - (l.length+m.length)))=cells at hrun
  have hcl:cells.toList=(us++news)++(Builtin.zeroCells z.cells (c' - (l.length+m.length))).toList:=by rw [← hrw]; simp
  have hcs:cells.size=c'*τ.size:=by
   rw [← hrw]
   simp only [Array.size_append,List.size_toArray,size_zeroCells,hzs,hsz,husl,hnl,← Nat.add_mul]
   congr 1
   omega
  have hgr:w.grownBy (w.drew.alloc (.cells cells et)) none:=
   ⟨rfl,rfl,rfl,by simp,fun k hk _=>Below.heap_alloc w.drew _ k hk⟩
  have s':=s.grown0 hgr
  have hkeep:Keep G.D w (w.drew.alloc (.cells cells et)):=Keep.of_grown hgr (fun b o x=>(s.dat b o x).1) (fun _ _ _=>by simp)
  have hheap:(w.drew.alloc (.cells cells et)).heap[w.heap.size]? = some (.cells cells et (0,0)):=World.alloc_heap_new w.drew _
  have hbn:some w.heap.size∉G.bx:=fun hmem'=>by
   obtain ⟨q,hq⟩:=List.getElem?_of_mem hmem'
   have hq':q<h.bx.length:=by rw [s.bxl]; exact (List.getElem?_eq_some_iff.1 hq).1
   obtain ⟨_,_,hh,_⟩:=s.box q _ _ hq (List.getElem?_eq_getElem hq')
   have:=(Array.getElem?_eq_some_iff.1 hh).1
   omega
  have hnotok:∀ (t:Nat) (g0:Tk),G.tk[t]? = some (some g0)→g0.n<g0.cap→g0.A≠some w.heap.size:=fun t g0 h0 hlt e=>by
   obtain ⟨b',hA',_,_,_,_,_,hh,_⟩:=(s.tok t g0 h0).2 hlt
   rw [hA'] at e
   simp at e
   subst e
   have:=(Array.getElem?_eq_some_iff.1 hh).1
   omega
  have hcapm:(l.length+m.length)*τ.size≤c'*τ.size:=Nat.mul_le_mul_right _ hc'
  let D':Nat→Nat→Prop:=fun x o=>G.D x o∨(x=w.heap.size∧o<(l.length+m.length)*τ.size)
  have hexist:∀ o,o<(l.length+m.length)*τ.size→∃ u,(w.drew.alloc (.cells cells et)).cell? ⟨w.heap.size,o,none⟩=some u:=fun o ho=>by
   rw [zr hheap]
   exact ⟨cells[o]'(by omega),by simp [show o<cells.size from by omega]⟩
  have key:∀ (pos:Nat) (tk':List (Option Tk)),TkSet G.tk tk' pos ⟨l.length+m.length,some w.heap.size,c',τ.size⟩ →
   k (.sl τ (l++m) (.own pos)) { h with tk:=tk'.map (Option.map Tk.n) }=some r →
   Ends B0 w0 G w k r (.slice (some ⟨w.heap.size,0,none⟩) (l.length+m.length) c') (w.drew.alloc (.cells cells et)):=by
   intro pos tk' hT hk'
   obtain ⟨hst,hext⟩:=s'.setTok (D':=D') hT (fun _ _ x => .inl x) (fun x o hx=>hx.imp id fun y=>by rw [y.1]; exact s.b0)
    (fun x o hxo=>by
     rcases hxo with hxo | ⟨rfl,hxo⟩
     · exact s'.dat x o hxo
     · exact ⟨hexist o hxo,hbn⟩)
    (fun t g0 _ h0 hlt x hA j j1 j2 hd=>by
     obtain ⟨b',hA',_,_,_,_,_,_,_,hjj⟩:=(s'.tok t g0 h0).2 hlt
     rw [hA] at hA'; obtain rfl:=Option.some.inj hA'
     rcases hd with hd | ⟨rfl,hd⟩
     · exact (hjj j j1 j2).1 hd
     · exact hnotok t g0 h0 hlt hA)
    ⟨hc',fun hlt=>⟨w.heap.size,rfl,s.b0,hbn,cells,et,(0,0),hheap,by simp only; omega,fun j j1 j2=>by
     simp only at j1 j2
     refine ⟨fun hd => ?_,zn9 hheap⟩
     rcases hd with hd | ⟨_,hd⟩
     · obtain ⟨u,hu⟩:=(s.dat _ _ hd).1
       have:=World.block_lt_of_cell? w _ hu
       simp at this
     · omega⟩⟩
    (fun t g0 _ h0 hlt _=>hnotok t g0 h0 hlt)
   refine ⟨_,_,_,hext,hkeep,hst,.sl τ (l++m) (.own pos) _ ?_ ?_,hk'⟩
   · simp only [RepC,List.length_append]
     refine ⟨hmax,some ⟨w.heap.size,0,none⟩,c',us++news,rfl,hc',?_,fun _=>⟨w.heap.size,0,rfl,fun j u hj => ?_⟩⟩
     · exact RowOf.mono _ _ (fun x _ vs hxv=>RepC.mono (fun _ _ hd => .inl hd) hkeep τ x vs hxv) hrow2
     · have hjl:=(List.getElem?_eq_some_iff.1 hj).1
       rw [hnewlen] at hjl
       refine ⟨.inr ⟨rfl,by omega⟩,?_⟩
       rw [Nat.zero_add,zr hheap,← Array.getElem?_toList,hcl,List.getElem?_append_left (by rw [hnewlen]; omega)]
       exact hj
   · refine ⟨_,hT.here,fun g' hg' => ?_⟩
     obtain rfl:=Option.some.inj hg'
     simp only [List.length_append]
     exact ⟨Nat.le_refl _,fun _=>⟨by simp,_,rfl,fun _=>⟨_,rfl,rfl⟩⟩⟩
  refine ⟨_,_,hrun,?_⟩
  cases c with
  | full =>
   refine key G.tk.length _ (TkSet.push G.tk _) ?_
   rw [hlh] at hg
   simp only [List.map_append,List.map_cons,List.map_nil,← s.tkl] at hg ⊢
   simpa using hg
  | own t0 =>
   simp only at hg
   split at hg
   · rename_i n hn
     obtain ⟨he,hg2⟩:=zb hg
     replace hg:=hg2
     rw [nbeq] at he
     subst he
     obtain ⟨o,ho,_⟩:=hcap
     rw [zl,s.tkl,List.getElem?_map,ho] at hn
     simp only [Option.map_some,Option.some.injEq] at hn
     cases o with
     | none=>simp at hn
     | some g =>
     simp only [Option.map_some,Option.some.injEq] at hn
     refine key t0 _ (TkSet.set ho (by simp only; omega)) ?_
     rw [zk] at hg
     have e:(G.tk.set t0 (some ⟨l.length+m.length,some w.heap.size,c',τ.size⟩)).map (Option.map Tk.n)=h.tk.set t0 (some (l++m).length):=by
      rw [s.tkl,List.map_set]
      simp
     rw [e]
     exact hg
   · cases hg
  | unk=>cases hg
  | fresh=>cases hg
end
end Go.AM
set_option linter.unusedVariables false
set_option linter.unusedSimpArgs false
namespace Go.AM
open Go.RowKit
section
variable {P:Program} {w:World} {G:GS}
theorem zw {t:Nat} {ti:TI} (h:TiOK P t ti) (hz:ti.zero≠[]):∃ z,(zeroValue t).run P w = .ok z w∧∀ w' G',RepL w' G' z.cells.toList ti.zero:=by
 obtain ⟨i,hi,_,_,hz'⟩:=h.info
 obtain ⟨z,h1,h2⟩:=hz' hz
 exact ⟨z,by simp [zeroValue,typeInfo,hi,h1],h2⟩
theorem zjd:∀ (vs:List Value) (k off:Nat) (cs:Array Value),off+k+vs.length≤cs.size →
 ((vs.zipIdx k).foldl (fun (cs:Array Value) (p:Value×Nat)=>cs.setIfInBounds (off+p.2) p.1) cs).toList=cs.toList.take (off+k)++vs++cs.toList.drop (off+k+vs.length)
 | [],k,off,cs,_=>by simp
 | v::vs,k,off,cs,h=>by
  simp only [List.zipIdx_cons,List.foldl_cons]
  rw [zjd vs (k+1) off _ (by simp at h ⊢; omega)]
  have e:=list_seg_step cs.toList (off+k) v vs (by simp at h ⊢; omega)
  simp only [Array.toList_setIfInBounds,List.length_cons]
  rw [show off+(k+1)=off+k+1 from by omega,show off+k+(vs.length+1)=off+k+(vs.length+1) from rfl]
  simpa [Nat.add_assoc] using e
theorem zea (vs cs:Array Value) (off:Nat) (h:off+vs.size≤cs.size) :
 (vs.zipIdx.foldl (fun (cs:Array Value) (p:Value×Nat)=>cs.setIfInBounds (off+p.2) p.1) cs).toList=cs.toList.take off++vs.toList++cs.toList.drop (off+vs.size):=by
 rw [← Array.foldl_toList,Array.toList_zipIdx]
 have:=zjd vs.toList 0 off cs (by simpa using h)
 simpa using this
theorem zhy {place:Nat→Option (Nat×Nat)} {i off sz:Nat} {v:Value} {rest:List (Nat×Value)} {arr:Array Value} {c:AV} {cs cs':List AV} (hp:place i=some (off,sz)) (hv:RepV w G v c)
 (hs:splice off (cellsOf c) cs=some cs') (hl:(cellsOf c).length=sz) (h0:0<sz) (hr:RepL w G arr.toList cs) :
 ∃ arr':Array Value,RepL w G arr'.toList cs'∧Instr.fill place arr ((i,v)::rest)=Instr.fill place arr' rest:=by
 have hR:=za5 hv (zau (by omega))
 have hvs:v.cells.size=sz:=by
  have:=hR.1
  simp at this
  omega
 rcases zbv _ _ _ _ hs with ⟨hle,hcs⟩ | ⟨hnil,_⟩
 · have hasz:off+v.cells.size≤arr.size:=by
    have:=hr.1
    simp at this
    omega
   refine ⟨v.cells.zipIdx.foldl (fun cs (c,j)=>cs.setIfInBounds (off+j) c) arr,?_,?_⟩
   · have e:=zea v.cells arr off hasz
     have e':(v.cells.zipIdx.foldl (fun (cs:Array Value) (x:Value×Nat)=>match x with | (c,j)=>cs.setIfInBounds (off+j) c) arr).toList=arr.toList.take off++v.cells.toList++arr.toList.drop (off+v.cells.size):=e
     rw [e',hcs]
     have h2:=(hr.take off).append hR
     have h3:=hr.drop (off+(cellsOf c).length)
     rw [hl,← hvs] at h3
     rw [hl,← hvs]
     exact h2.append h3
   · simp only [Instr.fill,hp,hvs]
     rw [if_neg (by simp; omega)]
 · rw [hnil] at hl
   simp at hl
   omega
theorem zfd {tab:Nat→Option TI} (hT:TabOK P tab) {a:Act} {e:Env} {N:Nat} (he:EnvR w G N a.tmps e) {fields:Array Field} {fs:List (Nat×Nat)} (hfs:fields.toList.map (fun f=>(f.offset,f.type))=fs) {places:Array (Nat×Nat)}
 (hpl:∀ (i:Nat) (f:Field),fields[i]? = some f→∀ ti,tab f.type=some ti→places[i]? = some (f.offset,ti.size)) :
 ∀ (parts:List (Nat×Operand)) (arr:Array Value) (cs cs':List AV),RepL w G arr.toList cs→buildS tab fs e parts cs=some cs' →
  ∃ arr':Array Value,Instr.fill (places[·]?) arr (parts.map fun p=>(p.1,a.eval p.2))=some arr'∧RepL w G arr'.toList cs'
 | [],arr,cs,cs',hr,h=>by
  simp only [buildS,Option.some.injEq] at h
  subst h
  exact ⟨arr,rfl,hr⟩
 | (i, x)::rest,arr,cs,cs',hr,h=>by
  simp only [buildS] at h
  split at h
  · rename_i off t hn
    split at h
    · rename_i ti hti
      split at h
      · rename_i cs1 hs
        obtain ⟨hc,h⟩:=zb h
        simp only [Bool.and_eq_true,nbeq,nblt] at hc
        rw [zl,← hfs,List.getElem?_map] at hn
        obtain ⟨f,hf,hft⟩:=Option.map_eq_some_iff.1 hn
        simp only [Prod.mk.injEq] at hft
        obtain ⟨rfl,rfl⟩:=hft
        have hp:=hpl i f (by simpa using hf) ti hti
        obtain ⟨arr1,hr1,e1⟩:=zhy (place:=(places[·]?)) (rest:=rest.map fun p=>(p.1,a.eval p.2)) hp (zac (he.ev x) ti.ty) hs hc.1 hc.2 hr
        obtain ⟨arr',e2,hr2⟩:=zfd hT he hfs hpl rest arr1 cs1 cs' hr1 h
        exact ⟨arr',by rw [List.map_cons,e1,e2],hr2⟩
      · cases h
    · cases h
  · cases h
theorem zfe {a:Act} {e:Env} {N:Nat} (he:EnvR w G N a.tmps e) {ei:TI} :
 ∀ (parts:List (Nat×Operand)) (arr:Array Value) (cs cs':List AV),RepL w G arr.toList cs→buildA ei e parts cs=some cs' →
  ∃ arr':Array Value,Instr.fill (fun i=>some (i*ei.size,ei.size)) arr (parts.map fun p=>(p.1,a.eval p.2))=some arr'∧RepL w G arr'.toList cs'
 | [],arr,cs,cs',hr,h=>by
  simp only [buildA,Option.some.injEq] at h
  subst h
  exact ⟨arr,rfl,hr⟩
 | (i,x)::rest,arr,cs,cs',hr,h=>by
  simp only [buildA] at h
  split at h
  · rename_i cs1 hs
    obtain ⟨hc,h⟩:=zb h
    simp only [Bool.and_eq_true,nbeq,nblt] at hc
    obtain ⟨arr1,hr1,e1⟩:=zhy (place:=fun i=>some (i*ei.size,ei.size)) (rest:=rest.map fun p=>(p.1,a.eval p.2)) rfl (zac (he.ev x) ei.ty) hs hc.1 hc.2 hr
    obtain ⟨arr',e2,hr2⟩:=zfe he rest arr1 cs1 cs' hr1 h
    exact ⟨arr',by rw [List.map_cons,e1,e2],hr2⟩
  · cases h
mutual
theorem zeb {w:World} {G:GS}:∀ (τ:Ty) (us:List Value) (cs:List AV) (x:τ.den) (r:List AV),RepL w G us cs→τ.of cs=some (x,r)→∃ v1 v2,us=v1++v2∧RepC w G.D τ x v1∧RepL w G v2 r
 | .u8,us,cs,x,r,hr,h=>by
  simp only [Ty.of] at h
  split at h
  · rename_i n rest
    simp only [Option.some.injEq,Prod.mk.injEq] at h
    obtain ⟨rfl,rfl⟩:=h
    cases us with
    | nil=>have:=hr.1; simp at this
    | cons u us =>
     obtain ⟨h1,h2⟩:=hr.tail
     refine ⟨[u],us,rfl,?_,h2⟩
     cases h1 with
     | int k n hk =>
      simp only [RepC]
      obtain ⟨h3,h4⟩:=hk rfl
      have:((UInt8.ofNat n.toNat).toNat:Int)=n:=by
       have:n.toNat<256:=by omega
       simp [Nat.mod_eq_of_lt this]
       omega
      rw [this]
  · cases h
 | .u8t _, us,cs,x,r,hr,h=>by
  simp only [Ty.of] at h
  split at h
  · rename_i n rest
    simp only [Option.some.injEq,Prod.mk.injEq] at h
    obtain ⟨rfl,rfl⟩:=h
    cases us with
    | nil=>have:=hr.1; simp at this
    | cons u us =>
     obtain ⟨h1,h2⟩:=hr.tail
     refine ⟨[u],us,rfl,?_,h2⟩
     cases h1 with
     | int k n hk =>
      simp only [RepC]
      obtain ⟨h3,h4⟩:=hk rfl
      have:((UInt8.ofNat n.toNat).toNat:Int)=n:=by
       have:n.toNat<256:=by omega
       simp [Nat.mod_eq_of_lt this]
       omega
      rw [this]
  · cases h
 | .int k,us,cs,x,r,hr,h=>by
  simp only [Ty.of] at h
  split at h
  · rename_i k' n rest
    split at h
    · rename_i hk
      subst hk
      simp only [Option.some.injEq,Prod.mk.injEq] at h
      obtain ⟨rfl,rfl⟩:=h
      cases us with
      | nil=>have:=hr.1; simp at this
      | cons u us =>
       obtain ⟨h1,h2⟩:=hr.tail
       refine ⟨[u],us,rfl,?_,h2⟩
       cases h1 with
       | int k n hk=>simp only [RepC]; exact ⟨hk,trivial⟩
    · cases h
  · cases h
 | .bool,us,cs,x,r,hr,h=>by
  simp only [Ty.of] at h
  split at h
  · rename_i b rest
    simp only [Option.some.injEq,Prod.mk.injEq] at h
    obtain ⟨rfl,rfl⟩:=h
    cases us with
    | nil=>have:=hr.1; simp at this
    | cons u us =>
     obtain ⟨h1,h2⟩:=hr.tail
     refine ⟨[u],us,rfl,?_,h2⟩
     cases h1 with
     | bool b=>simp only [RepC]
  · cases h
 | .str,us,cs,x,r,hr,h=>by
  simp only [Ty.of] at h
  split at h
  · rename_i b rest
    simp only [Option.some.injEq,Prod.mk.injEq] at h
    obtain ⟨rfl,rfl⟩:=h
    cases us with
    | nil=>have:=hr.1; simp at this
    | cons u us =>
     obtain ⟨h1,h2⟩:=hr.tail
     refine ⟨[u],us,rfl,?_,h2⟩
     cases h1 with
     | str s l h hl=>simp only [RepC]; exact ⟨hl,s,rfl,h⟩
  · cases h
 | .sl e,us,cs,x,r,hr,h=>by
  simp only [Ty.of] at h
  split at h
  · rename_i e' l c rest
    split at h
    · rename_i l' hl'
      simp only [Option.some.injEq,Prod.mk.injEq] at h
      obtain ⟨rfl,rfl⟩:=h
      cases us with
      | nil=>have:=hr.1; simp at this
      | cons u us =>
       obtain ⟨h1,h2⟩:=hr.tail
       refine ⟨[u],us,rfl,?_,h2⟩
       unfold castSl at hl'
       split at hl'
       · rename_i hb
         obtain rfl:=Ty.beq_eq _ _ hb
         simp only [Option.some.injEq] at hl'
         subst hl'
         cases h1 with
         | sl τ l c v h hc=>exact h
       · cases hl'
    · cases h
  · rename_i rest
    simp only [Option.some.injEq,Prod.mk.injEq] at h
    obtain ⟨rfl,rfl⟩:=h
    cases us with
    | nil=>have:=hr.1; simp at this
    | cons u us =>
     obtain ⟨h1,h2⟩:=hr.tail
     refine ⟨[u],us,rfl,?_,h2⟩
     cases h1 with
     | nils =>
      simp only [RepC]
      exact ⟨by simp,none,0,[],rfl,by simp,rfl,fun h=>by simp at h⟩
  · cases h
 | .agg ts,us,cs,x,r,hr,h=>by
  simp only [Ty.of] at h
  obtain ⟨v1,v2,e,h1,h2⟩:=zly ts us cs x r hr h
  exact ⟨v1,v2,e,by simp only [RepC]; exact h1,h2⟩
theorem zly {w:World} {G:GS}:∀ (ts:List Ty) (us:List Value) (cs:List AV) (x:denL ts) (r:List AV),RepL w G us cs→ofL ts cs=some (x,r)→∃ v1 v2,us=v1++v2∧RepCL w G.D ts x v1∧RepL w G v2 r
 | [],us,cs,x,r,hr,h=>by
  simp only [ofL,Option.some.injEq,Prod.mk.injEq] at h
  obtain ⟨_,rfl⟩:=h
  exact ⟨[],us,rfl,by simp only [RepCL],hr⟩
 | [t],us,cs,x,r,hr,h=>by
  simp only [ofL] at h
  obtain ⟨v1,v2,e,h1,h2⟩:=zeb t us cs x r hr h
  exact ⟨v1,v2,e,by simp only [RepCL]; exact h1,h2⟩
 | t :: u::ts,us,cs,x,r,hr,h=>by
  simp only [ofL] at h
  split at h
  · rename_i y q hy
    split at h
    · rename_i z q' hz
      simp only [Option.some.injEq,Prod.mk.injEq] at h
      obtain ⟨rfl,rfl⟩:=h
      obtain ⟨v1,v2,e,h1,h2⟩:=zeb t us cs y q hr hy
      obtain ⟨v3,v4,e',h3,h4⟩:=zly (u::ts) v2 q z q' h2 hz
      exact ⟨v1++v3,v4,by rw [e,e',List.append_assoc],by simp only [RepCL]; exact ⟨v1,v3,rfl,h1,h3⟩,h4⟩
    · cases h
  · cases h
end
end
end Go.AM
set_option linter.unusedVariables false
set_option linter.unusedSimpArgs false
namespace Go.AM
open Go.RowKit
section
variable {P:Program} {w:World} {G:GS}
def Good {X:Type} (P:Program) (B0:Nat) (w0:Wd) (G:GS) (w:World) (k:AV→H→Option X) (r:X) (res:Result Next):Prop:=
 ∃ v w',(res = .ok (.value v) w'∨(res = .ok .skip w'∧v=undef))∧Ends B0 w0 G w k r v w'
theorem Good.v {X:Type} {B0:Nat} {w0:Wd} {h:H} {k:AV→H→Option X} {r:X} {s:Sem Value} {v:Value} {av:AV} (st:St B0 w0 G h w) (hs:s.run P w = .ok v w) (hv:RepV w G v av) (hk:k av h=some r) :
 Good P B0 w0 G w k r ((do pure (Next.value (← s)):Sem Next).run P w):=
 ⟨v,w,.inl (by simp [Sem.run_bind,hs]),Ends.same st hv hk⟩
theorem Good.v' {X:Type} {B0:Nat} {w0:Wd} {k:AV→H→Option X} {r:X} {s:Sem Value} {v:Value} {w':World} (hs:s.run P w = .ok v w') (he:Ends B0 w0 G w k r v w') :
 Good P B0 w0 G w k r ((do pure (Next.value (← s)):Sem Next).run P w):=
 ⟨v,w',.inl (by simp [Sem.run_bind,hs]),he⟩
theorem zj {v:Value} {k:IntKind} {n:Int} (h:RepV w G v (.int k n)):v = .int k n∧(k = .u8→0≤n∧n<256):=by cases h with | int k n h=>exact ⟨rfl,h⟩
theorem zah {v:Value} {b:Bool} (h:RepV w G v (.bool b)):v = .bool b:=by cases h; rfl
theorem zo {v:Value} {l:List UInt8} (h:RepV w G v (.str l)):∃ s:ByteArray,v = .string s∧s.data.toList=l∧l.length≤strMax:=by cases h with | str s l h hl=>exact ⟨s,rfl,h,hl⟩
theorem zth (n:Int):0≤IntKind.wrap .u8 n∧IntKind.wrap .u8 n<256:=by
 simp only [IntKind.wrap,IntKind.signed,IntKind.bits]
 simp only [Bool.false_and,Bool.false_eq_true,if_false]
 exact ⟨Int.emod_nonneg _ (by decide),Int.emod_lt_of_pos _ (by decide)⟩
theorem zai (k:IntKind) (n:Int):RepV w G (.int k (k.wrap n)) (.int k (k.wrap n)):=.int _ _ fun e=>by subst e; exact zth n
theorem ba_toList (s:ByteArray):s.toList=s.data.toList:=ByteArray.toList_eq s
theorem zao {t:TypeId} {d:TypeDesc} {x y:Value} {c:Bool} (ht:P.underlying t=some d)
 (h:(d = .bool∧∃ a b,x = .bool a∧y = .bool b∧c=(a==b))∨((∃ e,d = .pointer e)∧((∃ a,x = .pointer (some a)∧y = .pointer none∧c=false)∨(x = .pointer none∧y = .pointer none∧c=true))) ∨
  ((∃ ps rs v,d = .func ps rs v)∧((∃ f a b,x = .func f a b∧y = .nilFunc∧c=false)∨(x = .nilFunc∧y = .nilFunc∧c=true)))) :
 (Op.equal t x y).run P w = .ok c w:=by
 obtain ⟨dd,e⟩:∃ dd,Op.maxDepth=dd+1:=⟨9999,rfl⟩
 unfold Op.equal
 rw [e]
 rcases h with ⟨rfl,a,b,rfl,rfl,rfl⟩ | ⟨⟨e',rfl⟩,h⟩ | ⟨⟨ps,rs,v,rfl⟩,h⟩
 · simp [Op.equalIn,Sem.run_bind,run_underlying ht]
 · rcases h with ⟨a,rfl,rfl,rfl⟩ | ⟨rfl,rfl,rfl⟩<;>simp [Op.equalIn,Sem.run_bind,run_underlying ht]
 · rcases h with ⟨f,a,b,rfl,rfl,rfl⟩ | ⟨rfl,rfl,rfl⟩<;>simp [Op.equalIn,Sem.run_bind,run_underlying ht]
theorem zhz {tab:Nat→Option TI} (hT:TabOK P tab) {t:TypeId} {x y:Value} {a b:AV} {c:Bool} (hx:RepV w G x a) (hy:RepV w G y b)
 (h:eq1 (match tab t with | some ti=>ti.d | none => .other) a b=some c) :
 (Go.binOp .eql t x y).run P w = .ok (.bool c) w∧(Go.binOp .neq t x y).run P w = .ok (.bool (!c)) w∧∀ (ox oy:Operand) (op:BinOp),(eqGuard op t ox oy x y).run P w = .ok () w:=by
 have g1:∀ (x y:Value) (op:BinOp) (ox oy:Operand),(∀ xs ys,¬ (x = .agg xs∧y = .agg ys))→¬ (x = .nilIface∧y = .nilIface)→(eqGuard op t ox oy x y).run P w = .ok () w:=by
  intro x y op ox oy h1 h2
  unfold eqGuard
  split
  · simp only [Bool.not_true,Bool.false_eq_true,if_false]
    split
    · exact absurd ⟨rfl,rfl⟩ h2
    · exact absurd ⟨rfl,rfl⟩ (h1 _ _)
    · rfl
  · simp only [Bool.not_true,Bool.false_eq_true,if_false]
    split
    · exact absurd ⟨rfl,rfl⟩ h2
    · exact absurd ⟨rfl,rfl⟩ (h1 _ _)
    · rfl
  · rfl
 have key:∀ (x y:Value) (c:Bool),Go.binOp .eql t x y=(do pure (.bool (← Op.equal t x y)):Sem Value)→Go.binOp .neq t x y=(do pure (.bool (!(← Op.equal t x y))):Sem Value) →
  (∀ xs ys,¬ (x = .agg xs∧y = .agg ys))→¬ (x = .nilIface∧y = .nilIface)→(Op.equal t x y).run P w = .ok c w →
  (Go.binOp .eql t x y).run P w = .ok (.bool c) w∧(Go.binOp .neq t x y).run P w = .ok (.bool (!c)) w∧∀ (ox oy:Operand) (op:BinOp),(eqGuard op t ox oy x y).run P w = .ok () w:=by
  intro x y c e1 e2 h1 h2 hr
  refine ⟨by rw [e1]; simp [hr],by rw [e2]; simp [hr],fun ox oy op=>g1 x y op ox oy h1 h2⟩
 have g0:=g1 x y
 have hd:∀ ti,tab t=some ti→TdOK P t ti.d:=fun ti hti=>(hT t ti hti).d
 unfold eq1 at h
 split at h
 ·
  rename_i k p k' q
  split at h
  · rename_i hk
    subst hk
    obtain ⟨rfl,_⟩:=zj hx
    obtain ⟨rfl,_⟩:=zj hy
    simp only [Option.some.injEq] at h
    subst h
    refine ⟨by simp [Go.binOp,Op.intCmp],by simp [Go.binOp,Op.intCmp,bne],fun ox oy op=>g0 op ox oy (by simp) (by simp)⟩
  · cases h
 · obtain ⟨s1,rfl,h1,_⟩:=zo hx
   obtain ⟨s2,rfl,h2,_⟩:=zo hy
   simp only [Option.some.injEq] at h
   subst h
   subst h1
   subst h2
   refine ⟨by simp [Go.binOp,Op.stringOp,ba_toList],by simp [Go.binOp,Op.stringOp,ba_toList],fun ox oy op=>g0 op ox oy (by simp) (by simp)⟩
 · rename_i p q
   obtain rfl:=zah hx
   obtain rfl:=zah hy
   split at h
   · rename_i hdd
     cases htt:tab t with
     | none=>rw [htt] at hdd; cases hdd
     | some ti =>
      rw [htt] at hdd
      have:=hd ti htt
      simp only at hdd
      rw [hdd] at this
      simp only [Option.some.injEq] at h
      subst h
      have hr:=zao (w:=w) (x:=.bool p) (y:=.bool q) (c:=(p==q)) this (.inl ⟨rfl,_,_,rfl,rfl,rfl⟩)
      exact ⟨by simp [Go.binOp,hr],by simp [Go.binOp,hr],fun ox oy op=>g0 op ox oy (by simp) (by simp)⟩
   · cases h
 · split at h
   · rename_i hdd
     cases htt:tab t with
     | none=>rw [htt] at hdd; cases hdd
     | some ti =>
      rw [htt] at hdd
      have:=hd ti htt
      simp only at hdd
      rw [hdd] at this
      simp only [Option.some.injEq] at h
      subst h
      obtain ⟨e,he⟩:=this
      cases hx
      cases hy
      refine key  _ _ _ rfl rfl (by simp) (by simp) (zao he (.inr (.inl ⟨⟨e,rfl⟩,.inl ⟨_,rfl,rfl,rfl⟩⟩)))
   · cases h
 · split at h
   · rename_i hdd
     cases htt:tab t with
     | none=>rw [htt] at hdd; cases hdd
     | some ti =>
      rw [htt] at hdd
      have:=hd ti htt
      simp only at hdd
      rw [hdd] at this
      simp only [Option.some.injEq] at h
      subst h
      obtain ⟨e,he⟩:=this
      cases hx
      cases hy
      refine key  _ _ _ rfl rfl (by simp) (by simp) (zao he (.inr (.inl ⟨⟨e,rfl⟩,.inl ⟨_,rfl,rfl,rfl⟩⟩)))
   · cases h
 · split at h
   · rename_i hdd
     cases htt:tab t with
     | none=>rw [htt] at hdd; cases hdd
     | some ti =>
      rw [htt] at hdd
      have:=hd ti htt
      simp only at hdd
      rw [hdd] at this
      simp only [Option.some.injEq] at h
      subst h
      obtain ⟨e,he⟩:=this
      cases hx
      cases hy
      refine key  _ _ _ rfl rfl (by simp) (by simp) (zao he (.inr (.inl ⟨⟨e,rfl⟩,.inr ⟨rfl,rfl,rfl⟩⟩)))
   · cases h
 · split at h
   · rename_i hdd
     cases htt:tab t with
     | none=>rw [htt] at hdd; cases hdd
     | some ti =>
      rw [htt] at hdd
      have:=hd ti htt
      simp only at hdd
      rw [hdd] at this
      simp only [Option.some.injEq] at h
      subst h
      obtain ⟨ps,rs,vv,he⟩:=this
      cases hx
      cases hy
      refine key  _ _ _ rfl rfl (by simp) (by simp) (zao he (.inr (.inr ⟨⟨ps,rs,vv,rfl⟩,.inl ⟨_,_,_,rfl,rfl,rfl⟩⟩)))
   · cases h
 · split at h
   · rename_i hdd
     cases htt:tab t with
     | none=>rw [htt] at hdd; cases hdd
     | some ti =>
      rw [htt] at hdd
      have:=hd ti htt
      simp only at hdd
      rw [hdd] at this
      simp only [Option.some.injEq] at h
      subst h
      obtain ⟨ps,rs,vv,he⟩:=this
      cases hx
      cases hy
      refine key  _ _ _ rfl rfl (by simp) (by simp) (zao he (.inr (.inr ⟨⟨ps,rs,vv,rfl⟩,.inl ⟨_,_,_,rfl,rfl,rfl⟩⟩)))
   · cases h
 · split at h
   · rename_i hdd
     cases htt:tab t with
     | none=>rw [htt] at hdd; cases hdd
     | some ti =>
      rw [htt] at hdd
      have:=hd ti htt
      simp only at hdd
      rw [hdd] at this
      simp only [Option.some.injEq] at h
      subst h
      obtain ⟨ps,rs,vv,he⟩:=this
      cases hx
      cases hy
      refine key  _ _ _ rfl rfl (by simp) (by simp) (zao he (.inr (.inr ⟨⟨ps,rs,vv,rfl⟩,.inr ⟨rfl,rfl,rfl⟩⟩)))
   · cases h
 · cases h
end
end Go.AM
set_option linter.unusedVariables false
set_option linter.unusedSimpArgs false
namespace Go.AM
open Go.RowKit
section
variable {P:Program} {w:World} {G:GS}
theorem zoa:(strMax:Int)≤IntKind.max .i64:=by decide
theorem zav (s:ByteArray):s.size=s.data.toList.length:=by rw [Array.length_toList]; rfl
theorem zmu {X:Type} {tab:Nat→Option TI} (hT:TabOK P tab) {t:TypeId} {op:BinOp} {x y:Value} {a b:AV} {k:AV→Option X} {r:X} (hx:RepV w G x a) (hy:RepV w G y b)
 (h:binA (match tab t with | some ti=>ti.d | none => .other) op a b k=some r) (ox oy:Operand) :
 ∃ v av,(do eqGuard op t ox oy x y; Go.binOp op t x y:Sem Value).run P w = .ok v w∧RepV w G v av∧k av=some r:=by
 have fin:∀ (v:Value) (av:AV),(op ≠ .eql∧op ≠ .neq)→(Go.binOp op t x y).run P w = .ok v w→RepV w G v av→k av=some r →
  ∃ v av,(do eqGuard op t ox oy x y; Go.binOp op t x y:Sem Value).run P w = .ok v w∧RepV w G v av∧k av=some r:=by
  intro v av ho hr hv hk
  refine ⟨v,av,?_,hv,hk⟩
  have:eqGuard op t ox oy x y=pure ():=by
   unfold eqGuard
   cases op<;>first | rfl | exact absurd rfl ho.1 | exact absurd rfl ho.2
  rw [this]
  exact hr
 unfold binA at h
 split at h
 · split at h
   · rename_i c hc
     obtain ⟨h1,_,h3⟩:=zhz hT hx hy hc
     exact ⟨_,_,by simp [Sem.run_bind,h3,h1],.bool c,h⟩
   · cases h
 · split at h
   · rename_i c hc
     obtain ⟨_,h2,h3⟩:=zhz hT hx hy hc
     exact ⟨_,_,by simp [Sem.run_bind,h3,h2],.bool (!c),h⟩
   · cases h
 · rename_i q p q' n
   obtain ⟨rfl,_⟩:=zj hx
   obtain ⟨rfl,_⟩:=zj hy
   cases hc:decide (n<0)
   · rw [hc] at h
     simp only [decide_eq_false_iff_not] at hc
     exact fin _ _ (by simp) (by simp [Go.binOp,Op.shift,hc,shlA]) (zai _ _) h
   · rw [hc] at h; cases h
 · rename_i q p q' n
   obtain ⟨rfl,hp⟩:=zj hx
   obtain ⟨rfl,_⟩:=zj hy
   cases hc:decide (n<0)
   · rw [hc] at h
     simp only [decide_eq_false_iff_not] at hc
     refine fin (.int q (shrA q p n)) _ (by simp) (by simp [Go.binOp,Op.shift,hc,shrA]) (.int _ _ fun e => ?_) h
     obtain ⟨h0,h1⟩:=hp e
     unfold shrA
     have hpos:(0:Int)<2 ^ min n.toNat q.bits:=Int.pow_pos (by decide)
     rw [Int.fdiv_eq_ediv_of_nonneg _ (Int.le_of_lt hpos)]
     exact ⟨Int.ediv_nonneg h0 (Int.le_of_lt hpos),Int.lt_of_le_of_lt (Int.ediv_le_self _ h0) h1⟩
   · rw [hc] at h; cases h
 · rename_i q p q' n _ _ _ _
   obtain ⟨rfl,hp⟩:=zj hx
   obtain ⟨rfl,hn⟩:=zj hy
   split at h
   · rename_i hq
     subst hq
     split at h
     · exact fin _ _ (by simp) (by simp [Go.binOp,Op.intArith]) (zai _ _) h
     · exact fin _ _ (by simp) (by simp [Go.binOp,Op.intArith]) (zai _ _) h
     · exact fin _ _ (by simp) (by simp [Go.binOp,Op.intArith]) (zai _ _) h
     · cases hc:(n==0)
       · rw [hc] at h
         have hn0:n≠0:=by simpa using hc
         exact fin _ _ (by simp) (by simp [Go.binOp,Op.intDiv,hn0]) (zai _ _) h
       · rw [hc] at h; cases h
     · cases hc:(n==0)
       · rw [hc] at h
         have hn0:n≠0:=by simpa using hc
         refine fin (.int q (p.tmod n)) _ (by simp) (by simp [Go.binOp,Op.intDiv,hn0]) (.int _ _ fun e => ?_) h
         obtain ⟨h0,h1⟩:=hp e
         obtain ⟨h2,h3⟩:=hn e
         have:=Int.tmod_nonneg n h0
         have h4:=Int.tmod_lt_of_pos p (show (0:Int)<n by omega)
         omega
       · rw [hc] at h; cases h
     · exact fin _ _ (by simp) (by simp [Go.binOp,Op.intCmp]) (.bool _) h
     · exact fin _ _ (by simp) (by simp [Go.binOp,Op.intCmp]) (.bool _) h
     · exact fin _ _ (by simp) (by simp [Go.binOp,Op.intCmp]) (.bool _) h
     · exact fin _ _ (by simp) (by simp [Go.binOp,Op.intCmp]) (.bool _) h
     · exact fin _ _ (by simp) (by simp [Go.binOp,Op.intBits,bitsA]) (zai _ _) h
     · exact fin _ _ (by simp) (by simp [Go.binOp,Op.intBits,bitsA]) (zai _ _) h
     · exact fin _ _ (by simp) (by simp [Go.binOp,Op.intBits,bitsA]) (zai _ _) h
     · exact fin _ _ (by simp) (by simp [Go.binOp,Op.intBits,bitsA]) (zai _ _) h
     · cases h
   · cases h
 · rename_i p q
   obtain ⟨s1,rfl,h1,_⟩:=zo hx
   obtain ⟨s2,rfl,h2,_⟩:=zo hy
   obtain ⟨hc,h⟩:=zb h
   simp only [decide_eq_true_eq] at hc
   have hsz:¬ (((s1.size+s2.size:Nat):Int)>IntKind.i64.max):=by
    have:=zoa
    rw [zav,zav,h1,h2]
    omega
   refine fin (.string (s1++s2)) _ (by simp) ?_ (.str _ _ ?_ (by simp; omega)) h
   · simp only [Go.binOp,Op.stringOp]
     rw [if_neg hsz]
     rfl
   · subst h1; subst h2; simp
 all_goals first
  | cases h
  | (rename_i p q
     obtain ⟨s1,rfl,h1,_⟩:=zo hx
     obtain ⟨s2,rfl,h2,_⟩:=zo hy
     subst h1
     subst h2
     exact fin _ _ (by simp) (by simp [Go.binOp,Op.stringOp,ba_toList]) (.bool _) h)
theorem zob {X:Type} {op:UnOp} {x:Value} {a:AV} {k:AV→Option X} {r:X} (hx:RepV w G x a) (h:unA op a k=some r) :
 ∃ v av,(Op.unary op x).run P w = .ok v w∧RepV w G v av∧k av=some r:=by
 unfold unA at h
 split at h
 · obtain ⟨rfl,_⟩:=zj hx
   exact ⟨_,_,by simp [Op.unary,Op.intArith],zai _ _,h⟩
 · obtain ⟨rfl,_⟩:=zj hx
   exact ⟨_,_,by simp [Op.unary,Op.intBits,bitsA],zai _ _,h⟩
 · obtain rfl:=zah hx
   exact ⟨_,_,by simp [Op.unary],.bool _,h⟩
 · cases h
end
end Go.AM
set_option linter.unusedVariables false
set_option linter.unusedSimpArgs false
namespace Go.AM
open Go.RowKit
section
variable {P:Program} {w:World} {G:GS}
theorem zf2 {α:Type} {l r:List α} {a b:Int} (h:sub l a b=some r):∃ x y:Nat,a=x∧b=y∧x≤y∧y≤l.length∧r=(l.take y).drop x:=by
 unfold sub at h
 split at h
 · rename_i hc
   obtain ⟨h1,h2,h3⟩:=hc
   refine ⟨a.toNat,b.toNat,by omega,by omega,by omega,by omega,?_⟩
   simp only [Option.some.injEq] at h
   exact h.symm
 · cases h
theorem zdb {α:Type} {l:List α} {i:Int} {x:α} (h:idx l i=some x):∃ n:Nat,i=n∧n<l.length∧l[n]? = some x:=by
 unfold idx at h
 split at h
 · rename_i h0
   exact ⟨i.toNat,by omega,(List.getElem?_eq_some_iff.1 h).1,h⟩
 · cases h
theorem zha {o:Option Operand} {a:Act} {e:Env} {N:Nat} (he:EnvR w G N a.tmps e) {x:Option Int} (h:bnd (o.map (ev e))=some x) :
 (o=none∧x=none)∨∃ y q i,o=some y∧x=some i∧a.eval y = .int q i:=by
 cases o with
 | none=>simp [bnd] at h; exact .inl ⟨rfl,h.symm⟩
 | some y =>
  right
  simp only [Option.map_some] at h
  cases hv:ev e y with
  | int q i =>
   rw [hv] at h
   simp only [bnd,Option.some.injEq] at h
   have:=he.ev y
   rw [hv] at this
   exact ⟨y,q,i,rfl,h.symm,(zj this).1⟩
  | _=>rw [hv] at h; simp [bnd] at h
theorem zm {q:IntKind} {n y:Nat} {code:BoundsCode} (h:n≤y):(Instr.sliceBound (.int q (n:Int)) y code).run P w = .ok n w:=by
 have:(0:Int)≤(n:Int)∧(n:Int)≤(y:Int):=by omega
 simp [Instr.sliceBound,asIntOf,this]
theorem RepC.slice {D:Nat→Nat→Prop} {τ:Ty} {l:List τ.den} {A:Option Addr} {cap:Nat} (h:RepC w D (.sl τ) l [.slice A l.length cap]) {lo hi m:Nat} (h1:lo≤hi) (h2:hi≤l.length) (h3:hi≤m) (h4:m≤cap) :
 RepC w D (.sl τ) ((l.take hi).drop lo) [.slice (if m=lo then A else A.map (·.add (lo*τ.size))) (hi - lo) (m - lo)]:=by
 simp only [RepC] at h ⊢
 obtain ⟨hl,A',c',us,hv,hc,hrow,hmem⟩:=h
 simp only [List.cons.injEq,Value.slice.injEq,and_true,true_and] at hv
 obtain ⟨rfl,rfl⟩:=hv
 have hlen:((l.take hi).drop lo).length=hi - lo:=by simp; omega
 have husl:us.length=l.length*τ.size:=RowOf.length (fun x vs hx=>zu hx) hrow
 refine ⟨by rw [hlen]; omega,_,m - lo,(us.take (hi*τ.size)).drop (lo*τ.size),by rw [hlen],by rw [hlen]; omega,RowOf.sub (fun x vs hx=>zu hx) hrow lo hi h1 h2,fun h0 => ?_⟩
 rw [hlen] at h0
 obtain ⟨b,o,rfl,hm⟩:=hmem (by omega)
 refine ⟨b,o+lo*τ.size,by rw [if_neg (by omega)]; simp [addp],fun j u hj => ?_⟩
 rw [List.getElem?_drop,List.getElem?_take] at hj
 split at hj
 · have:=hm _ u hj
   rwa [← Nat.add_assoc] at this
 · cases hj
theorem zcc {v:Value} {τ:Ty} {l:List τ.den} {c:Cap} (h:RepV w G v (.sl τ l c)):∃ A cap,v = .slice A l.length cap∧l.length≤cap∧RepC w G.D (.sl τ) l [.slice A l.length cap]∧CapOK G v l.length τ.size c:=by
 cases h with
 | sl _ _ _ _ hr hc =>
  have hr':=hr
  simp only [RepC] at hr
  obtain ⟨_,A,cap,us,hv,hlc,_⟩:=hr
  simp only [List.cons.injEq,and_true] at hv
  subst hv
  exact ⟨A,cap,rfl,hlc,hr',hc⟩
theorem zec {X:Type} {cx:Cx X} (hT:TabOK P cx.tab) {t:TypeId} {ti:TI} (ht:cx.tab t=some ti) {a:Act} {e:Env} {N:Nat} (he:EnvR w G N a.tmps e) {x:Operand} {xa:AV} (hxa:RepV w G (a.eval x) xa) {lo hi mx:Option Operand} {k:AV→Option X} {r:X}
 (h:sliceA cx ti.d xa (lo.map (ev e)) (hi.map (ev e)) (mx.map (ev e)) k=some r) :
 ∃ v av,(Instr.sliceAt t (a.eval x) (lo.map a.eval) (hi.map a.eval) (mx.map a.eval)).run P w = .ok v w∧RepV w G v av∧k av=some r:=by
 have hti:=(hT t ti ht).d
 unfold sliceA at h
 split at h
 · rename_i lo' hi' mx' hlo hhi hmx
   have rlo:=zha he hlo
   have rhi:=zha he hhi
   have rmx:=zha he hmx
   split at h
   ·
    rename_i s hd
    rw [hd] at hti
    have hxv:=hxa
    obtain ⟨bs,hbs,hbl,hmx2⟩:=zo hxv
    split at h
    · rcases rmx with ⟨rfl,_⟩ | ⟨y,q,i,_,hh,_⟩
      · obtain ⟨q,hq,hk⟩:=Option.bind_eq_some_iff.1 h
        obtain ⟨n1,n2,e1,e2,h12,h2l,rfl⟩:=zf2 hq
        have hsz:bs.size=s.length:=by rw [zav,hbl]
        have hrun:(Instr.sliceBounds false bs.size bs.size (lo.map a.eval) (hi.map a.eval) none).run P w = .ok (n1,n2,bs.size) w:=by
         rcases rlo with ⟨rfl,rfl⟩ | ⟨y,q,i,rfl,rfl,hy⟩<;>rcases rhi with ⟨rfl,rfl⟩ | ⟨y',q',i',rfl,rfl,hy'⟩
         · simp only [Option.getD_none] at e1 e2
           have:n1=0:=by omega
           subst this
           have:n2=bs.size:=by rw [hsz]; omega
           subst this
           simp [Instr.sliceBounds]
         · simp only [Option.getD_none,Option.getD_some] at e1 e2
           have:n1=0:=by omega
           subst this
           subst e2
           simp [Instr.sliceBounds,hy',zm (P:=P) (w:=w) (show n2≤bs.size by omega)]
         · simp only [Option.getD_none,Option.getD_some] at e1 e2
           have:n2=bs.size:=by rw [hsz]; omega
           subst this
           subst e1
           simp [Instr.sliceBounds,hy,zm (P:=P) (w:=w) h12]
         · simp only [Option.getD_some] at e1 e2
           subst e1
           subst e2
           simp [Instr.sliceBounds,hy,hy',zm (P:=P) (w:=w) (show n2≤bs.size by omega),zm (P:=P) (w:=w) h12]
        refine ⟨.string (bs.extract n1 n2),.str ((s.take n2).drop n1),?_,.str _ _ ?_ ?_,hk⟩
        · unfold Instr.sliceAt
          simp only [Sem.run_bind,run_underlying hti,Result.andThen_ok]
          simp only [Instr.slice,Sem.run_bind,run_underlying hti,Result.andThen_ok,hbs]
          simp [hrun]
        · subst hbl
          simp [ByteArray.data_extract]
          exact List.drop_take.symm
        · simp; omega
      · cases hh
    · cases h
   ·
    rename_i et τ l c hd
    rw [hd] at hti
    split at h
    · rename_i ei hei
      obtain ⟨hsz,h⟩:=zb h
      rw [nbeq] at hsz
      have hEi:=hT et ei hei
      have hxv:=hxa
      obtain ⟨A,cap,hx,hlc,hrep,_⟩:=zcc hxv
      have fin:∀ (n1 n2 m:Nat) (cc:Cap),n1≤n2→n2≤l.length→n2≤m→m≤cap→(Instr.sliceBounds true l.length cap (lo.map a.eval) (hi.map a.eval) (mx.map a.eval)).run P w = .ok (n1,n2,m) w →
       CapOK G (.slice (if m=n1 then A else A.map (·.add (n1*τ.size))) (n2 - n1) (m - n1)) (n2 - n1) τ.size cc→k (.sl τ ((l.take n2).drop n1) cc)=some r →
       ∃ v av,(Instr.sliceAt t (a.eval x) (lo.map a.eval) (hi.map a.eval) (mx.map a.eval)).run P w = .ok v w∧RepV w G v av∧k av=some r:=by
       intro n1 n2 m cc h1 h2 h3 h4 hb hcap hk
       have hlen:((l.take n2).drop n1).length=n2 - n1:=by simp; omega
       refine ⟨_,_,?_,.sl τ ((l.take n2).drop n1) cc _ (RepC.slice hrep h1 h2 h3 h4) (by rw [hlen]; exact hcap),hk⟩
       unfold Instr.sliceAt
       simp only [Sem.run_bind,run_underlying hti,Result.andThen_ok]
       simp only [Instr.slice,Sem.run_bind,run_underlying hti,Result.andThen_ok,hx]
       simp [hb,zq hEi,hsz]
      split at h
      · rcases rmx with ⟨rfl,_⟩ | ⟨y,q,i,_,hh,_⟩
        · obtain ⟨q,hq,hk⟩:=Option.bind_eq_some_iff.1 h
          obtain ⟨n1,n2,e1,e2,h12,h2l,rfl⟩:=zf2 hq
          refine fin n1 n2 cap .unk h12 h2l (by omega) (Nat.le_refl _) ?_ trivial hk
          rcases rlo with ⟨rfl,rfl⟩ | ⟨y,q,i,rfl,rfl,hy⟩<;>rcases rhi with ⟨rfl,rfl⟩ | ⟨y',q',i',rfl,rfl,hy'⟩
          · simp only [Option.getD_none] at e1 e2
            have:n1=0:=by omega
            subst this
            have:n2=l.length:=by omega
            subst this
            simp [Instr.sliceBounds]
          · simp only [Option.getD_none,Option.getD_some] at e1 e2
            have:n1=0:=by omega
            subst this
            subst e2
            simp [Instr.sliceBounds,hy',zm (P:=P) (w:=w) (show n2≤cap by omega)]
          · simp only [Option.getD_none,Option.getD_some] at e1 e2
            have:n2=l.length:=by omega
            subst this
            subst e1
            simp [Instr.sliceBounds,hy,zm (P:=P) (w:=w) h12]
          · simp only [Option.getD_some] at e1 e2
            subst e1
            subst e2
            simp [Instr.sliceBounds,hy,hy',zm (P:=P) (w:=w) (show n2≤cap by omega),zm (P:=P) (w:=w) h12]
        · cases hh
      · rename_i m h0
        rcases rmx with ⟨_,hh⟩ | ⟨ym,qm,im,rfl,hh,hym⟩
        · cases hh
        · obtain rfl:=Option.some.inj hh
          split at h
          · rename_i hi''
            rcases rhi with ⟨_,hh2⟩ | ⟨y',q',i',rfl,hh2,hy'⟩
            · cases hh2
            · obtain rfl:=Option.some.inj hh2
              obtain ⟨hme,h2⟩:=zb h
              obtain rfl:hi''=m:=by simpa using hme
              obtain ⟨q,hq,hk⟩:=Option.bind_eq_some_iff.1 h2
              obtain ⟨n1,n2,e1,e2,h12,h2l,rfl⟩:=zf2 hq
              subst e2
              refine fin n1 n2 n2 .full h12 h2l (Nat.le_refl _) (by omega) ?_ ⟨_,rfl⟩ hk
              rcases rlo with ⟨rfl,rfl⟩ | ⟨y,q,i,rfl,rfl,hy⟩
              · simp only [Option.getD_none] at e1
                have:n1=0:=by omega
                subst this
                simp [Instr.sliceBounds,hy',hym,zm (P:=P) (w:=w) (show n2≤cap by omega),zm (P:=P) (w:=w) (Nat.le_refl n2)]
              · simp only [Option.getD_some] at e1
                subst e1
                simp [Instr.sliceBounds,hy,hy',hym,zm (P:=P) (w:=w) (show n2≤cap by omega),zm (P:=P) (w:=w) (Nat.le_refl n2),zm (P:=P) (w:=w) h12]
          · cases h
    · cases h
   · cases h
 · cases h
end
end Go.AM
set_option linter.unusedVariables false
set_option linter.unusedSimpArgs false
namespace Go.AM
open Go.RowKit
section
variable {P:Program} {w:World} {G:GS}
theorem zgm {vs:List Value} {cs:List AV} (h:∀ w G,RepL w G vs cs):noBld cs=true:=by
 unfold noBld
 split
 · rename_i r T q
   have h0:=h default ⟨fun _ _=>False,[],[],[],[],bv0⟩
   have hl:0<vs.length:=by rw [h0.1]; simp
   have hx:=h0.2 0 vs[0] (.bcell r T) (by simp [hl]) rfl
   generalize vs[0]=u at hx
   cases hx with
   | bcell _ _ b _ hb=>simp at hb
 · rfl
theorem zla {X:Type} {B0:Nat} {w0:Wd} {h:H} (s:St B0 w0 G h w) {t:Nat} {ti:TI} (hti:TiOK P t ti) (hl:ti.zero.length=ti.size) (hp:0<ti.size) {k:AV→H→Option X} {r:X}
 (hk:k (.ref h.bx.length 0) { h with bx:=h.bx++[ti.zero] }=some r):∃ v w',(Instr.alloc t true (.tuple #[])).run P w = .ok v w'∧Ends B0 w0 G w k r v w':=by
 obtain ⟨z,hz,hR⟩:=zw (w:=w) hti (fun e=>by rw [e] at hl; simp at hl; omega)
 obtain ⟨G',hx,hkp,hs',hb⟩:=s.newBox (hR w G) t (zgm hR)
 refine ⟨.pointer (some ⟨w.heap.size,0,none⟩),w.alloc (.cells z.cells t),?_,.ref h.bx.length 0,G',_,hx,hkp,hs',.ref _ _ _ hb.1 hb.2,hk⟩
 simp [Instr.alloc,hz,newVar,newRow]
theorem zoc {X:Type} {B0:Nat} {w0:Wd} {h:H} (s:St B0 w0 G h w) {t:Nat} {v:Value} {a:AV} (hv:RepV w G v a) (hp:0<(cellsOf a).length) (hn:noBld (cellsOf a)=true) {k:AV→H→Option X} {r:X}
 (hk:k (.ref h.bx.length 0) { h with bx:=h.bx++[cellsOf a] }=some r):∃ u w',(Instr.box t v).run P w = .ok u w'∧Ends B0 w0 G w k r u w':=by
 obtain ⟨G',hx,hkp,hs',hb⟩:=s.newBox (za5 hv (zau hp)) t hn
 refine ⟨.pointer (some ⟨w.heap.size,0,none⟩),w.alloc (.cells v.cells t),?_,.ref h.bx.length 0,G',_,hx,hkp,hs',.ref _ _ _ hb.1 hb.2,hk⟩
 simp [Instr.box,newVar,newRow]
theorem zff:∀ (fs:List Field),(∀ f∈fs,∃ i,P.info? f.type=some i)→∃ pl,(fs.mapM fun f=>Prod.mk f.offset <$> sizeOf f.type).run P w = .ok pl w ∧
 ∀ (i:Nat) (f:Field),fs[i]? = some f→∃ ii,P.info? f.type=some ii∧pl[i]? = some (f.offset,ii.size)
 | [],_=>⟨[],by simp,by simp⟩
 | f::fs,h=>by
  obtain ⟨i,hi⟩:=h f (by simp)
  obtain ⟨pl,h1,h2⟩:=zff fs (fun g hg=>h g (by simp [hg]))
  have hs:(sizeOf f.type).run P w = .ok i.size w:=by simp [sizeOf,typeInfo,hi]
  refine ⟨(f.offset,i.size)::pl,by simp only [List.mapM_cons,Sem.run_bind,Sem.run_map,hs,h1,Result.andThen_ok,Sem.run_pure],fun j g hg => ?_⟩
  cases j with
  | zero=>simp at hg; subst hg; exact ⟨i,hi,rfl⟩
  | succ j=>simpa using h2 j g (by simpa using hg)
theorem zlb {X:Type} {cx:Cx X} (hT:TabOK P cx.tab) {a:Act} {e:Env} {N:Nat} (he:EnvR w G N a.tmps e) {t:Nat} {ti:TI} (ht:cx.tab t=some ti) (hl:ti.zero.length=ti.size) (hp:0<ti.size) {parts:Array (Nat×Operand)} :
 (∀ fs cs,ti.d = .struct fs→buildS cx.tab fs e parts.toList ti.zero=some cs→∃ v,(Instr.build t (parts.map fun (i,x)=>(i,a.eval x))).run P w = .ok v w∧RepV w G v (.agg cs)) ∧
 (∀ n et ei cs,ti.d = .arr n et→cx.tab et=some ei→buildA ei e parts.toList ti.zero=some cs→∃ v,(Instr.build t (parts.map fun (i,x)=>(i,a.eval x))).run P w = .ok v w∧RepV w G v (.agg cs)):=by
 have hti:=hT t ti ht
 obtain ⟨z,hz,hR⟩:=zw (w:=w) hti (fun e=>by rw [e] at hl; simp at hl; omega)
 have hmap:(parts.map fun (i,x)=>(i,a.eval x)).toList=parts.toList.map fun p=>(p.1,a.eval p.2):=by simp
 have agg:∀ (arr:Array Value) (cs:List AV),RepL w G arr.toList cs→RepV w G (.agg arr) (.agg cs):=fun arr cs h =>
  .agg _ _ (by simpa using h.1) (fun i v c hv hc=>h.2 i v c (by simpa using hv) hc)
 constructor
 · intro fs cs hd hb
   have hd':=hti.d
   rw [hd] at hd'
   obtain ⟨fields,hu,hfs,hinf⟩:=hd'
   obtain ⟨pl,hpl,hpl2⟩:=zff (P:=P) (w:=w) fields.toList hinf
   obtain ⟨arr,hf,hr⟩:=zfd hT he hfs (places:=pl.toArray) (fun i f hf ti' hti'=>by
    obtain ⟨ii,h1,h2⟩:=hpl2 i f (by simpa using hf)
    obtain ⟨i2,h3,h4,_⟩:=(hT f.type ti' hti').info
    rw [h1] at h3
    obtain rfl:=Option.some.inj h3
    simpa [h4] using h2) parts.toList z.cells ti.zero cs (hR w G) hb
   refine ⟨.agg arr,?_,agg arr cs hr⟩
   simp only [Instr.build,Sem.run_bind,hz,Result.andThen_ok,run_underlying hu]
   rw [Array.mapM_eq_mapM_toList]
   have e1:(fields.toList.mapM fun f=>(do pure (f.offset,← sizeOf f.type):Sem (Nat×Nat))).run P w = .ok pl w:=hpl
   simp only [Sem.run_map,e1,Result.andThen_ok,hmap,hf]
   rfl
 · intro n et ei cs hd hei hb
   have hd':=hti.d
   rw [hd] at hd'
   obtain ⟨arr,hf,hr⟩:=zfe he (ei:=ei) parts.toList z.cells ti.zero cs (hR w G) hb
   refine ⟨.agg arr,?_,agg arr cs hr⟩
   simp only [Instr.build,Sem.run_bind,hz,Result.andThen_ok,run_underlying hd',zq (hT et ei hei),hmap,hf]
   rfl
theorem zdc {a:Act} {e:Env} {N:Nat} (he:EnvR w G N a.tmps e) {τ:Ty} (hp:0<τ.size):∀ (parts:List (Nat×Operand)) (n:Nat) (arr:Array Value) (l:List τ.den),buildSl τ e n parts=some l→(n+l.length)*τ.size≤arr.size →
 ∃ (arr':Array Value) (us:List Value),Instr.fill (fun i=>some (i*τ.size,τ.size)) arr (parts.map fun p=>(p.1,a.eval p.2))=some arr'∧RowOf (fun x us=>RepC w G.D τ x us) l us ∧
  arr'.toList=arr.toList.take (n*τ.size)++us++arr.toList.drop ((n+l.length)*τ.size)
 | [],n,arr,l,h,_=>by
  simp only [buildSl,Option.some.injEq] at h
  subst h
  exact ⟨arr,[],rfl,rfl,by simp⟩
 | (i, x) :: parts,n,arr,l,h,hlen=>by
  simp only [buildSl] at h
  obtain ⟨hi,h2⟩:=zb h
  rw [nbeq] at hi
  subst hi
  replace h:=h2
  clear h2
  split at h
  · rename_i v hv
    split at h
    · rename_i l' hl'
      obtain rfl:=Option.some.inj h
      have hrep:=zac (he.ev x) (some τ)
      unfold fromAV at hv
      split at hv
      · rename_i y hy
        obtain rfl:=Option.some.inj hv
        have hne:typ (some τ) (ev e x) ≠ .any:=by
         intro e1
         rw [e1] at hy
         simp only [cellsOf] at hy
         have hR0:RepL w G [] []:=.nil
         obtain ⟨v1,v2,h1,h2,_⟩:=zeb τ [] [] y [] hR0 hy
         have:=zu h2
         simp at h1
         rw [h1.1] at this
         simp at this
         omega
        have hR:=za5 hrep hne
        obtain ⟨v1,v2,h1,h2,h3⟩:=zeb τ _ _ y [] hR hy
        have:v2=[]:=List.eq_nil_of_length_eq_zero (by simpa using h3.1)
        subst this
        rw [List.append_nil] at h1
        have hvs:(a.eval x).cells.toList.length=τ.size:=by rw [h1]; exact zu h2
        have hvs':(a.eval x).cells.size=τ.size:=by simpa using hvs
        simp only [List.length_cons] at hlen
        have hoff:n*τ.size+(a.eval x).cells.size≤arr.size:=by
         rw [hvs']
         have:(n+(l'.length+1))*τ.size=n*τ.size+τ.size+l'.length*τ.size:=by rw [Nat.add_mul,Nat.add_mul]; omega
         omega
        have e1:=zea (a.eval x).cells arr (n*τ.size) hoff
        generalize hA:((a.eval x).cells.zipIdx.foldl (fun (cs:Array Value) (p:Value×Nat)=>cs.setIfInBounds (n*τ.size+p.2) p.1) arr)=arr1 at e1
        have hsz1:arr1.size=arr.size:=by
         have:=congrArg List.length e1
         simp at this
         omega
        obtain ⟨arr',us,hf,hrow,e2⟩:=zdc he hp parts (n+1) arr1 l' hl' (by rw [hsz1]; rw [show n+1+l'.length=n+(l'.length+1) from by omega]; exact hlen)
        refine ⟨arr',v1++us,?_,⟨v1,us,rfl,h2,hrow⟩,?_⟩
        · simp only [List.map_cons,Instr.fill,hvs']
          rw [if_neg (by simp; omega)]
          have hA':(a.eval x).cells.zipIdx.foldl (fun (cs:Array Value) (y:Value×Nat)=>match y with | (c,j)=>cs.setIfInBounds (n*τ.size+j) c) arr=arr1:=hA
          rw [hA']
          exact hf
        · rw [e2,e1,h1]
          have hm:(n+1)*τ.size=n*τ.size+τ.size:=by rw [Nat.add_mul]; omega
          have hv1:v1.length=τ.size:=zu h2
          have hn1:n*τ.size≤arr.toList.length:=by simp; omega
          have ht:List.take ((n+1)*τ.size) (arr.toList.take (n*τ.size)++v1++arr.toList.drop (n*τ.size+(a.eval x).cells.size))=arr.toList.take (n*τ.size)++v1:=by
           rw [List.take_append_of_le_length (by simp; omega)]
           exact List.take_of_length_le (by simp; omega)
          have hdr:List.drop ((n+1+l'.length)*τ.size) (arr.toList.take (n*τ.size)++v1++arr.toList.drop (n*τ.size+(a.eval x).cells.size))=arr.toList.drop ((n+(l'.length+1))*τ.size):=by
           have hx:(n+1+l'.length)*τ.size=(n*τ.size+τ.size)+l'.length*τ.size:=by rw [Nat.add_mul,hm]
           rw [List.drop_append,List.drop_eq_nil_of_le (by simp; omega),List.nil_append,List.drop_drop]
           congr 1
           simp only [List.length_append,List.length_take,hv1,Nat.min_eq_left hn1,hvs']
           have hy:(n+(l'.length+1))*τ.size=n*τ.size+τ.size+l'.length*τ.size:=by rw [Nat.add_mul,Nat.add_mul]; omega
           omega
          rw [ht,hdr]
          simp
      · cases hv
    · cases h
  · cases h
end
end Go.AM
set_option linter.unusedVariables false
set_option linter.unusedSimpArgs false
namespace Go.AM
open Go.RowKit
section
variable {P:Program} {w:World} {G:GS}
theorem St.setD {B0:Nat} {w0:Wd} {h:H} (s:St B0 w0 G h w) {D':Nat→Nat→Prop}
 (hD:∀ b o,G.D b o→D' b o) (hD0:∀ b o,D' b o→G.D b o∨B0≤b) (hDc:∀ (b o:Nat),D' b o→(∃ u,w.cell? ⟨b,o,none⟩=some u)∧some b∉G.bx)
 (hDo:∀ (t:Nat) (g0:Tk),G.tk[t]? = some (some g0)→g0.n<g0.cap→∀ b,g0.A=some b→∀ i,g0.n*g0.sz≤i→i<g0.cap*g0.sz→¬ D' b i) :
 St B0 w0 { G with D:=D' } h w∧Ext G.base G { G with D:=D' }:=by
 have hx:Ext G.base G { G with D:=D' }:=⟨hD,fun _ _ => .inl ⟨rfl,rfl⟩,(Ext.refl (Base.le_refl _)).tk,fun _ _=>rfl,rfl⟩
 refine ⟨?_,hx⟩
 exact
 { below:=s.below
   b0:=s.b0
   bxl:=s.bxl
   box:=fun r b cs h1 h2=>by
    obtain ⟨hB,ob,hh,hr⟩:=s.box r b cs h1 h2
    exact ⟨hB,ob,hh,hr.keep hx (Keep.refl _ _) rfl⟩
   virt:=s.virt
   inj:=s.inj
   dat:=hDc
   dat0:=fun b o x=>(hD0 b o x).elim (s.dat0 b o) .inr
   tkl:=s.tkl
   tok:=fun t g' ht'=>by
    obtain ⟨h1,h2⟩:=s.tok t g' ht'
    refine ⟨h1,fun hlt => ?_⟩
    obtain ⟨b,hA,hB,hn,cs,et,fr,hh,hc,hii⟩:=h2 hlt
    exact ⟨b,hA,hB,hn,cs,et,fr,hh,hc,fun i i1 i2=>⟨hDo t g' ht' hlt b hA i i1 i2,(hii i i1 i2).2⟩⟩
   tki:=s.tki
   lpl:=s.lpl
   loop:=s.loop
   lpi:=s.lpi
   dfr:=s.dfr
   dfn:=s.dfn }
theorem St.newData {B0:Nat} {w0:Wd} {h:H} (s:St B0 w0 G h w) {w1:World} {cells:Array Value} {et:TypeId} {fr:Nat×Nat} (hgr:w.grownBy w1 none) (hheap:w1.heap[w.heap.size]? = some (.cells cells et fr)) {n:Nat} (hn:n≤cells.size) :
 ∃ D':Nat→Nat→Prop,(∀ o,o<n→D' w.heap.size o)∧Ext G.base G { G with D:=D' }∧Keep G.D w w1∧St B0 w0 { G with D:=D' } h w1:=by
 have s':=s.grown0 hgr
 have hkeep:Keep G.D w w1:=Keep.of_grown hgr (fun b o x=>(s.dat b o x).1) (fun _ _ _=>by simp)
 have hbn:some w.heap.size∉G.bx:=fun hmem'=>by
  obtain ⟨q,hq⟩:=List.getElem?_of_mem hmem'
  have hq':q<h.bx.length:=by rw [s.bxl]; exact (List.getElem?_eq_some_iff.1 hq).1
  obtain ⟨_,_,hh,_⟩:=s.box q _ _ hq (List.getElem?_eq_getElem hq')
  have:=(Array.getElem?_eq_some_iff.1 hh).1
  omega
 have hnotok:∀ (t:Nat) (g0:Tk),G.tk[t]? = some (some g0)→g0.n<g0.cap→g0.A≠some w.heap.size:=fun t g0 h0 hlt e=>by
  obtain ⟨b',hA',_,_,_,_,_,hh,_⟩:=(s.tok t g0 h0).2 hlt
  rw [hA'] at e
  simp at e
  subst e
  have:=(Array.getElem?_eq_some_iff.1 hh).1
  omega
 obtain ⟨hst,hext⟩:=s'.setD (D':=fun x o=>G.D x o∨(x=w.heap.size∧o<n)) (fun _ _ x => .inl x) (fun b o x=>x.imp id fun y=>by rw [y.1]; exact s.b0)
  (fun x o hxo=>by
   rcases hxo with hxo | ⟨rfl,hxo⟩
   · exact s'.dat x o hxo
   · exact ⟨⟨cells[o]'(by omega),by rw [zr hheap]; simp [show o<cells.size from by omega]⟩,hbn⟩)
  (fun t g0 h0 hlt x hA j j1 j2 hd=>by
   obtain ⟨b',hA',_,_,_,_,_,_,_,hjj⟩:=(s'.tok t g0 h0).2 hlt
   rw [hA] at hA'; obtain rfl:=Option.some.inj hA'
   rcases hd with hd | ⟨rfl,hd⟩
   · exact (hjj j j1 j2).1 hd
   · exact hnotok t g0 h0 hlt hA)
 exact ⟨_,fun o ho => .inr ⟨rfl,ho⟩,hext,hkeep,hst⟩
theorem zf3 {X:Type} {cx:Cx X} (hT:TabOK P cx.tab) {a:Act} {e:Env} {N:Nat} (he:EnvR w G N a.tmps e) {B0:Nat} {w0:Wd} {h:H} (s:St B0 w0 G h w) {t et:Nat} {ti ei:TI} (ht:cx.tab t=some ti) (htd:ti.d = .slice et)
 (hei:cx.tab et=some ei) {τ:Ty} {len:Nat} {parts:Array (Nat×Operand)} {l:List τ.den} (hb:buildSl τ e 0 parts.toList=some l) (hl:l.length=len) (hsz:ei.size=τ.size) (hmax:len*ei.size≤16777216)
 (hz:ei.zero.length=ei.size) (hp:0<ei.size) {k:AV→H→Option X} {r:X} (hk:k (.sl τ l .full) h=some r) :
 ∃ v w',(Instr.buildSlice t len (parts.map fun (i,x)=>(i,a.eval x))).run P w = .ok v w'∧Ends B0 w0 G w k r v w':=by
 have hti:=(hT t ti ht).d
 rw [htd] at hti
 have hEi:=hT et ei hei
 obtain ⟨z,hzr,_⟩:=zw (w:=w) hEi (fun e=>by rw [e] at hz; simp at hz; omega)
 obtain ⟨zc,hz0,hz1⟩:∃ zc:Array Value,(len*ei.size=0→zc=#[])∧(¬ len*ei.size=0→zc=z.cells):=by
  by_cases h0:len*ei.size=0
  · exact ⟨#[],fun _=>rfl,fun h=>absurd h0 h⟩
  · exact ⟨z.cells,fun h=>absurd h h0,fun _=>rfl⟩
 generalize hA:(Array.range (len*ei.size)).map (fun x=>zc[x % zc.size]!)=arr
 have hAs:arr.size=len*τ.size:=by rw [← hA]; simp [hsz]
 obtain ⟨arr',us,hf,hrow,e2⟩:=zdc (w:=w) (G:=G) he (by omega) parts.toList 0 arr l hb (by rw [Nat.zero_add,hl,hAs]; exact Nat.le_refl _)
 have hus:us.length=len*τ.size:=by rw [← hl]; exact RowOf.length (fun x vs hx=>zu hx) hrow
 have hall:arr'.toList=us:=by
  rw [e2]
  simp only [Nat.zero_mul,List.take_zero,List.nil_append,Nat.zero_add]
  rw [List.drop_eq_nil_of_le (by simp [hAs,hl]),List.append_nil]
 have hmap:(parts.map fun (i,x)=>(i,a.eval x)).toList=parts.toList.map fun p=>(p.1,a.eval p.2):=by simp
 have hrun:(Instr.buildSlice t len (parts.map fun (i,x)=>(i,a.eval x))).run P w = .ok (.slice (some ⟨w.heap.size,0,none⟩) len len) (w.alloc (.cells arr' et)):=by
  unfold Instr.buildSlice
  simp only [Sem.run_bind,run_underlying hti,Result.andThen_ok,zq hEi]
  rw [if_neg (by omega)]
  by_cases h0:len*ei.size=0
  · rw [if_pos h0]
    have:=hz0 h0
    subst this
    simp only [Sem.run_bind,Result.andThen_ok,Sem.run_pure]
    rw [hA,hmap]
    rw [hsz,hf]
    simp [newRow]
  · rw [if_neg h0]
    have:=hz1 h0
    subst this
    simp only [Sem.run_bind,hzr,Result.andThen_ok,Sem.run_pure]
    rw [hA,hmap]
    rw [hsz,hf]
    simp [newRow]
 have hgr:w.grownBy (w.alloc (.cells arr' et)) none:=World.grownBy_alloc w _ none
 have hheap:(w.alloc (.cells arr' et)).heap[w.heap.size]? = some (.cells arr' et (0,0)):=World.alloc_heap_new w _
 have harrs:arr'.size=len*τ.size:=by
  have:=congrArg List.length hall
  simp at this
  omega
 obtain ⟨D',hD',hext,hkeep,hst⟩:=s.newData (n:=len*τ.size) hgr hheap (by omega)
 refine ⟨_,_,hrun,.sl τ l .full,_,h,hext,hkeep,hst,.sl τ l .full _ ?_ ⟨some ⟨w.heap.size,0,none⟩,by rw [hl]⟩,hk⟩
 simp only [RepC]
 have hsm:l.length≤strMax:=by
  have h1:l.length≤len*ei.size:=by rw [hl]; exact Nat.le_mul_of_pos_right _ hp
  have h2:(16777216:Nat)≤strMax:=by decide
  omega
 refine ⟨hsm,some ⟨w.heap.size,0,none⟩,len,us,by rw [hl],by omega,RowOf.mono _ _ (fun x _ vs hx=>RepC.mono hext.D hkeep τ x vs hx) hrow,fun _=>⟨w.heap.size,0,rfl,fun j u hj => ?_⟩⟩
 have hjl:=(List.getElem?_eq_some_iff.1 hj).1
 refine ⟨hD' _ (by omega),?_⟩
 rw [Nat.zero_add,zr hheap,← Array.getElem?_toList,hall]
 exact hj
theorem zje {t:Nat} {ti:TI} (hti:TiOK P t ti) {cs:Array Value} {aS:List AV} (hr:RepL w G cs.toList aS) {off:Nat} {bs:List AV} {v:AV} (hb:takeN ti.size (aS.drop off)=some bs) (hv:mkVal ti.agg bs=some v) :
 ∃ u,(part t cs off).run P w = .ok u w∧RepV w G u v:=by
 obtain ⟨e1,e2⟩:=zbr _ _ _ hb
 have hR:=(hr.drop off).take ti.size
 rw [← e1] at hR
 unfold part
 simp only [Sem.run_bind,zgk hti,Result.andThen_ok]
 cases ha:ti.agg with
 | true =>
  rw [ha] at hv
  simp only [mkVal,Option.some.injEq] at hv
  subst hv
  simp only [if_true,Sem.run_bind,zq hti,Result.andThen_ok]
  have hcl:(cs.extract off (off+ti.size)).toList=(cs.toList.drop off).take ti.size:=by
   rw [Array.toList_extract,List.extract_eq_take_drop]
   congr 1
   omega
  refine ⟨_,rfl,.agg _ _ ?_ fun i u c hu hc=>hR.2 i u c ?_ hc⟩
  · have:=hR.1
    rw [← hcl] at this
    rw [← this,Array.length_toList]
  · rw [← hcl,Array.getElem?_toList]
    exact hu
 | false =>
  rw [ha] at hv
  cases bs with
  | nil=>simp [mkVal] at hv
  | cons c cs'=>cases cs' with
   | cons d ds=>simp [mkVal] at hv
   | nil =>
    simp only [mkVal,Option.some.injEq] at hv
    subst hv
    simp only [Bool.false_eq_true,if_false]
    have h1:((cs.toList.drop off).take ti.size).length=1:=by rw [hR.1]; rfl
    have hs1:ti.size=1:=by simpa using e2.symm
    rw [hs1] at h1
    have hlt:off<cs.size:=by simp at h1; omega
    have:cs[off]? = some cs[off]:=by simp [hlt]
    rw [this]
    refine ⟨cs[off],rfl,hR.2 0 _ c ?_ rfl⟩
    rw [hs1]
    simp [hlt]
theorem zgn {X:Type} {ei:TI} {et:Nat} (hei:TiOK P et ei) {cs:Array Value} {i:Int} {k:AV→Option X} {r:X}:∀ (n:Nat) (j:Nat) (aS:List AV),RepL w G (cs.toList.drop (j*ei.size)) aS→aidx ei.agg ei.size i n (j:Int) aS k=some r →
 ∃ m:Nat,i=m∧m<j+n∧∃ u v,(part et cs (m*ei.size)).run P w = .ok u w∧RepV w G u v∧k v=some r
 | 0,j,aS,_,h=>by simp [aidx] at h
 | n + 1, j, aS,hr,h=>by
  simp only [aidx] at h
  cases hc:(i==(j:Int)) with
  | true =>
   rw [hc] at h
   simp only [cond_true] at h
   have hij:i=j:=by simpa using hc
   split at h
   · rename_i bs hb
     split at h
     · rename_i v hv
       have hfull:RepL w G cs.toList ((List.replicate (j*ei.size) AV.any).take (min (j*ei.size) cs.size)++aS):=by
        have e:cs.toList=cs.toList.take (j*ei.size)++cs.toList.drop (j*ei.size):=(List.take_append_drop _ _).symm
        rw [e]
        refine RepL.append ⟨by simp,fun q u c hu hcc => ?_⟩ hr
        rw [List.getElem?_take] at hcc
        split at hcc
        · rw [List.getElem?_replicate] at hcc
          split at hcc
          · obtain rfl:=Option.some.inj hcc
            exact .any _
          · cases hcc
        · cases hcc
       have hdrop:((List.replicate (j*ei.size) AV.any).take (min (j*ei.size) cs.size)++aS).drop (j*ei.size)=aS∨True:=.inr trivial
       by_cases hle:j*ei.size≤cs.size
       · rw [Nat.min_eq_left hle,List.take_of_length_le (by simp)] at hfull
         obtain ⟨u,hu,hrep⟩:=zje (w:=w) (G:=G) hei hfull (off:=j*ei.size) (bs:=bs) (v:=v) (by rw [List.drop_left' (by simp)]; exact hb) hv
         exact ⟨j,hij,by omega,u,v,hu,hrep,h⟩
       · have hlen:aS.length=0:=by
          have:=hr.1
          simp at this
          omega
         have:aS=[]:=List.eq_nil_of_length_eq_zero hlen
         subst this
         obtain ⟨e1,e2⟩:=zbr _ _ _ hb
         simp at e1
         subst e1
         simp at e2
         have:j*ei.size=0:=by rw [← e2]; simp
         omega
     · cases h
   · cases h
  | false =>
   rw [hc] at h
   simp only [cond_false] at h
   rw [za4] at h
   have hr':=hr.drop ei.size
   rw [List.drop_drop] at hr'
   have e:j*ei.size+ei.size=(j+1)*ei.size:=by rw [Nat.add_mul]; omega
   rw [e] at hr'
   have h':aidx ei.agg ei.size i n ((j+1:Nat):Int) (aS.drop ei.size) k=some r:=h
   obtain ⟨m,h1,h2,h3⟩:=zgn hei n (j+1) (aS.drop ei.size) hr' h'
   exact ⟨m,h1,by omega,h3⟩
end
end Go.AM
set_option linter.unusedVariables false
set_option linter.unusedSimpArgs false
namespace Go.AM
open Go.RowKit
section
variable {P:Program} {w:World} {G:GS}
theorem zod {D:Nat→Nat→Prop}:∀ {l:List UInt8} {us:List Value},RowOf (fun (x:UInt8) us=>RepC w D .u8 x us) l us→us=l.map fun b => .int .u8 (b.toNat:Int)
 | [],us,h=>h
 | b::l,us,h=>by
  obtain ⟨v1,v2,rfl,h1,h2⟩:=h
  simp only [RepC] at h1
  rw [h1,zod h2]
  rfl
theorem zjf {D:Nat→Nat→Prop}:∀ (l:List UInt8),RowOf (fun (x:UInt8) us=>RepC w D .u8 x us) l (l.map fun b => .int .u8 (b.toNat:Int))
 | []=>rfl
 | b::l=>⟨[.int .u8 b.toNat],_,rfl,by simp only [RepC],zjf l⟩
theorem zjg {src dst e:TypeId} {v:Value} {l:List UInt8} {c:Cap} (hs:P.underlying src=some (.slice e)) (he:P.underlying e=some (.int .u8)) (hd:P.underlying dst=some .string) (hv:RepV w G v (.sl .u8 l c)) :
 ∃ u,(convert src dst v).run P w = .ok u w∧RepV w G u (.str l):=by
 obtain ⟨A,cap,rfl,hlc,hrep,_⟩:=zcc hv
 simp only [RepC] at hrep
 obtain ⟨hl,A',c',us,hv,_,hrow,hmem⟩:=hrep
 simp only [List.cons.injEq,Value.slice.injEq,and_true,true_and] at hv
 obtain ⟨rfl,rfl⟩:=hv
 have hus:=zod (w:=w) (D:=G.D) (by simpa only [RepC] using hrow)
 by_cases h0:0<l.length
 · obtain ⟨b,o,rfl,hm⟩:=hmem h0
   refine ⟨.string (strOfNums (l.map fun b=>(b.toNat:Int))),run_convert_bytes_arg w src e hs he b o l.length _ (l.map fun b=>(b.toNat:Int)) (by simp) (fun i hi => ?_) dst hd,.str _ _ ?_ hl⟩
   · have hmi:=(hm i (.int .u8 (l[i].toNat:Int)) (by rw [hus]; simp [hi])).2
     rw [hmi]
     simp [List.getD,hi]
   · rw [strOfNums_data,List.map_map]
     conv=>rhs; rw [← List.map_id l]
     apply List.map_congr_left
     intro b _
     simp
 · have:l=[]:=List.eq_nil_of_length_eq_zero (by omega)
   subst this
   cases A with
   | none=>exact ⟨_,run_convert_bytes_nil w src e hs he _ _ dst hd,.str _ _ rfl (by simp)⟩
   | some a =>
    refine ⟨.string (strOfNums []),?_,.str _ _ rfl (by simp)⟩
    obtain ⟨b,o,sp⟩:=a
    rw [run_convert_bytes_string w src dst e _ _ _ hs he hd]
    exact run_bytesToString w _ 0 _ [] (by simp [loadCells,loadCellsFrom])
theorem zjh {X:Type} {B0:Nat} {w0:Wd} {h:H} (st:St B0 w0 G h w) {src dst e:TypeId} {v:Value} {l:List UInt8} (hs:P.underlying src=some .string) (he:P.underlying e=some (.int .u8)) (hd:P.underlying dst=some (.slice e)) (hv:RepV w G v (.str l))
 {k:AV→H→Option X} {r:X} (hk:k (.sl .u8 l (.own h.tk.length)) { h with tk:=h.tk++[some l.length] }=some r) :
 ∃ u w',(convert src dst v).run P w = .ok u w'∧Ends B0 w0 G w k r u w':=by
 obtain ⟨s,rfl,hsl,hlm⟩:=zo hv
 have hsz:s.size=l.length:=by rw [zav,hsl]
 refine ⟨_,_,Lib.run_convert_string_bytes w src dst e s hs hd he,?_⟩
 have hcl:(Lib.bytesCells w e s).toList=l.map (fun b=>Value.int .u8 (b.toNat:Int))++List.replicate (grownCap w s.size 0 e - s.size) (.int .u8 0):=by
  subst hsl
  simp [Lib.bytesCells]
 have hge:s.size≤grownCap w s.size 0 e:=grownCap_ge w _ _ _
 have hcs:(Lib.bytesCells w e s).size=grownCap w s.size 0 e:=by
  have:=congrArg List.length hcl
  simp only [Array.length_toList,List.length_append,List.length_map,List.length_replicate] at this
  omega
 have hgr:w.grownBy (Lib.bytesWorld w e s) none:=
  ⟨by unfold Lib.bytesWorld World.freeze; split<;>rfl,by unfold Lib.bytesWorld World.freeze; split<;>rfl,by unfold Lib.bytesWorld World.freeze; split<;>rfl,by rw [Lib.bytesWorld_size]; omega,fun j hj _=>Lib.bytesWorld_at_old w e s j hj⟩
 have hheap:=Lib.bytesWorld_at_new w e s
 obtain ⟨D',hD',hext1,hkeep,hst1⟩:=st.newData (n:=l.length) hgr hheap (by omega)
 have hnb:some w.heap.size∉G.bx:=fun hmem'=>by
  obtain ⟨q,hq⟩:=List.getElem?_of_mem hmem'
  have hq':q<h.bx.length:=by rw [st.bxl]; exact (List.getElem?_eq_some_iff.1 hq).1
  obtain ⟨_,_,hh,_⟩:=st.box q _ _ hq (List.getElem?_eq_getElem hq')
  have:=(Array.getElem?_eq_some_iff.1 hh).1
  omega
 let D2:Nat→Nat→Prop:=fun x o=>G.D x o∨(x=w.heap.size∧o<l.length)
 have s':=st.grown0 hgr
 have hnotok:∀ (t:Nat) (g0:Tk),G.tk[t]? = some (some g0)→g0.n<g0.cap→g0.A≠some w.heap.size:=fun t g0 h0 hlt e=>by
  obtain ⟨b',hA',_,_,_,_,_,hh,_⟩:=(st.tok t g0 h0).2 hlt
  rw [hA'] at e
  simp at e
  subst e
  have:=(Array.getElem?_eq_some_iff.1 hh).1
  omega
 obtain ⟨hst,hext⟩:=s'.setTok (D':=D2) (TkSet.push G.tk ⟨l.length,some w.heap.size,grownCap w s.size 0 e,1⟩) (fun _ _ x => .inl x) (fun b o x=>x.imp id fun y=>by rw [y.1]; exact st.b0)
  (fun x o hxo=>by
   rcases hxo with hxo | ⟨rfl,hxo⟩
   · exact s'.dat x o hxo
   · exact ⟨⟨(Lib.bytesCells w e s)[o]'(by omega),by rw [zr hheap]; simp [show o<(Lib.bytesCells w e s).size from by omega]⟩,hnb⟩)
  (fun t g0 _ h0 hlt x hA j j1 j2 hd=>by
   obtain ⟨b',hA',_,_,_,_,_,_,_,hjj⟩:=(s'.tok t g0 h0).2 hlt
   rw [hA] at hA'; obtain rfl:=Option.some.inj hA'
   rcases hd with hd | ⟨rfl,hd⟩
   · exact (hjj j j1 j2).1 hd
   · exact hnotok t g0 h0 hlt hA)
  ⟨by simp only; omega,fun hlt=>⟨w.heap.size,rfl,st.b0,hnb,_,_,_,hheap,by simp only; omega,fun j j1 j2=>by
   simp only [Nat.mul_one] at j1 j2
   refine ⟨fun hd => ?_,?_⟩
   · rcases hd with hd | ⟨_,hd⟩
     · obtain ⟨u,hu⟩:=(st.dat _ _ hd).1
       have:=World.block_lt_of_cell? w _ hu
       simp at this
     · omega
   · unfold World.frozen?
     simp only [hheap]
     simp
     omega⟩⟩
  (fun t g0 _ h0 hlt _=>hnotok t g0 h0 hlt)
 have hlh:h.tk.length=G.tk.length:=by rw [st.tkl]; simp
 refine ⟨_,_,_,hext,hkeep,hst,.sl .u8 l (.own G.tk.length) _ ?_ ?_,?_⟩
 · simp only [RepC]
   refine ⟨hlm,some ⟨w.heap.size,0,none⟩,grownCap w s.size 0 e,l.map (fun b=>Value.int .u8 (b.toNat:Int)),by rw [hsz],by omega,by simpa only [RepC] using zjf (w:=w) (D:=G.D) l,fun _=>⟨w.heap.size,0,rfl,fun j u hj => ?_⟩⟩
   have hjl:=(List.getElem?_eq_some_iff.1 hj).1
   simp only [List.length_map] at hjl
   refine ⟨.inr ⟨rfl,by omega⟩,?_⟩
   rw [Nat.zero_add,zr hheap,← Array.getElem?_toList,hcl,List.getElem?_append_left (by simpa using hjl)]
   exact hj
 · refine ⟨_,(TkSet.push G.tk _).here,fun g hg => ?_⟩
   obtain rfl:=Option.some.inj hg
   exact ⟨Nat.le_refl _,fun _=>⟨rfl,some ⟨w.heap.size,0,none⟩,by rw [hsz],fun _=>⟨_,rfl,rfl⟩⟩⟩
 · rw [hlh] at hk
   simp only [List.map_append,List.map_cons,List.map_nil,← st.tkl] at hk ⊢
   simpa using hk
theorem zmv {X:Type} {cx:Cx X} (hT:TabOK P cx.tab) {B0:Nat} {w0:Wd} {h:H} (st:St B0 w0 G h w) {t et:Nat} (htd:P.underlying t=some (.slice et)) {ei:TI} (hei:cx.tab et=some ei) {τ:Ty} (hsz:ei.size=τ.size) (hp:0<ei.size)
 (hz:ei.zero.length=ei.size) {b:Int} (h1:0≤b) (h2:(ei.bytes:Int)*b≤281474976710656) (h3:b≤281474976710656) {k:AV→H→Option X} {r:X} (hk:k (.sl τ [] (.own h.tk.length)) { h with tk:=h.tk++[some 0] }=some r) :
 ∃ u w',(Instr.makeSlice t (.int .i64 0) (.int .i64 b)).run P w = .ok u w'∧Ends B0 w0 G w k r u w':=by
 obtain ⟨i,hi,hs,hby,hzr⟩:=(hT et ei hei).info
 obtain ⟨z,hz1,_⟩:=hzr (fun e=>by rw [e] at hz; simp at hz; omega)
 obtain ⟨c,rfl⟩:∃ c:Nat,b=(c:Int):=⟨b.toNat,by omega⟩
 have hrun:=run_make (P:=P) w t et i z htd hi hz1 .i64 .i64 0 (c:Int) (Int.le_refl _) h1 (by rw [hby]; exact h2) (by omega)
 simp only [Int.toNat_zero,Int.toNat_natCast] at hrun
 refine ⟨_,_,hrun,?_⟩
 have hgr:w.grownBy (w.alloc (.cells (madeCells z.cells (c*i.size)) et)) none:=World.grownBy_alloc w _ none
 have hheap:(w.alloc (.cells (madeCells z.cells (c*i.size)) et)).heap[w.heap.size]? = some (.cells (madeCells z.cells (c*i.size)) et (0,0)):=by
  show (w.heap.push _)[w.heap.size]? = _
  simp
 have hcs:(madeCells z.cells (c*i.size)).size=c*τ.size:=by rw [size_madeCells,hs,hsz]
 have hkeep:Keep G.D w (w.alloc (.cells (madeCells z.cells (c*i.size)) et)):=Keep.of_grown hgr (fun b o x=>(st.dat b o x).1) (fun _ _ _=>by simp)
 have hnb:some w.heap.size∉G.bx:=fun hmem'=>by
  obtain ⟨q,hq⟩:=List.getElem?_of_mem hmem'
  have hq':q<h.bx.length:=by rw [st.bxl]; exact (List.getElem?_eq_some_iff.1 hq).1
  obtain ⟨_,_,hh,_⟩:=st.box q _ _ hq (List.getElem?_eq_getElem hq')
  have:=(Array.getElem?_eq_some_iff.1 hh).1
  omega
 have s':=st.grown0 hgr
 have hnotok:∀ (t:Nat) (g0:Tk),G.tk[t]? = some (some g0)→g0.n<g0.cap→g0.A≠some w.heap.size:=fun t g0 h0 hlt e=>by
  obtain ⟨b',hA',_,_,_,_,_,hh,_⟩:=(st.tok t g0 h0).2 hlt
  rw [hA'] at e
  simp at e
  subst e
  have:=(Array.getElem?_eq_some_iff.1 hh).1
  omega
 obtain ⟨hst,hext⟩:=s'.setTok (D':=G.D) (TkSet.push G.tk ⟨0,some w.heap.size,c,τ.size⟩) (fun _ _ x=>x) (fun b o x => .inl x)
  (fun x o hxo=>s'.dat x o hxo)
  (fun t g0 _ h0 hlt x hA j j1 j2 hd=>by
   obtain ⟨b',hA',_,_,_,_,_,_,_,hjj⟩:=(s'.tok t g0 h0).2 hlt
   rw [hA] at hA'; obtain rfl:=Option.some.inj hA'
   exact (hjj j j1 j2).1 hd)
  ⟨by simp only; omega,fun hlt=>⟨w.heap.size,rfl,st.b0,hnb,_,_,_,hheap,by simp only; omega,fun j j1 j2=>by
   refine ⟨fun hd => ?_,?_⟩
   · obtain ⟨u,hu⟩:=(st.dat _ _ hd).1
     have:=World.block_lt_of_cell? w _ hu
     simp at this
   · unfold World.frozen?
     simp only [hheap]
     simp⟩⟩
  (fun t g0 _ h0 hlt _=>hnotok t g0 h0 hlt)
 have hlh:h.tk.length=G.tk.length:=by rw [st.tkl]; simp
 refine ⟨_,_,_,hext,hkeep,hst,.sl τ [] (.own G.tk.length) _ ?_ ?_,?_⟩
 · simp only [RepC]
   exact ⟨by simp,some ⟨w.heap.size,0,none⟩,c,[],rfl,by simp,rfl,fun hlt=>absurd hlt (by simp)⟩
 · refine ⟨_,(TkSet.push G.tk _).here,fun g hg => ?_⟩
   obtain rfl:=Option.some.inj hg
   exact ⟨Nat.le_refl _,fun _=>⟨rfl,some ⟨w.heap.size,0,none⟩,rfl,fun _=>⟨_,rfl,rfl⟩⟩⟩
 · rw [hlh] at hk
   simp only [List.map_append,List.map_cons,List.map_nil,← st.tkl] at hk ⊢
   simpa using hk
theorem zcu {X:Type} (cx:Cx X) {a:Act} {e:Env} {N:Nat} (he:EnvR w G N a.tmps e):∀ (ts:List Nat) (xs:List Operand),RepL w G (xs.map a.eval) (evs cx e ts xs)
 | ts,[]=>by simp only [List.map_nil,evs]; exact .nil
 | [],x::xs=>by simp only [List.map_cons,evs]; exact .cons (he.ev x) (zcu cx he [] xs)
 | t::ts,x::xs=>by simp only [List.map_cons,evs]; exact .cons (zqo (he.ev x) _) (zcu cx he ts xs)
theorem RepL.two {vs:List Value} {a b:AV} (h:RepL w G vs [a,b]):∃ u v,vs=[u,v]∧RepV w G u a∧RepV w G v b:=by
 match vs,h with
 | [u,v],h=>exact ⟨u,v,rfl,h.2 0 u a rfl rfl,h.2 1 v b rfl rfl⟩
 | [],h=>have:=h.1; simp at this
 | [_],h=>have:=h.1; simp at this
 | _::_::_::_,h=>have:=h.1; simp at this
theorem RepL.one {vs:List Value} {a:AV} (h:RepL w G vs [a]):∃ u,vs=[u]∧RepV w G u a:=by
 match vs,h with
 | [u],h=>exact ⟨u,rfl,h.2 0 u a rfl rfl⟩
 | [],h=>have:=h.1; simp at this
 | _::_::_,h=>have:=h.1; simp at this
theorem zh0 {τ:Ty} {m:List τ.den} {c:Cap} {xv:Value} (h:RepV w G xv (.sl τ m c)) {size:Nat} (hs:size=τ.size):∃ news,SrcOK P w G size τ m xv news:=by
 subst hs
 obtain ⟨A,cap,rfl,hlc,hrep,_⟩:=zcc h
 simp only [RepC] at hrep
 obtain ⟨hl,A',c',us,hv,_,hrow,hmem⟩:=hrep
 simp only [List.cons.injEq,Value.slice.injEq,and_true,true_and] at hv
 obtain ⟨rfl,rfl⟩:=hv
 have hus:us.length=m.length*τ.size:=RowOf.length (fun x vs hx=>zu hx) hrow
 exact ⟨us,hrow,fun wx=>rfl,fun wx hc=>za2 hus fun h0=>by
  obtain ⟨b,o,e,hm⟩:=hmem h0
  exact ⟨b,o,e,fun j u hj=>(hc _).trans (hm j u hj).2⟩⟩
theorem zhb {m:List UInt8} {xv:Value} (h:RepV w G xv (.str m)):∃ news,SrcOK P w G 1 .u8 m xv news:=by
 obtain ⟨s,rfl,hsl,hlm⟩:=zo h
 refine ⟨_,zjf m,fun wx => ?_,fun wx _ => ?_⟩
 · simp only [Builtin.lenOf,Sem.run_pure]
   rw [zav,hsl]
 · have hm:m.length=s.size:=by rw [zav,hsl]
   have:(s.extract 0 m.length).data=s.data:=by
    rw [hm,ByteArray.data_extract]
    exact Array.extract_size
   simp only [Builtin.firstCells,this,Sem.run_pure]
   subst hsl
   exact congrArg (Result.ok · wx) (Array.ext' (by simp))
theorem zed {X:Type} {cx:Cx X} (hT:TabOK P cx.tab) {B0:Nat} {w0:Wd} {h:H} (s:St B0 w0 G h w) {t t2 ty:Nat} {ti2:TI} (ht2:cx.tab t2=some ti2) (hd2:(∃ e,ti2.d = .slice e)∨ti2.d = .str) {sv xv:Value} {sa xa:AV} (hs:RepV w G sv sa) (hx:RepV w G xv xa)
 {k:AV→H→Option X} {r:X} (hk:appendA cx t sa xa h k=some r):∃ v w',(Builtin.append_ #[t,t2] ty #[sv,xv]).run P w = .ok v w'∧Ends B0 w0 G w k r v w':=by
 have hu2:∃ d2,P.underlying t2=some d2∧∀ q,d2 ≠ .int q:=by
  have hd:=(hT t2 ti2 ht2).d
  rcases hd2 with ⟨e,he⟩ | he
  · rw [he] at hd; exact ⟨_,hd,fun q=>by simp⟩
  · rw [he] at hd; exact ⟨_,hd,fun q=>by simp⟩
 obtain ⟨d2,hud2,hnd2⟩:=hu2
 unfold appendA at hk
 split at hk
 · rename_i et _ _ _ _ _ _ htt
   have htd:=(hT t _ htt).d
   split at hk
   · rename_i ei hei
     have hEi:=hT et ei hei
     obtain ⟨i,hi,his,hib,hiz⟩:=hEi.info
     have hs':=zac hs (ei.ty.map .sl)
     have hx':=zac hx (ei.ty.map .sl)
     split at hk
     · rename_i τ l c τ' m c' e1 e2
       split at hk
       · rename_i m' hm'
         obtain ⟨hc,hk⟩:=zb hk
         simp only [Bool.and_eq_true,nbeq,nblt] at hc
         obtain ⟨⟨hsz,hzl⟩,hpos⟩:=hc
         obtain ⟨z,hz0,hzr⟩:=hiz (fun e=>by rw [e] at hzl; simp at hzl; omega)
         rw [e1] at hs'
         rw [e2] at hx'
         unfold castSl at hm'
         split at hm'
         · rename_i hb
           obtain rfl:=Ty.beq_eq _ _ hb
           simp only [Option.some.injEq] at hm'
           subst hm'
           obtain ⟨news,hsrc⟩:=zh0 (P:=P) hx' (size:=i.size) (by rw [his,hsz])
           have hzs:z.cells.size=i.size:=by
            have:=(hzr w G).1
            simp at this
            omega
           exact zgl s htd hud2 hnd2 hi hz0 hzs (by omega) (by omega) hs' hsrc (by rw [hib]; exact hk)
         · cases hm'
       · cases hk
     · rename_i l c m e1 e2
       obtain ⟨hc,hk⟩:=zb hk
       simp only [Bool.and_eq_true,nbeq] at hc
       obtain ⟨hsz,hzl⟩:=hc
       obtain ⟨z,hz0,hzr⟩:=hiz (fun e=>by rw [e] at hzl; simp at hzl; omega)
       rw [e1] at hs'
       rw [e2] at hx'
       obtain ⟨news,hsrc⟩:=zhb (P:=P) hx'
       have hzs:z.cells.size=i.size:=by
        have:=(hzr w G).1
        simp at this
        omega
       have h1:i.size=1:=by omega
       exact zgl s htd hud2 hnd2 hi hz0 hzs (by omega) (by rw [h1]; rfl) hs' (by rw [h1]; exact hsrc) (by rw [hib]; exact hk)
     · cases hk
   · cases hk
 · cases hk
end
end Go.AM
set_option linter.unusedVariables false
set_option linter.unusedSimpArgs false
namespace Go.AM
open Go.RowKit
section
variable {P:Program} {w:World} {G:GS}
theorem zji {a:Act} {e:Env} {N:Nat} (he:EnvR w G N a.tmps e) {ti:TI} (hp:0<ti.size):∀ (parts:List (Nat×Operand)) (n:Nat) (arr:Array Value) (l:List AV),buildIm ti e n parts=some l→(n+parts.length)*ti.size≤arr.size →
 ∃ (arr':Array Value) (us:List Value),Instr.fill (fun i=>some (i*ti.size,ti.size)) arr (parts.map fun p=>(p.1,a.eval p.2))=some arr'∧RepL w G us l∧us.length=parts.length*ti.size ∧
  arr'.toList=arr.toList.take (n*ti.size)++us++arr.toList.drop ((n+parts.length)*ti.size)
 | [],n,arr,l,h,_=>by
  simp only [buildIm,Option.some.injEq] at h
  subst h
  exact ⟨arr,[],rfl,.nil,by simp,by simp⟩
 | (i, x)::parts,n,arr,l,h,hlen=>by
  simp only [buildIm] at h
  obtain ⟨hi,h2⟩:=zb h
  simp only [Bool.and_eq_true,nbeq] at hi
  obtain ⟨⟨hi,hcl⟩,hone⟩:=hi
  subst hi
  replace h:=h2
  clear h2
  split at h
  · rename_i l' hl'
    obtain rfl:=Option.some.inj h
    have hrep:=he.ev x
    have hne:ev e x ≠ .any:=zau (by omega)
    have hR:=za5 hrep hne
    have hvs:(a.eval x).cells.toList.length=ti.size:=by rw [hR.1,hcl]
    have hvs':(a.eval x).cells.size=ti.size:=by simpa using hvs
    simp only [List.length_cons] at hlen
    have hoff:n*ti.size+(a.eval x).cells.size≤arr.size:=by
     rw [hvs']
     have:(n+(parts.length+1))*ti.size=n*ti.size+ti.size+parts.length*ti.size:=by rw [Nat.add_mul,Nat.add_mul]; omega
     omega
    have e1:=zea (a.eval x).cells arr (n*ti.size) hoff
    generalize hA:((a.eval x).cells.zipIdx.foldl (fun (cs:Array Value) (p:Value×Nat)=>cs.setIfInBounds (n*ti.size+p.2) p.1) arr)=arr1 at e1
    have hsz1:arr1.size=arr.size:=by
     have:=congrArg List.length e1
     simp at this
     omega
    obtain ⟨arr',us,hf,hrow,hul,e2⟩:=zji he hp parts (n+1) arr1 l' hl' (by rw [hsz1]; rw [show n+1+parts.length=n+(parts.length+1) from by omega]; exact hlen)
    refine ⟨arr',(a.eval x).cells.toList++us,?_,hR.append hrow,?_,?_⟩
    · simp only [List.map_cons,Instr.fill,hvs']
      rw [if_neg (by simp; omega)]
      have hA':(a.eval x).cells.zipIdx.foldl (fun (cs:Array Value) (y:Value×Nat)=>match y with | (c,j)=>cs.setIfInBounds (n*ti.size+j) c) arr=arr1:=hA
      rw [hA']
      exact hf
    · rw [List.length_append,hvs,hul,List.length_cons,Nat.add_mul]; omega
    · rw [e2,e1]
      generalize (a.eval x).cells.toList=v1 at hvs
      have hm:(n+1)*ti.size=n*ti.size+ti.size:=by rw [Nat.add_mul]; omega
      have hn1:n*ti.size≤arr.toList.length:=by simp; omega
      have ht:List.take ((n+1)*ti.size) (arr.toList.take (n*ti.size)++v1++arr.toList.drop (n*ti.size+(a.eval x).cells.size))=arr.toList.take (n*ti.size)++v1:=by
       rw [List.take_append_of_le_length (by simp; omega)]
       exact List.take_of_length_le (by simp; omega)
      have hdr:List.drop ((n+1+parts.length)*ti.size) (arr.toList.take (n*ti.size)++v1++arr.toList.drop (n*ti.size+(a.eval x).cells.size))=arr.toList.drop ((n+(parts.length+1))*ti.size):=by
       have hx:(n+1+parts.length)*ti.size=(n*ti.size+ti.size)+parts.length*ti.size:=by rw [Nat.add_mul,hm]
       rw [List.drop_append,List.drop_eq_nil_of_le (by simp; omega),List.nil_append,List.drop_drop]
       congr 1
       simp only [List.length_append,List.length_take,hvs,Nat.min_eq_left hn1,hvs']
       have hy:(n+(parts.length+1))*ti.size=n*ti.size+ti.size+parts.length*ti.size:=by rw [Nat.add_mul,Nat.add_mul]; omega
       omega
      rw [ht,List.length_cons,hdr]
      simp
  · cases h
theorem zi1 {X:Type} {cx:Cx X} (hT:TabOK P cx.tab) {a:Act} {e:Env} {N:Nat} (he:EnvR w G N a.tmps e) {B0:Nat} {w0:Wd} {h:H} (s:St B0 w0 G h w) {t et:Nat} {ti ei:TI} (ht:cx.tab t=some ti) (htd:ti.d = .slice et)
 (hei:cx.tab et=some ei) {len:Nat} {parts:Array (Nat×Operand)} {l:List AV} (hb:buildIm ei e 0 parts.toList=some l) (hl:parts.toList.length=len) (hmax:len*ei.size≤16777216)
 (hz:ei.zero.length=ei.size) (hp:0<ei.size) (hlen:0<len) {k:AV→H→Option X} {r:X} (hk:k (.imms len l) h=some r) :
 ∃ v w',(Instr.buildSlice t len (parts.map fun (i,x)=>(i,a.eval x))).run P w = .ok v w'∧Ends B0 w0 G w k r v w':=by
 have hti:=(hT t ti ht).d
 rw [htd] at hti
 have hEi:=hT et ei hei
 obtain ⟨z,hzr,_⟩:=zw (w:=w) hEi (fun e=>by rw [e] at hz; simp at hz; omega)
 obtain ⟨zc,hz0,hz1⟩:∃ zc:Array Value,(len*ei.size=0→zc=#[])∧(¬ len*ei.size=0→zc=z.cells):=by
  by_cases h0:len*ei.size=0
  · exact ⟨#[],fun _=>rfl,fun h=>absurd h0 h⟩
  · exact ⟨z.cells,fun h=>absurd h h0,fun _=>rfl⟩
 generalize hA:(Array.range (len*ei.size)).map (fun x=>zc[x % zc.size]!)=arr
 have hAs:arr.size=len*ei.size:=by rw [← hA]; simp
 obtain ⟨arr',us,hf,hrow,hus,e2⟩:=zji (w:=w) (G:=G) he hp parts.toList 0 arr l hb (by rw [Nat.zero_add,hl,hAs]; exact Nat.le_refl _)
 rw [hl] at hus
 have hall:arr'.toList=us:=by
  rw [e2]
  simp only [Nat.zero_mul,List.take_zero,List.nil_append,Nat.zero_add]
  rw [List.drop_eq_nil_of_le (by simp only [Array.length_toList,hAs,hl]; exact Nat.le_refl _),List.append_nil]
 have hmap:(parts.map fun (i,x)=>(i,a.eval x)).toList=parts.toList.map fun p=>(p.1,a.eval p.2):=by simp
 have hrun:(Instr.buildSlice t len (parts.map fun (i,x)=>(i,a.eval x))).run P w = .ok (.slice (some ⟨w.heap.size,0,none⟩) len len) (w.alloc (.cells arr' et)):=by
  unfold Instr.buildSlice
  simp only [Sem.run_bind,run_underlying hti,Result.andThen_ok,zq hEi]
  rw [if_neg (by omega)]
  by_cases h0:len*ei.size=0
  · rw [if_pos h0]
    have:=hz0 h0
    subst this
    simp only [Sem.run_bind,Result.andThen_ok,Sem.run_pure]
    rw [hA,hmap]
    rw [hf]
    simp [newRow]
  · rw [if_neg h0]
    have:=hz1 h0
    subst this
    simp only [Sem.run_bind,hzr,Result.andThen_ok,Sem.run_pure]
    rw [hA,hmap]
    rw [hf]
    simp [newRow]
 have hgr:w.grownBy (w.alloc (.cells arr' et)) none:=World.grownBy_alloc w _ none
 have hheap:(w.alloc (.cells arr' et)).heap[w.heap.size]? = some (.cells arr' et (0,0)):=World.alloc_heap_new w _
 have harrs:arr'.size=len*ei.size:=by
  have:=congrArg List.length hall
  simp at this
  omega
 obtain ⟨D',hD',hext,hkeep,hst⟩:=s.newData (n:=len*ei.size) hgr hheap (by omega)
 have hrow':=hrow.mono hext hkeep
 refine ⟨_,_,hrun,.imms len l,_,h,hext,hkeep,hst,.imms len w.heap.size 0 len us l hlen (Nat.le_refl _) hrow.1 (fun j u hj => ?_) hrow'.2,hk⟩
 have hjl:=(List.getElem?_eq_some_iff.1 hj).1
 refine ⟨hD' _ (by omega),?_⟩
 rw [Nat.zero_add,zr hheap,← Array.getElem?_toList,hall]
 exact hj
theorem zh1 {X:Type} {sz:Nat} {i:Int} {k:AV→Option X} {r:X}:∀ (n:Nat) (j:Nat) (cs:List AV),aimm sz i n (j:Int) cs k=some r→∃ m:Nat,i=((j+m:Nat):Int)∧m<n∧k (.imm (cs.drop (m*sz)))=some r
 | 0,j,cs,h=>by simp [aimm] at h
 | n + 1,j,cs,h=>by
  simp only [aimm] at h
  cases hb:(i==(j:Int)) with
  | true =>
   rw [hb] at h
   exact ⟨0,by simpa using hb,by omega,by simpa using h⟩
  | false =>
   rw [hb,cond_false,show ((j:Int)+1)=((j+1:Nat):Int) from by omega] at h
   obtain ⟨m,h1,h2,h3⟩:=zh1 n (j+1) _ h
   refine ⟨m+1,by rw [h1]; omega,by omega,?_⟩
   rw [za4,List.drop_drop] at h3
   rw [show (m+1)*sz=sz+m*sz from by rw [Nat.add_mul]; omega]
   exact h3
theorem zmw {t et:Nat} {ei:TI} (hu:P.underlying t=some (.slice et)) (hei:TiOK P et ei) {n:Nat} {cs:List AV} {x:Value} (hx:RepV w G x (.imms n cs)) {q:IntKind} {m:Nat} (hm:m<n) :
 ∃ v,(Instr.indexAt t x (.int q (m:Int))).run P w = .ok v w∧RepV w G v (.imm (cs.drop (m*ei.size))):=by
 cases hx with
 | imms _ b o c us _ h0 hc hl hmm hr =>
  have hsz:=zq (w:=w) hei
  refine ⟨.pointer (some ⟨b,o+m*ei.size,none⟩),?_,?_⟩
  · simp [Instr.indexAt,asIntOf,Sem.run_bind,run_underlying hu,hsz,addp,hm]
  · refine .imm b _ (us.drop (m*ei.size)) _ (by simp [hl]) (fun j u hj => ?_) (fun j u c hj hcj => ?_)
    · rw [List.getElem?_drop] at hj
      have:=hmm _ u hj
      rw [Nat.add_assoc]
      exact this
    · rw [List.getElem?_drop] at hj hcj
      exact hr _ u c hj hcj
theorem zu8 {t et:Nat} (hu:P.underlying t=some (.slice et)) {τ:Ty} {l:List τ.den} {c:Cap} {x:Value} (hx:RepV w G x (.sl τ l c)) :
 ∃ b:Bool,(Op.equal t x (.slice none 0 0)).run P w = .ok b w∧(0<l.length→b=false)∧∃ A n m,x = .slice A n m:=by
 obtain ⟨A,cap,rfl,hlc,hrep,_⟩:=zcc hx
 obtain ⟨dd,ee⟩:∃ dd,Op.maxDepth=dd+1:=⟨9999,rfl⟩
 cases A with
 | none =>
  refine ⟨true,?_,fun h0 => ?_,none,_,_,rfl⟩
  · unfold Op.equal
    rw [ee]
    simp [Op.equalIn,Sem.run_bind,run_underlying hu]
  · simp only [RepC] at hrep
    obtain ⟨_,A',c',us,hv,_,_,hm⟩:=hrep
    obtain ⟨b,o,e,_⟩:=hm h0
    simp at hv
    rw [← hv.1] at e
    cases e
 | some p =>
  refine ⟨false,?_,fun _=>rfl,_,_,_,rfl⟩
  unfold Op.equal
  rw [ee]
  simp [Op.equalIn,Sem.run_bind,run_underlying hu]
end
end Go.AM
set_option linter.unusedVariables false
set_option linter.unusedSimpArgs false
namespace Go.AM
open Go.MapKept Go.RowKit
theorem zlz (a:Int):∀ (l:List (Int×Nat)) (n j:Nat),∃ o,Instr.findNow (.int .i64) (.int .i64 a) (fmGo n l) j=some o∧o.map (·.2)=(l.find? fun p=>a==p.1).map fun p=>Value.func (.func p.2) #[] #[]
 | [],n,j=>⟨none,rfl,rfl⟩
 | (x,f)::l,n,j=>by
  simp only [fmGo,Instr.findNow,Instr.sameNow,if_true,List.find?_cons]
  cases h:(a==x)
  · simpa using zlz a l (n+1) (j+1)
  · exact ⟨some (j,_),rfl,rfl⟩
theorem zlc {P:Program} {w:World} {G:GS} {t k e:TypeId} (ht:P.underlying t=some (.map k e)) (hk:P.underlying k=some (.int .i64)) {z:Value} (hz:(zeroValue e).run P w = .ok z w) {b:Nat} {l:List (Int×Nat)} {c:Nat} (hb:w.heap[b]? = some (.map (fmEnts l) c)) (a:Int) :
 ∃ v,(Instr.lookup t (.map (some b)) (.int .i64 a) true).run P w = .ok v w∧RepV w G v (match (l.find? fun p=>a==p.1).map (·.2) with | some f => .tup [.fn f [] [],.bool true] | none => .tup [.any,.bool false]):=by
 obtain ⟨o,h1,h2⟩:=zlz a l 0 0
 have hc:∀ b' w',(Instr.checkKey b' 10000 k (.int .i64 a)).run P w' = .ok () w':=fun b' w'=>run_checkKey hk (by simp [IsKey]) b' 9999
 have he:(fmEnts l).toList=fmGo 0 l:=by simp [fmEnts]
 have hfk:(Instr.findKey k (.int .i64 a) (fmEnts l).toList).run P w = .ok o w:=by
  simp only [Instr.findKey,Sem.run_bind,run_underlying hk,Result.andThen_ok,he,h1]
  rfl
 have tup:∀ (x:Value) (y:Bool) (ax:AV),RepV w G x ax→RepV w G (.tuple #[x,.bool y]) (.tup [ax,.bool y]):=fun x y ax hx=>by
  refine .tup _ _ rfl (fun i v c hv hc => ?_)
  match i,hv,hc with
  | 0,hv,hc=>simp at hv hc; subst hv hc; exact hx
  | 1,hv,hc=>simp at hv hc; subst hv hc; exact .bool _
  | i+2,hv,hc=>simp at hc
 cases o with
 | none =>
  have h3:(l.find? fun p=>a==p.1)=none:=by
   cases hf:(l.find? fun p=>a==p.1) with
   | none=>rfl
   | some p=>rw [hf] at h2; simp at h2
  rw [h3]
  refine ⟨.tuple #[z,.bool false],?_,tup _ _ _ (.any _)⟩
  simp only [Instr.lookup,Sem.run_bind,run_underlying ht,Result.andThen_ok,Go.MapKept.run_getObj_map hb,hc,hfk,Sem.run_pure,if_true,hz]
 | some q =>
  obtain ⟨i,v⟩:=q
  obtain ⟨p,hp,hv⟩:∃ p,(l.find? fun p=>a==p.1)=some p∧v=Value.func (.func p.2) #[] #[]:=by
   cases hf:(l.find? fun p=>a==p.1) with
   | none=>rw [hf] at h2; simp at h2
   | some p=>rw [hf] at h2; simp at h2; exact ⟨p,rfl,h2⟩
  rw [hp]
  refine ⟨.tuple #[v,.bool true],?_,tup _ _ _ ?_⟩
  · simp only [Instr.lookup,Sem.run_bind,run_underlying ht,Result.andThen_ok,Go.MapKept.run_getObj_map hb,hc,hfk,Sem.run_pure,if_true]
  · subst hv
    exact .fn _ _ _ _ _ rfl (fun i v c hv hc=>by simp at hc) rfl (fun i v c hv hc=>by simp at hc)
end Go.AM
