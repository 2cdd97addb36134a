/- Part 1 of a proof by the abstract machine. -/
import GoSem.Step
import Derived.RangeFuncRecord
import Derived.RangeFuncNested
import Derived.RangeFuncCalls
import Derived.LoopNIn
import Derived.Below
import Derived.Laws.OwnMore
import Derived.Laws.Cells
import Derived.Laws.CopyRow
import Derived.Laws.Entries
import Derived.Laws.IdiomCopy
import Derived.ChangeKeysEq
import Derived.WideShapes
import Derived.Laws.AppendOwn
import Derived.Laws.Tables
import Derived.Laws.MakeOwn
import Derived.Laws.BytesArg
import Derived.Lib.ConvBytes
import Derived.MapKept
import Derived.Carry
open List renaming getElem?_eq_some_iff→aaf,getElem?_append_left→aai,getElem?_append_right→aal,eq_nil_of_length_eq_zero→aau,length_append→aav,getElem?_eq_getElem→aaB,drop_eq_nil_of_le→aaD,map_cons→aaE,take_of_length_le→aaM,getElem?_take→aaN,length_cons→aaR,mem_append→aa0,append_nil→aa1,getElem?_of_mem→aba,mem_singleton→abf,getElem?_drop→abg,getElem?_set→abk,drop_append→abp,mem_of_getElem?→abu,map_append→abv,map_nil→abw,nil_append→abx,take_append_of_le_length→aby,drop_drop→abz,length→abB,append_assoc→abH,getElem?_map→abI
open Option.some renaming injEq→aag,inj→aaj
open Nat renaming beq→aah,blt→aap,add_mul→aaq,le_of_not_lt→aas,le_refl→aaw,zero_add→aaH,ble→aaJ,eq_of_beq_eq_true→aa3,le_trans→aa5,mul_le_mul_right→aa9,lt_of_lt_of_le→abd,le_add_right→abq,add_zero→abt,add_assoc→abE,min_eq_left→ab1
open Array renaming getElem?_eq_some_iff→aak,getElem?_toList→aaz,length_toList→abb,toList_setIfInBounds→abD
open Go.Result renaming andThen_ok→aam
open Go.Sem renaming run_bind→aao,run_pure→aaA
open Go renaming binOp→aar
open Go.Instr renaming sliceBounds→aat,buildSlice→aaS,fill→aa2,sliceAt→abG,build→ab6,sureAddr→ab7
open Bool renaming and_eq_true→aax,false_eq_true→aaZ
open Go.World renaming block_lt_of_cell?→aay,frozen?→aaI,alloc_heap_new→aaP,grownBy_alloc→aaY,frozen?_of_block→abo,cell?_of_block→abr
open Go.Builtin renaming firstCells→aaC,append_→aaG,nextslicecap→aaQ,zeroCells→abl,lenOf→abF,growBy→ab8
open Prod.mk renaming injEq→aaF
open Option renaming getD_none→aaK,getD_some→aaL,map_some→abc,bind_eq_some_iff→abj,map→abK
open List.cons renaming injEq→aaO
open Go.Value renaming oneCell'→aa6
open Go.Op renaming equal→abe,intCmp→abC,equalIn→abM,intBits→abZ,stringOp→ab3,intArith→ab4
open Go.Lib renaming bytesCells→abh,bytesWorld→abA
open Go.Value.slice renaming injEq→abn
open Go.MapKept renaming run_getObj_map→ab0
open UInt8 renaming ofNat→ab2
open ByteArray renaming data_extract→ab5
set_option linter.unusedVariables false
namespace Go.AM
inductive Ty where
 |u8 |int (k:IntKind) |bool |str |sl (e:Ty) |agg (ts:List Ty)
 |iX (E:Nat)
mutual
@[reducible] def Ty.den:Ty→Type
  |.u8=>UInt8
  |.iX _=>UInt8
  |.int _=>Int
  |.bool=>Bool
  |.str=>List UInt8
  |.sl e=>List e.den
  |.agg ts=>denL ts
@[reducible] def denL:List Ty→Type
  |[]=>Unit
  |[t]=>t.den
  |t::u::us=>t.den×denL (u::us)
end
mutual
def Ty.beq:Ty→Ty→Bool
 |.u8,.u8=>true
 |.iX a,.iX b=>aah a b
 |.int k,.int k'=>decide (k=k')
 |.bool,.bool=>true
 |.str,.str=>true
 |.sl a,.sl b=>a.beq b
 |.agg a,.agg b=>yW a b
 |_,_=>false
def yW:List Ty→List Ty→Bool
 |[],[]=>true
 |a::aS,b::bs=>a.beq b&&yW aS bs
 |_,_=>false
end
mutual
theorem Ty.beq_eq:∀a b:Ty,a.beq b=true→a=b
 |.u8,b,h=>by cases b<;>simp_all[Ty.beq]
 |.iX a,b,h=>by
  cases b with
  |iX b =>have e:a=b:=aa3 (by simpa only[Ty.beq]using h);rw[e]
  |_=>simp[Ty.beq]at h
 |.int k,b,h=>by cases b<;>simp_all[Ty.beq]
 |.bool,b,h=>by cases b<;>simp_all[Ty.beq]
 |.str,b,h=>by cases b<;>simp_all[Ty.beq]
 |.sl a,b,h=>by
  cases b with
  |sl b=>rw[Ty.beq_eq a b (by simpa[Ty.beq]using h)]
  |_=>simp[Ty.beq]at h
 |.agg a,b,h=>by
  cases b with
  |agg b=>rw[zqa a b (by simpa[Ty.beq]using h)]
  |_=>simp[Ty.beq]at h
theorem zqa:∀a b:List Ty,yW a b=true→a=b
 |[],b,h=>by cases b<;>simp_all[yW]
 |a :: aS,b,h=>by
  cases b with
  |nil=>simp[yW]at h
  |cons b bs =>simp only[yW,aax]at h;rw[Ty.beq_eq a b h.1,zqa aS bs h.2]
end
mutual
def Ty.size:Ty→Nat
 |.agg ts=>lq ts
 |_=>1
def lq:List Ty→Nat
 |[]=>0
 |t::ts=>t.size+lq ts
end
def gW(a b:Ty)(l:List a.den):Option (List b.den):=
 if h:a.beq b=true then some (Ty.beq_eq a b h▸l)else none
inductive Cap where
 |full |own (t:Nat) |eY |fresh
inductive AV where
 |any
 |bool (b:Bool)
 |int (k:IntKind) (n:Int)
 |str (s:List UInt8)
 |sl (τ:Ty) (l:List τ.den) (c:Cap)
 |fe
 |agg (cs:List AV)
 |cr (vs:List AV)
 |fX
 |ref (r off:Nat)
 |iM (cs:List AV)
 |bl
 |fn (f:Nat) (first captured:List AV)
 |yield (j:Nat)
 |err (b:Bool)
 |row (v:Nat) (τ:Ty) (l:List τ.den)
 |ms (r v n:Nat) (τ:Ty)
 |ep (r v:Nat) (i:Int) (off:Nat) (τ:Ty)
 |gp (n:Nat) (cs:List AV)
 |ea (r T:Nat)
 |mp (l:List (List UInt8×Int))
 |gq (r:Nat)
 |wq (es:List (Int×Nat))
mutual
def Ty.cells:(τ:Ty)→τ.den→List AV
 |.u8,b=>[.int .u8 b.toNat]
 |.iX _,b=>[.int .u8 b.toNat]
 |.int k,n=>[.int k n]
 |.bool,b=>[.bool b]
 |.str,s=>[.str s]
 |.sl e,l=>[.sl e l .eY]
 |.agg ts,x=>mD ts x
def mD:(ts:List Ty)→denL ts→List AV
 |[],_=>[]
 |[t],x=>t.cells x
 |t::u::us,(x,y)=>t.cells x++mD (u::us) y
end
def Ty.isAgg:Ty→Bool
 |.agg _=>true
 |_=>false
def NA:(τ:Ty)→τ.den→AV
 |.u8,b => .int .u8 b.toNat
 |.iX _,b => .int .u8 b.toNat
 |.int k,n => .int k n
 |.bool,b => .bool b
 |.str,s => .str s
 |.sl e,l => .sl e l .eY
 |.agg ts,x => .agg (mD ts x)
mutual
def Ty.of:(τ:Ty)→List AV→Option (τ.den×List AV)
 |.u8,cs=>match cs with
  |.int .u8 n::r=>some (ab2 n.toNat,r)
  |_=>none
 |.iX _,cs=>match cs with
  |.int .u8 n::r=>some (ab2 n.toNat,r)
  |_=>none
 |.int k,cs=>match cs with
  |.int k' n::r=>if k=k' then some (n,r)else none
  |_=>none
 |.bool,cs=>match cs with
  |.bool b::r=>some (b,r)
  |_=>none
 |.str,cs=>match cs with
  |.str s::r=>some (s,r)
  |_=>none
 | .sl e,cs=>match cs with
  |.sl e' l _::r=>match gW e' e l with
   |some l=>some (l,r)
   |none=>none
  |.fe::r=>some ([],r)
  |_=>none
 |.agg ts,cs=>EE ts cs
def EE:(ts:List Ty)→List AV→Option (denL ts×List AV)
 |[],cs=>some ((),cs)
 |[t],cs=>t.of cs
 | t :: u::us,cs=>match t.of cs with
  |some (x,r)=>match EE (u::us) r with
   |some (y,r)=>some ((x,y),r)
   |none=>none
  |none=>none
end
def cellsOf:AV→List AV
 |.agg cs=>cs
 |.any=>[]
 |v=>[v]
def vL:AV→Bool
 |.agg _=>false
 |.cr _=>false
 |.any=>false
 |.row _ _ _=>false
 |.ea _ _=>false
 |.mp _=>false
 |.wq _=>false
 |_=>true
def tf:List AV→Bool
 |[]=>true
 |v::vs=>vL v&&tf vs
def DE(τ:Ty)(a:AV):Option τ.den:=
 match τ.of (cellsOf a)with
 |some (x,[])=>some x
 |_=>none
inductive TD where
 |int (k:IntKind) |bool |str |slice (e:Nat) |arr (n e:Nat) |struct (fs:List (Nat×Nat)) |ptr |func |iface |other |map (k e:Nat)
structure TI where
 d:TD
 size:Nat
 bytes:Nat
 agg:Bool
 zero:List AV
 ty:Option Ty
 cmp:Bool:=false
structure Entry where
 Y:Type
 o:Option Y
 enc:Y→AV
abbrev Env:=List (Nat×AV)
inductive Jmp where
 |ret |ex (i:Nat)
inductive LS where
 |ready |busy |done (j:Jmp)
structure H where
 bx:List (List AV)
 tk:List (Option Nat)
 lp:List LS
structure Ks (X:Type) where
 iw:Env→H→Option X
 ex:Nat→Env→H→Option X
 ret:Env→H→Option X
structure HD where
 g:Nat
 i:Nat
 e:Env
abbrev Ys:=List (Nat×HD)
inductive Task where
 |call (g:Nat) (args:List AV)
 |round (j:Nat) (hd:HD) (args:List AV)
 |Bq (T q g:Nat) (args:List AV)
abbrev Open(X:Type):=Task→Ys→H→(AV→H→Option X)→Option X
inductive SV where
 |int (k:IntKind) |bool |str |sl (τ:Ty) (c:Cap) |err |const (v:AV) |agg (vs:List SV) |fn (f:Nat) (a b:List SV) |row (τ:Ty) |ms (r:Nat) (τ:Ty) |mp
mutual
@[reducible] def SV.den:SV→Type
  |.int _=>Int
  |.bool=>Bool
  |.str=>List UInt8
  |.sl τ _=>List τ.den
  |.err=>Bool
  |.const _=>Unit
  |.agg vs=>sdenL vs
  |.fn _ a b=>sdenL a×sdenL b
  |.row τ=>Nat×List τ.den
  |.ms _ _=>Nat×Nat
  |.mp=>List (List UInt8×Int)
@[reducible] def sdenL:List SV→Type
  |[]=>Unit
  |v::vs=>v.den×sdenL vs
end
mutual
def SV.enc:(s:SV)→s.den→AV
 |.int k,n => .int k n
 |.bool,b => .bool b
 |.str,l => .str l
 |.sl τ c,l => .sl τ l c
 |.err,b => .err b
 |.const v,_=>v
 |.agg vs,x => .agg (kl vs x)
 |.fn f a b,x => .fn f (kl a x.1) (kl b x.2)
 |.row τ,x => .row x.1 τ x.2
 |.ms r τ,v => .ms r v.1 v.2 τ
 |.mp,l => .mp l
def kl:(vs:List SV)→sdenL vs→List AV
 |[],_=>[]
 |v::vs,x=>v.enc x.1::kl vs x.2
end
@[reducible] def sdenE:List (Nat×SV)→Type
  |[]=>Unit
  |v::vs=>v.2.den×sdenE vs
def w5:(vs:List (Nat×SV))→sdenE vs→Env
 |[],_=>[]
 |v::vs,x=>(v.1,v.2.enc x.1)::w5 vs x.2
@[reducible] def sdenB:List (List SV)→Type
  |[]=>Unit
  |v::vs=>sdenL v×sdenB vs
def zP:(vs:List (List SV))→sdenB vs→List (List AV)
 |[],_=>[]
 |v::vs,x=>kl v x.1::zP vs x.2
@[reducible] def sdenT:List Bool→Type
  |[]=>Unit
  |true::vs=>Nat×sdenT vs
  |false::vs=>sdenT vs
def uF:(vs:List Bool)→sdenT vs→List (Option Nat)
 |[],_=>[]
 |true::vs,x=>some x.1::uF vs x.2
 |false::vs,x=>none::uF vs x
@[reducible] def sdenY:List (Nat×Nat×Nat×List (Nat×SV))→Type
  |[]=>Unit
  |v::vs=>sdenE v.2.2.2×sdenY vs
def zQ:(vs:List (Nat×Nat×Nat×List (Nat×SV)))→sdenY vs→Ys
 |[],_=>[]
 |v::vs,x=>(v.1,⟨v.2.1,v.2.2.1,w5 v.2.2.2 x.1⟩)::zQ vs x.2
structure Shape where
 env:List (Nat×SV)
 bx:List (List SV)
 tk:List Bool
 lp:List LS
 ys:List (Nat×Nat×Nat×List (Nat×SV))
 m:Nat
 tm:Nat
 lm:Nat
@[reducible] def Shape.den (s:Shape):Type:=sdenE s.env×sdenB s.bx×sdenT s.tk×sdenY s.ys
def Shape.e(s:Shape)(x:s.den):Env:=w5 s.env x.1
def Shape.h(s:Shape)(x:s.den):H:=⟨zP s.bx x.2.1,uF s.tk x.2.2.1,s.lp⟩
def Shape.y(s:Shape)(x:s.den):Ys:=zQ s.ys x.2.2.2
structure cF where
 nb:Nat
 nt:Nat
 nl:Nat
structure bm (X:Type) where
 d:Nat
 B:cF
 head:Shape
 rH:List (Nat×Shape)
 mr:List Shape
 f:Ks X→head.den→Option X
structure ar (X:Type) where
 d:Nat
 B:cF
 head:Shape
 iw:List Shape
 rH:List (Nat×Shape)
 mr:List Shape
 f:Ks X→head.den→Option X
inductive Pr where
 |th (T:Nat) |qu (T E:Nat) |sort (τ:Ty) (f:Nat) (F:List τ.den→List τ.den)
 |yX (es:List (Int×Nat))
 |Br (T:Nat)
 |rd (F:List AV→List AV→Option AV)
 |vM (T:Nat)
structure Cx (X:Type) where
 tab:Nat→Option TI
 fns:Nat→Option Func
 C:Nat→Option (List AV→Option Entry)
 loops:Nat→Nat→List (bm X)
 lG:Nat→Nat→Nat
 pQ:Nat→Nat→List (ar X)
 conf:Nat→Nat→List (Nat×Nat)
 rows:Nat→Option Ty:=fun _=>none
 pr:Nat→Option Pr:=fun _=>none
 eJ:Nat→Bool:=fun _=>false
 bt:Option (Nat×Nat):=none
 lr:Nat→Nat→Option (Nat×List Nat×List Nat×Code×Code)
def ai:Nat:=2 ^ 62
def get:Env→Nat→AV
 |[],_ => .any
 |(d,v)::e,t=>bif aah d t then v else get e t
def nth{α:Type}:List α→Nat→Option α
 |[],_=>none
 |a::_,0=>some a
 |_::l,n+1=>nth l n
def dF{α:Type}:List α→Nat→α→List α
 |[],_,_=>[]
 |_::l,0,v=>v::l
 |a::l,n+1,v=>a::dF l n v
def nS{α:Type}:Nat→List α→List α
 |0,l=>l
 |_+1,[]=>[]
 |n+1,_::l=>nS n l
def takeN{α:Type}:Nat→List α→Option (List α)
 |0,_=>some []
 |_+1,[]=>none
 |n+1,a::l=>match takeN n l with
  |some r=>some (a::r)
  |none=>none
def idx{α:Type}(l:List α)(i:Int):Option α:=if 0≤i then l[i.toNat]? else none
def sub{α:Type}(l:List α)(lo hi:Int):Option (List α):=
 if 0≤lo∧lo≤hi∧hi≤l.length then some ((l.take hi.toNat).drop lo.toNat)else none
def uG:Value→AV
 |.bool b => .bool b
 |.int .u8 n=>bif decide (0≤n)&&decide (n<256)then .int .u8 n else .any
 |.int k n => .int k n
 |.string s=>bif aaJ s.data.size ai then .str s.data.toList else .any
 |.pointer none => .fX
 |.slice none 0 0 => .fe
 |.nilFunc => .bl
 |.nilIface => .err false
 |.func (.func f) x y=>bif aah x.size 0&&aah y.size 0 then .fn f [] []else .any
 |_ => .any
def kf(ty:Option Ty)(a:AV):AV:=
 match a with
 |.fe=>match ty with
  |some (.sl e) => .sl e [] .full
  |_ => .fe
 |a=>a
mutual
def Ty.leaves:Ty→List Ty
 |.agg ts=>w6 ts
 |τ=>[τ]
def w6:List Ty→List Ty
 |[]=>[]
 |t::ts=>t.leaves++w6 ts
end
def vN:List Ty→List AV→List AV
 |τ::τs,a::aS=>kf (some τ) a::vN τs aS
 |_,aS=>aS
def Bs(ty:Option Ty)(a:AV):AV:=
 match ty,a with
 |some (.agg ts),.agg cs => .agg (vN (w6 ts) cs)
 |ty,a=>kf ty a
def ev(e:Env):Operand→AV
 |.tmp t=>get e t
 |.const v=>uG v
 |.global _ => .any
 |.func f => .fn f [] []
def jD(agg:Bool)(cs:List AV):Option AV:=
 match agg,cs with
 |true,cs=>some (.agg cs)
 |false,[v]=>some v
 |false,_=>none
def iQ:List AV→Option Nat
 |.ea _ T::_=>some T
 |.row _ (.iX E) _::_=>some E
 |_=>none
def nT:List AV→Bool
 |.ea _ _::_=>false
 |_=>true
def isRow:List AV→Bool
 |.row _ _ _::_=>true
 |.mp _::_=>true
 |.wq _::_=>true
 |_=>false
def mZ(ti:TI)(a:AV)(h:H):Option AV:=
 match a with
 | .ref r off=>match nth h.bx r with
  |some cs=>bif isRow cs then none else match takeN ti.size (nS off cs)with
   |some cs=>jD ti.agg cs
   |none=>none
  |none=>none
 |.iM cs=>match takeN ti.size cs with
  |some cs=>jD ti.agg cs
  |none=>none
 |_=>none
def gz:Nat→List AV→List AV→Option (List AV)
 |_,[],cs=>some cs
 |0,v::vs,_::cs=>match gz 0 vs cs with
  |some r=>some (v::r)
  |none=>none
 |n+1,vs,c::cs=>match gz n vs cs with
  |some r=>some (c::r)
  |none=>none
 |_,_::_,[]=>none
def mE(ti:TI)(a v:AV)(h:H):Option H:=
 match a with
 | .ref r off=>bif aah (cellsOf v).length ti.size&&tf (cellsOf v)&&aap 0 ti.size then
  match nth h.bx r with
  |some cs=>bif isRow cs then none else match gz off (cellsOf v) cs with
   |some cs=>some { h with bx:=dF h.bx r cs }
   |none=>none
  |none=>none
  else none
 |_=>none
def Lt(d:TD):AV→AV→Option Bool
 |.int k a,.int k' b=>if k=k' then some (a==b)else none
 |.str a,.str b=>some (a==b)
 |.bool a,.bool b=>match d with
  |.bool=>some (a==b)
  |_=>none
 |.ref _ _,.fX=>match d with
  |.ptr=>some false
  |_=>none
 |.iM _,.fX=>match d with
  |.ptr=>some false
  |_=>none
 |.fX,.fX=>match d with
  |.ptr=>some true
  |_=>none
 |.fn _ _ _,.bl=>match d with
  |.func=>some false
  |_=>none
 |.yield _,.bl=>match d with
  |.func=>some false
  |_=>none
 |.bl,.bl=>match d with
  |.func=>some true
  |_=>none
 |_,_=>none
def Lu:AV→AV→Option Bool
 |.int k a,.int k' b=>if k=k' then some (a==b)else none
 |.str a,.str b=>some (a==b)
 |.bool a,.bool b=>some (a==b)
 |_,_=>none
def qv:AV→Nat
 |.int _ _=>1
 |.bool _=>2
 |.str _=>3
 |_=>0
def mF:List AV→List AV→Bool
 |[],[]=>true
 |a::aS,b::bs=>aah (qv a) (qv b)&&mF aS bs
 |_,_=>false
def zR:List AV→List AV→Option Bool
 |[],[]=>some true
 | a :: aS,b::bs=>match Lu a b,bs with
  |some x,[]=>match aS with
   |[]=>some x
   |_=>none
  |some x,_=>match zR aS bs with
   |some y=>some (x&&y)
   |none=>none
  |none,_=>none
 |_,_=>none
def bw(op:BinOp)(k:IntKind)(x y:Int):Int:=
 let a:=BitVec.ofInt k.bits x
 let b:=BitVec.ofInt k.bits y
 match op with
 |.and=>k.wrap (a&&&b).toNat
 |.or=>k.wrap (a|||b).toNat
 |.xor=>k.wrap (a^^^b).toNat
 |_=>k.wrap (a &&& ~~~b).toNat
def gk(k:IntKind)(x y:Int):Int:=k.wrap (x*2 ^ min y.toNat k.bits)
def km(k:IntKind)(x y:Int):Int:=x.fdiv (2 ^ min y.toNat k.bits)
open Classical in
noncomputable def both{X:Type}(a b:Option X):Option X:=if a=b then a else none
theorem ztd{X:Type}{a b:Option X}{x:X}(h:both a b=some x):a=some x∧b=some x:=by
 unfold both at h;split at h
 ·rename_i e;exact⟨h,e▸h⟩
 ·cases h
theorem zki{X:Type}(a:Option X):both a a=a:=by simp[both]
def nH{X:Type}(d:TD)(op:BinOp)(x y:AV)(k:AV→Option X):Option X:=
 match op,x,y with
 |.eql,x,y=>match Lt d x y with
  |some b=>k (.bool b)
  |none=>none
 |.neq,x,y=>match Lt d x y with
  |some b=>k (.bool (!b))
  |none=>none
 |.shl,.int q a,.int _ b=>bif decide (b<0)then none else k (.int q (gk q a b))
 |.shr,.int q a,.int _ b=>bif decide (b<0)then none else k (.int q (km q a b))
 |op,.int q a,.int q' b=>if q=q' then
  (match op with
  |.add=>k (.int q (q.wrap (a+b)))
  |.sub=>k (.int q (q.wrap (a - b)))
  |.mul=>k (.int q (q.wrap (a*b)))
  |.quo=>bif b==0 then none else k (.int q (q.wrap (a.tdiv b)))
  |.rem=>bif b==0 then none else k (.int q (a.tmod b))
  |.lss=>k (.bool (decide (a<b)))
  |.leq=>k (.bool (decide (a≤b)))
  |.gtr=>k (.bool (decide (a>b)))
  |.geq=>k (.bool (decide (a≥b)))
  |.and |.or |.xor |.andNot=>k (.int q (bw op q a b))
  |_=>none)else none
 |.add,.str a,.str b=>bif decide (a.length+b.length≤ai)then k (.str (a++b))else none
 |.lss,.str a,.str b=>k (.bool (Op.bytesLess a b))
 |.leq,.str a,.str b=>k (.bool (Op.bytesLess a b||a==b))
 |.gtr,.str a,.str b=>k (.bool (!(Op.bytesLess a b||a==b)))
 |.geq,.str a,.str b=>k (.bool (!Op.bytesLess a b))
 |_,_,_=>none
def EF{X:Type}(op:UnOp)(x:AV)(k:AV→Option X):Option X:=
 match op,x with
 |.neg,.int q n=>k (.int q (q.wrap (0 - n)))
 |.xor,.int q n=>k (.int q (bw .xor q (if q.signed then -1 else q.max) n))
 |.not,.bool b=>k (.bool (!b))
 |_,_=>none
def pR{X:Type}(agg:Bool)(sz:Nat)(i:Int):Nat→Int→List AV→(AV→Option X)→Option X
 |0,_,_,_=>none
 | n + 1,j,cs,k=>bif i==j then
     (match takeN sz cs with
     |some c=>match jD agg c with
      |some v=>k v
      |none=>none
     |none=>none)
  else pR agg sz i n (j+1) (nS sz cs) k
def tj{X:Type}(sz:Nat)(i:Int):Nat→Int→Nat→Nat→(AV→Option X)→Option X
 |0,_,_,_,_=>none
 |n+1,j,r,o,k=>bif i==j then k (.ref r o)else tj sz i n (j+1) r (o+sz) k
def rU{X:Type}(sz:Nat)(i:Int):Nat→Int→List AV→(AV→Option X)→Option X
 |0,_,_,_=>none
 |n+1,j,cs,k=>bif i==j then k (.iM cs)else rU sz i n (j+1) (nS sz cs) k
def mG (tab:Nat→Option TI) (fs:List (Nat×Nat)) (e:Env):List (Nat×Operand)→List AV→Option (List AV)
 |[],cs=>some cs
 | (i,x)::r,cs=>match nth fs i with
  | some (off,t)=>match tab t with
   |some ti=>(match gz off (cellsOf (kf ti.ty (ev e x))) cs with
    |some cs=>bif aah (cellsOf (kf ti.ty (ev e x))).length ti.size&&aap 0 ti.size then mG tab fs e r cs else none
    |none=>none)
   |none=>none
  |none=>none
def mH(ti:TI)(e:Env):List (Nat×Operand)→List AV→Option (List AV)
 |[],cs=>some cs
 |(i,x)::r,cs=>match gz (i*ti.size) (cellsOf (kf ti.ty (ev e x))) cs with
  |some cs=>bif aah (cellsOf (kf ti.ty (ev e x))).length ti.size&&aap 0 ti.size then mH ti e r cs else none
  |none=>none
def ja(τ:Ty)(e:Env):Nat→List (Nat×Operand)→Option (List τ.den)
 |_,[]=>some []
 | n,(i,x)::r=>bif aah n i then
  (match DE τ (kf (some τ) (ev e x))with
  |some v=>match ja τ e (n+1) r with
   |some l=>some (v::l)
   |none=>none
  |none=>none)
  else none
def ko(ti:TI)(e:Env):Nat→List (Nat×Operand)→Option (List AV)
 |_,[]=>some []
 |n,(i,x)::r=>bif aah n i&&aah (cellsOf (ev e x)).length ti.size&&tf (cellsOf (ev e x))then
  (match ko ti e (n+1) r with
  |some l=>some (cellsOf (ev e x)++l)
  |none=>none)
  else none
def sr(ks:List Bool)(tm:Nat)(tk nw:List (Option Nat)):AV→AV×List (Option Nat)×List (Option Nat)
 |.sl τ l .full=>(.sl τ l (.own (tm+nw.length)),tk,nw++[some l.length])
 |.sl τ l (.own t)=>bif aap t tm&&(nth ks t).getD true then(.sl τ l (.own t),tk,nw)else(.sl τ l (.own (tm+nw.length)),dF tk t none,nw++[(nth tk t).getD none])
 |.sl τ l _=>(.sl τ l .eY,tk,nw)
 |.cr _=>(.any,tk,nw)
 |v=>(v,tk,nw)
def uH(ks:List Bool)(tm:Nat)(tk nw:List (Option Nat)):List AV→List AV×List (Option Nat)×List (Option Nat)
 |[]=>([],tk,nw)
 |v::vs=>let r:=sr ks tm tk nw v;let q:=uH ks tm r.2.1 r.2.2 vs;(r.1::q.1,q.2)
def rn(ks:List Bool)(tm:Nat)(tk nw:List (Option Nat)):AV→AV×List (Option Nat)×List (Option Nat)
 |.agg cs=>let r:=uH ks tm tk nw cs;(.agg r.1,r.2)
 |v=>sr ks tm tk nw v
def Ct(ks:List Bool)(tm:Nat)(tk nw:List (Option Nat)):Env→Env×List (Option Nat)×List (Option Nat)
 |[]=>([],tk,nw)
 |(d,v)::e=>let r:=rn ks tm tk nw v;let q:=Ct ks tm r.2.1 r.2.2 e;((d,r.1)::q.1,q.2)
def Bt(ks:List Bool)(tm:Nat)(tk nw:List (Option Nat)):List (List AV)→List (List AV)×List (Option Nat)×List (Option Nat)
 |[]=>([],tk,nw)
 |cs::b=>let r:=uH ks tm tk nw cs;let q:=Bt ks tm r.2.1 r.2.2 b;(r.1::q.1,q.2)
mutual
def okF(m tm lm:Nat):AV→Bool
 |.ref r _=>aap r m
 |.ms r _ _ _=>aap r m
 |.ep r _ _ _ _=>aap r m
 |.row _ τ _=>aap 0 τ.size
 |.ea r _=>aap r m
 |.gq r=>aap r m
 |.gp _ cs=>tu m tm lm cs
 |.yield j=>aap j lm
 |.sl _ _ c=>match c with
  |.own t=>aap t tm
  |_=>true
 |.agg cs=>tu m tm lm cs
 |.cr cs=>tu m tm lm cs
 |.iM cs=>tu m tm lm cs
 |.fn _ a b=>tu m tm lm a&&tu m tm lm b
 |_=>true
def tu(m tm lm:Nat):List AV→Bool
 |[]=>true
 |v::vs=>okF m tm lm v&&tu m tm lm vs
end
def F2(m tm lm:Nat):AV→Bool
 |.sl _ _ _=>true
 |.cr _=>true
 |v=>okF m tm lm v
def vO(m tm lm:Nat):List AV→Bool
 |[]=>true
 |v::vs=>F2 m tm lm v&&vO m tm lm vs
def okR(m tm lm:Nat):AV→Bool
 |.agg cs=>vO m tm lm cs
 |v=>F2 m tm lm v
def w7(m tm lm:Nat):List (List AV)→Bool
 |[]=>true
 |cs::b=>vO m tm lm cs&&w7 m tm lm b
def DF(m tm lm:Nat):Env→Bool
 |[]=>true
 |(_,v)::e=>okR m tm lm v&&DF m tm lm e
def uI{α:Type}:Nat→List α→List α
 |0,_=>[]
 |_+1,[]=>[]
 |n+1,a::l=>a::uI n l
def live(lv:List Nat)(e:Env):Env:=lv.map fun t=>(t,get e t)
def lX{α:Type}:List Bool→List (Option α)→List (Option α)
 |true::ks,a::l=>a::lX ks l
 |false::ks,_::l=>none::lX ks l
 |_,l=>l
def zS(ks:List Bool)(B:cF)(e1:Env)(b1:List (List AV))(m tm lm:Nat)(h:H):Option (Env×H):=
 bif aaJ B.nb m&&aaJ B.nt tm&&aaJ B.nl lm&&aaJ m h.bx.length&&aaJ tm h.tk.length&&aaJ lm h.lp.length&&DF m tm lm e1&&w7 m tm lm b1 then
  let r:=Ct ks tm h.tk [] e1
  let q:=Bt ks tm r.2.1 r.2.2 b1
  some (r.1,{ bx:=q.1,tk:=lX ks (uI tm q.2.1++q.2.2),lp:=uI lm h.lp })
 else none
mutual
def w8:SV→AV→AV
 | .sl τ c,a=>match a with
  |.sl τ' l c'=>match c with
   |.eY => .sl τ' l .eY
   |_ => .sl τ' l c'
  |.fe=>match c with
   |.eY => .sl τ [] .eY
   |_ => .sl τ [] .full
  |a=>a
 |.const v,a=>match v with
  |.any => .any
  |_=>a
 |.agg vs,a=>match a with
  |.agg cs => .agg (w9 vs cs)
  |a=>a
 |.fn _ p q,a=>match a with
  |.fn g x y => .fn g (w9 p x) (w9 q y)
  |a=>a
 |_,a=>a
def w9:List SV→List AV→List AV
 |[],cs=>cs
 |v::vs,cs=>match cs with
  |c::cs=>w8 v c::w9 vs cs
  |[]=>[]
end
def F3(e:Env):List (Nat×SV)→Env
 |[]=>[]
 |(t,s)::vs=>(t,w8 s (get e t))::F3 e vs
def Bu:List (List SV)→List (List AV)→List (List AV)
 |[],b=>b
 |v::vs,b=>match b with
  |c::b=>(bif isRow c then c else w9 v c)::Bu vs b
  |[]=>[]
mutual
def mI(tk:List (Option Nat)):AV→AV×List (Option Nat)
 |.sl τ l c=>match c with
  |.fresh=>(.sl τ l (.own tk.length),tk++[some l.length])
  |c=>(.sl τ l c,tk)
 |.agg cs=>let r:=yY tk cs;(.agg r.1,r.2)
 |.cr cs=>let r:=yY tk cs;(.cr r.1,r.2)
 |v=>(v,tk)
def yY(tk:List (Option Nat)):List AV→List AV×List (Option Nat)
 |[]=>([],tk)
 |v::vs=>let r:=mI tk v;let q:=yY r.2 vs;(r.1::q.1,q.2)
end
mutual
def AV.beq:AV→AV→Bool
 |.any,.any=>true
 |.bool a,.bool b=>a==b
 |.fe,.fe=>true
 |.fX,.fX=>true
 |.bl,.bl=>true
 |.ref a b,.ref c d=>aah a c&&aah b d
 |.yield a,.yield b=>aah a b
 |.fn f a b,.fn g c d=>aah f g&&qw a c&&qw b d
 |.err a,.err b=>a==b
 |.gp n a,.gp m b=>aah n m&&qw a b
 |.ea a b,.ea c d=>aah a c&&aah b d
 |.gq a,.gq b=>aah a b
 |.wq a,.wq b=>decide (a=b)
 |_,_=>false
def qw:List AV→List AV→Bool
 |[],[]=>true
 |a::aS,b::bs=>a.beq b&&qw aS bs
 |_,_=>false
end
def Cap.beq:Cap→Cap→Bool
 |.full,.full=>true
 |.own a,.own b=>aah a b
 |.eY,.eY=>true
 |.fresh,.fresh=>true
 |_,_=>false
mutual
def SV.dec:(s:SV)→AV→Option s.den
 |.int k,a=>match a with
  |.int k' n=>if k=k' then some n else none
  |_=>none
 |.bool,a=>match a with
  |.bool b=>some b
  |_=>none
 |.str,a=>match a with
  |.str l=>some l
  |_=>none
 |.sl τ c,a=>match a with
  |.sl τ' l c'=>bif c.beq c' then gW τ' τ l else none
  |_=>none
 |.err,a=>match a with
  |.err b=>some b
  |_=>none
 |.const v,a=>bif v.beq a then some ()else none
 |.agg vs,a=>match a with
  |.agg cs=>oW vs cs
  |_=>none
 | .fn f p q,a=>match a with
  | .fn g x y=>bif aah f g then(match oW p x with
   |some x=>match oW q y with
    |some y=>some (x,y)
    |none=>none
   |none=>none)else none
  |_=>none
 | .row τ,a=>match a with
  |.row v τ' l=>match gW τ' τ l with
   |some l=>some (v,l)
   |none=>none
  |_=>none
 |.ms r τ,a=>match a with
  |.ms r' v n τ'=>bif aah r r'&&τ.beq τ' then some (v,n)else none
  |_=>none
 |.mp,a=>match a with
  |.mp l=>some l
  |_=>none
def oW:(vs:List SV)→List AV→Option (sdenL vs)
 |[],cs=>match cs with
  |[]=>some ()
  |_=>none
 | v :: vs,cs=>match cs with
  | c :: cs=>match v.dec c with
   |some x=>match oW vs cs with
    |some y=>some (x,y)
    |none=>none
   |none=>none
  |[]=>none
end
def uJ:(vs:List (Nat×SV))→Env→Option (sdenE vs)
 |[],e=>match e with
  |[]=>some ()
  |_=>none
 | v :: vs,e=>match e with
  | c :: e=>bif aah v.1 c.1 then(match v.2.dec c.2 with
   |some x=>match uJ vs e with
    |some y=>some (x,y)
    |none=>none
   |none=>none)else none
  |[]=>none
def w_:(vs:List (List SV))→List (List AV)→Option (sdenB vs)
 |[],b=>match b with
  |[]=>some ()
  |_=>none
 | v :: vs,b=>match b with
  | c :: b=>match oW v c with
   |some x=>match w_ vs b with
    |some y=>some (x,y)
    |none=>none
   |none=>none
  |[]=>none
def su:(vs:List Bool)→List (Option Nat)→Option (sdenT vs)
 |[],b=>match b with
  |[]=>some ()
  |_=>none
 | true::vs,b=>match b with
  |some n::b=>match su vs b with
   |some y=>some (n,y)
   |none=>none
  |_=>none
 |false::vs,b=>match b with
  |none::b=>su vs b
  |_=>none
def LS.beq:LS→LS→Bool
 |.ready,.ready=>true
 |.busy,.busy=>true
 |.done .ret,.done .ret=>true
 |.done (.ex i),.done (.ex j)=>aah i j
 |_,_=>false
def uK:List LS→List LS→Bool
 |[],[]=>true
 |a::aS,b::bs=>a.beq b&&uK aS bs
 |_,_=>false
def xb:(vs:List (Nat×Nat×Nat×List (Nat×SV)))→Ys→Option (sdenY vs)
 |[],y=>match y with
  |[]=>some ()
  |_=>none
 | v :: vs,y=>match y with
  | c :: y=>bif aah v.1 c.1&&aah v.2.1 c.2.g&&aah v.2.2.1 c.2.i then(match uJ v.2.2.2 c.2.e with
   |some x=>match xb vs y with
    |some z=>some (x,z)
    |none=>none
   |none=>none)else none
  |[]=>none
def Shape.dec (s:Shape) (Y:Ys) (e:Env) (h:H):Option s.den:=
 match uJ s.env e with
 | some a=>match w_ s.bx h.bx with
  | some b=>match su s.tk h.tk with
   |some c=>bif uK s.lp h.lp then(match xb s.ys Y with
    |some d=>some (a,b,c,d)
    |none=>none)else none
   |none=>none
  |none=>none
 |none=>none
def Shape.lv(s:Shape):List Nat:=s.env.map (·.1)
def Shape.fit(s:Shape)(B:cF)(Y:Ys)(e:Env)(h:H):Option s.den:=
 match zS s.tk B (F3 e s.env) (Bu s.bx (uI s.m h.bx)) s.m s.tm s.lm h with
 |some (e,h)=>s.dec Y e h
 |none=>none
mutual
def zT:AV→Bool
 |.bool _=>true
 |.int _ _=>true
 |.str _=>true
 |.sl _ _ _=>true
 |.fe=>true
 |.err _=>true
 |.agg cs=>sw cs
 |_=>false
def sw:List AV→Bool
 |[]=>true
 |v::vs=>zT v&&sw vs
end
mutual
def dc:AV→AV
 |.sl τ l _ => .sl τ l .eY
 |.agg cs => .agg (yC cs)
 |v=>v
def yC:List AV→List AV
 |[]=>[]
 |v::vs=>dc v::yC vs
end
mutual
def yD(n:Nat):AV→AV
 |.sl τ l c=>match c with
  |.own t => .sl τ l (.own (n+t))
  |c => .sl τ l c
 |.agg cs => .agg (uL n cs)
 |.cr cs => .cr (uL n cs)
 |.iM cs => .iM (uL n cs)
 |.gp m cs => .gp m (uL n cs)
 |.fn f a b => .fn f (uL n a) (uL n b)
 |v=>v
def uL(n:Nat):List AV→List AV
 |[]=>[]
 |v::vs=>yD n v::uL n vs
end
section
variable {X:Type} (cx:Cx X)
def lY(e:Env)(ts:List Nat):List Operand→List AV
 |[]=>[]
 |x::xs=>match ts with
  |t::ts=>Bs ((cx.tab t).bind (·.ty)) (ev e x)::lY e ts xs
  |[]=>ev e x::lY e [] xs
def grow(τ:Ty)(l m:List τ.den)(c:Cap)(bytes:Nat)(h:H)(k:AV→H→Option X):Option X:=
 bif decide ((l.length+m.length)*bytes≤2 ^ 46)&&decide (0<bytes∧bytes≤2 ^ 20)then
  match c with
  |.full=>k (.sl τ (l++m) (.own h.tk.length)) { h with tk:=h.tk++[some (l++m).length] }
  |.own t=>match nth h.tk t with
   |some (some n)=>bif aah n l.length then k (.sl τ (l++m) (.own t)) { h with tk:=dF h.tk t (some (l++m).length) }else none
   |_=>none
  |_=>none
 else none
def kq (t:Nat) (s x:AV) (h:H) (k:AV→H→Option X):Option X:=
 match cx.tab t with
 | some { d:=.slice et,.. }=>match cx.tab et with
  | some ti=>match kf (ti.ty.map .sl) s,kf (ti.ty.map .sl) x with
   |.sl τ l c,.sl τ' m _=>match gW τ' τ m with
    |some m=>bif aah ti.size τ.size&&aah ti.zero.length ti.size&&aap 0 ti.size then grow τ l m c ti.bytes h k else none
    |none=>none
   |.sl .u8 l c,.str m=>bif aah ti.size 1&&aah ti.zero.length ti.size then grow .u8 l m c ti.bytes h k else none
   |_,_=>none
  |none=>none
 |_=>none
def fg (b:Builtin) (ts:List Nat) (args:List AV) (h:H) (k:AV→H→Option X):Option X:=
 match b,args with
 | .len,[x]=>match ts with
  | t :: _=>match cx.tab t with
   |some { d:=.arr n _,.. }=>k (.int .i64 n) h
   |some { d:=.str,.. }=>match x with
    |.str s=>k (.int .i64 s.length) h
    |_=>none
   |some { d:=.slice _,.. }=>match x with
    |.sl _ l _=>k (.int .i64 l.length) h
    |.fe=>k (.int .i64 0) h
    |.gp n _=>k (.int .i64 n) h
    |_=>none
   |_=>none
  |[]=>none
 | .append,[s,x]=>match ts with
  |t::t2::_=>match cx.tab t2 with
   |some { d:=.slice _,.. }=>kq cx t s x h k
   |some { d:=.str,.. }=>kq cx t s x h k
   |_=>none
  |_=>none
 |.min,[.int q a,.int q' b]=>if q=q' then k (.int q (if b<a then b else a)) h else none
 |.max,[.int q a,.int q' b]=>if q=q' then k (.int q (if b>a then b else a)) h else none
 |_,_=>none
def ow(h:H)(r v:Nat)(τ:Ty)(k:List τ.den→Option X):Option X:=
 match nth h.bx r with
 | some cs=>match cs with
  |[.row v' τ' l]=>match gW τ' τ l with
   |some l=>bif aah v v' then k l else none
   |none=>none
  |_=>none
 |none=>none
def Bv(p:Pr)(args:List AV)(h:H)(k:AV→H→Option X):Option X:=
 match p,args with
 |.th T,[.ref r 0]=>match nth h.bx r with
  |some [.ea r' T',_]=>bif aah r r'&&aah T T' then k (.cr []) h else none
  |_=>none
 |.qu T E,[.ref r 0]=>match nth h.bx r with
  |some [.ea r' T',.ms q v n (.iX E')]=>bif aah r r'&&aah T T'&&aah E E' then ow h q v (.iX E') fun l=>bif l.isEmpty then none else k (.str l) { h with bx:=dF h.bx q [.row (v+1) (.iX E') []] }else none
  |_=>none
 |.sort τ f F,[.ms r v n τ',.fn f' [] []]=>bif τ.beq τ'&&aah f f' then ow h r v τ fun l=>bif aah (F l).length l.length&&aap l.length ai then k (.cr []) { h with bx:=dF h.bx r [.row v τ (F l)] }else none else none
 | .rd F,.ref r 0::as=>match nth h.bx r with
  |some cs=>bif isRow cs then none else match F cs as with
   |some v=>k v h
   |none=>none
  |none=>none
 |.yX es,[]=>k (.gq h.bx.length) { h with bx:=h.bx++[[.wq es]] }
 |_,_=>none
def xc:Ys→Nat→Option HD
 |[],_=>none
 |(i,hd)::Y,j=>bif aah i j then some hd else xc Y j
def lh:AV→Bool
 |.ms _ _ _ _=>true
 |_=>false
def F4:AV→Bool
 |.ep _ _ _ _ _=>true
 |_=>false
def Bw(a:AV)(h:H)(k:AV→H→Option X):Option X:=
 match a with
 |.ms r v _ τ=>ow h r v τ fun l=>k (.sl τ l .eY) { h with bx:=dF h.bx r [.row (v+1) τ []] }
 |a=>k a h
def vP:List AV→H→(List AV→H→Option X)→Option X
 |[],h,k=>k [] h
 |a::as,h,k=>Bw a h fun a h=>vP as h fun as h=>k (a::as) h
def mJ:Nat:=1000000
def zU(q:Nat)(l:List UInt8):List (List AV):=[[.int .i64 0],[.int .i64 0,.int .i64 0],[.ref (q+3) 0],[.sl .u8 l .eY,.int .i64 0,.int .i64 0,.int .i64 0,.bool true]]
def wT(q:Nat)(h:H)(k:AV→H→Option X):Option X:=match nth h.bx (q+3),nth h.bx (q+2),nth h.bx (q+1),nth h.bx q with
 | some [.sl τ l s,.int .i64 a,.int .i64 c,.int .i64 i,.bool _],some [.ref q' 0],some [.int .i64 _,.int .i64 _],some [.int .i64 _] =>
  bif aah q' (q+3)then k (.cr [.int .i64 a,.agg [.int .i64 c,.int .i64 i]])
   { h with bx:=dF (dF (dF h.bx (q+3) [.sl τ l s,.int .i64 a,.int .i64 c,.int .i64 i,.bool false]) q [.int .i64 a]) (q+1) [.int .i64 c,.int .i64 i] }else none
 |_,_,_,_=>none
def DG(O:Open X)(Y:Ys)(T:Nat)(args:List AV)(h:H)(k:AV→H→Option X):Option X:=match args with
 |[.sl .u8 l _,.fn f first cap]=>bif aap (h.bx.length+3) mJ&&aaJ l.length 70368744177664 then
  O (.Bq T (h.bx.length+3) f (first++[.ref (h.bx.length+3) 0]++cap)) Y { h with bx:=h.bx++zU h.bx.length l } fun _ h'=>wT h.bx.length h' k
  else none
 |_=>none
def prT(O:Open X)(Y:Ys)(p:Pr)(args:List AV)(h:H)(k:AV→H→Option X):Option X:=match p with
 |.vM T=>DG O Y T args h k
 |p=>Bv p args h k
def nU(O:Open X)(Y:Ys)(f:AV)(args:List AV)(h:H)(k:AV→H→Option X):Option X:=
 match f with
 | .fn g first cap=>match cx.pr g with
  |some p=>prT O Y p (first++args++cap) h k
  |none=>match cx.C g with
  |some iY=>bif sw (first++args++cap)then
   match iY (yC (first++args++cap))with
   |some en=>en.o.bind fun y=>let r:=mI [] (en.enc y);k (yD h.tk.length r.1) { h with tk:=h.tk++r.2 }
   |none=>none
   else none
  |none=>O (.call g (first++args++cap)) Y h k
 |.yield j=>match xc Y j with
  |some hd=>O (.round j hd args) Y h k
  |none=>none
 |_=>none
def uM(fa:AV)(args:List AV):Bool:=args.any lh&&match fa with
 |.fn g _ _=>(cx.C g).isSome&&(cx.pr g).isNone
 |_=>false
def sx(O:Open X)(Y:Ys)(fa:AV)(args:List AV)(h:H)(k:AV→H→Option X):Option X:=
 bif uM cx fa args then vP args h fun args h=>nU cx O Y fa args h k else nU cx O Y fa args h k
def Cu:Option AV→Option (Option Int)
 |none=>some none
 |some (.int _ i)=>some (some i)
 |some _=>none
def lH (d:TD) (x:AV) (lo hi mx:Option AV) (k:AV→Option X):Option X:=
 match Cu lo,Cu hi,Cu mx with
 | some lo,some hi,some mx=>match d,x with
  |.str,.str s=>match mx with
   |none=>(sub s (lo.getD 0) (hi.getD s.length)).bind fun r=>k (.str r)
   |some _=>none
  | .slice et,.sl τ l c=>match cx.tab et with
   | some ei=>bif aah ei.size τ.size then
    (match mx with
    |none=>(sub l (lo.getD 0) (hi.getD l.length)).bind fun r=>k (.sl τ r .eY)
    |some m=>match hi with
     |some hi=>bif hi==m then(sub l (lo.getD 0) hi).bind fun r=>k (.sl τ r .full)else none
     |none=>none)
    else none
   |none=>none
  |_,_=>none
 |_,_,_=>none
def zV(es:List (Int×Nat))(a:Int)(k:Option Nat→Option X):Option X:=
 match es with
 |[]=>k none
 |(x,f)::es=>bif a==x then k (some f)else zV es a k
theorem zwo(es:List (Int×Nat))(a:Int)(k:Option Nat→Option X):zV es a k=k ((es.find? fun p=>a==p.1).map (·.2)):=by
 induction es with
 |nil=>rfl
 |cons p es ih =>
  simp only[zV,List.find?_cons];cases a==p.1
  ·simpa using ih
  ·rfl
noncomputable def fK(O:Open X)(Y:Ys)(o:Oper)(e:Env)(h:H)(k:AV→H→Option X):Option X:=
 match o.op with
 |.move x |.assign x=>k (kf ((cx.tab o.type).bind (·.ty)) (ev e x)) h
 |.pick c a b=>match ev e c with
  |.bool v=>bif v then k (ev e a) h else k (ev e b) h
  |_=>none
 |.alloc t=>match cx.tab t with
  |some ti=>bif aah ti.zero.length ti.size&&aap 0 ti.size then k (.ref h.bx.length 0) { h with bx:=h.bx++[ti.zero] }else none
  |none=>none
 |.box t x=>match cx.tab t with
  |some ti=>bif aah (cellsOf (kf ti.ty (ev e x))).length ti.size&&aap 0 ti.size&&nT (cellsOf (kf ti.ty (ev e x)))then k (.ref h.bx.length 0) { h with bx:=h.bx++[cellsOf (kf ti.ty (ev e x))] }else none
  |none=>none
 | .build t parts=>match cx.tab t with
  | some ti=>bif aah ti.zero.length ti.size&&aap 0 ti.size then match ti.d with
   |.struct fs=>match mG cx.tab fs e parts.toList ti.zero with
    |some cs=>k (.agg cs) h
    |none=>none
   | .arr _ et=>match cx.tab et with
    |some ei=>match mH ei e parts.toList ti.zero with
     |some cs=>k (.agg cs) h
     |none=>none
    |none=>none
   |_=>none else none
  |none=>none
 | .buildSlice t len parts=>match cx.tab t with
  | some { d:=.slice et,.. }=>match cx.tab et with
   | some ti=>match ti.ty with
    |some τ=>match ja τ e 0 parts.toList with
     |some l=>bif aah l.length len&&aah ti.size τ.size&&aaJ (len*ti.size) 16777216&&aah ti.zero.length ti.size&&aap 0 ti.size then k (.sl τ l .full) h else none
     |none=>none
    |none=>match ko ti e 0 parts.toList with
     |some l=>bif aah parts.toList.length len&&aaJ (len*ti.size) 16777216&&aah ti.zero.length ti.size&&aap 0 ti.size&&aap 0 len then k (.gp len l) h else none
     |none=>none
   |none=>none
  |_=>none
 | .load t a=>match cx.tab t with
  |some ti=>match mZ ti (ev e a) h with
   |some v=>k v h
   |none=>none
  |none=>none
 | .store t a x=>match cx.tab t with
  |some ti=>match mE ti (ev e a) (kf ti.ty (ev e x)) h with
   |some h=>k (.cr []) h
   |none=>none
  |none=>none
 |.nilCheck x=>match ev e x with
  |.ref r o=>k (.ref r o) h
  |.iM cs=>k (.iM cs) h
  |.fn f a b=>k (.fn f a b) h
  |.yield j=>k (.yield j) h
  |_=>none
 | .binOp op t x y _=>match ev e x,ev e y with
  | .err b,.err c=>match cx.tab t with
   |some { d:=.iface,.. }=>match op,y with
    |.eql,.const .nilIface=>k (.bool (!b)) h
    |.neq,.const .nilIface=>k (.bool b) h
    |_,_=>none
   |_=>none
  | .sl _ l _,.fe=>match cx.tab t with
   |some { d:=.slice _,.. }=>match op with
    |.eql=>bif l.isEmpty then both (k (.bool true) h) (k (.bool false) h)else k (.bool false) h
    |.neq=>bif l.isEmpty then both (k (.bool false) h) (k (.bool true) h)else k (.bool true) h
    |_=>none
   |_=>none
  | .agg aS,.agg bs=>match cx.tab t,zR aS bs with
   |some ti,some b=>bif ti.cmp&&mF aS ti.zero then(match op with
    |.eql=>k (.bool b) h
    |.neq=>k (.bool (!b)) h
    |_=>none)else none
   |_,_=>none
  |a,b=>nH (match cx.tab t with |some ti=>ti.d |none => .other) op a b fun v=>k v h
 |.unOp op _ x=>EF op (ev e x) fun v=>k v h
 | .convert s d x=>match cx.tab s,cx.tab d,ev e x with
  |some { d:=.int _,.. },some { d:=.int q,.. },.int _ n=>k (.int q (q.wrap n)) h
  |some { d:=.str,.. },some { d:=.str,.. },.str s=>k (.str s) h
  |some { d:=.slice et,.. },some { d:=.str,.. },.sl .u8 l _=>match cx.tab et with
   |some { d:=.int .u8,.. }=>k (.str l) h
   |_=>none
  |some { d:=.str,.. },some { d:=.slice et,.. },.str s=>match cx.tab et with
   |some { d:=.int .u8,.. }=>k (.sl .u8 s (.own h.tk.length)) { h with tk:=h.tk++[some s.length] }
   |_=>none
  |_,_,_=>none
 | .lookup t m x true=>match cx.tab t with
  | some { d:=.map kt et,.. }=>match cx.tab kt,cx.tab et with
   | some { d:=.int .i64,.. },some { zero:=_::_,.. }=>match ev e m,ev e x with
    | .gq r,.int .i64 a=>match nth h.bx r with
     |some [.wq es]=>zV es a fun
      |some f=>k (.cr [.fn f [] [],.bool true]) h
      |none=>k (.cr [.any,.bool false]) h
     |_=>none
    |_,_=>none
   |_,_=>none
  |_=>none
 | .makeSlice t l c=>match cx.tab t with
  | some { d:=.slice et,.. }=>match cx.tab et with
   | some ei=>match ei.ty,ev e l,ev e c with
    |some τ,.int .i64 a,.int .i64 b=>bif (decide (a=0)&&(decide (0≤b)&&decide ((ei.bytes:Int)*b≤281474976710656)&&decide (b≤281474976710656)))&&(aah ei.size τ.size&&aap 0 ei.size&&aah ei.zero.length ei.size)then
     k (.sl τ [] (.own h.tk.length)) { h with tk:=h.tk++[some 0] }else none
    |_,_,_=>none
   |none=>none
  |_=>none
 |.makeFunc (.func f) first cap=>k (.fn f (first.toList.map (ev e)) (cap.toList.map (ev e))) h
 |.slice t x lo hi mx=>match cx.tab t with
  |some ti=>lH cx ti.d (ev e x) (lo.map (ev e)) (hi.map (ev e)) (mx.map (ev e)) fun v=>k v h
  |none=>none
 | .fieldAddr t x f=>match cx.tab t with
  | some { d:=.struct fs,.. }=>match nth fs f with
   | some (off,ft)=>match cx.tab ft with
    |some fi=>bif aap 0 fi.size then(match ev e x with
     |.ref r o=>k (.ref r (o+off)) h
     |.iM cs=>k (.iM (nS off cs)) h
     |_=>none)else none
    |none=>none
   |none=>none
  |_=>none
 | .field t x f=>match cx.tab t with
  | some { d:=.struct fs,.. }=>match nth fs f with
   | some (off,ft)=>match cx.tab ft,ev e x with
    | some fi,.agg cs=>match takeN fi.size (nS off cs)with
     |some cs=>match jD fi.agg cs with
      |some v=>k v h
      |none=>none
     |none=>none
    |_,_=>none
   |none=>none
  |_=>none
 | .indexAddr t x i=>match cx.tab t with
  | some { d:=.slice et,.. }=>match cx.tab et with
   |some ti=>match ev e x,ev e i with
    |.sl τ l _,.int _ i=>bif aah ti.size τ.size then(idx l i).bind fun x=>k (.iM (τ.cells x)) h else none
    |.gp n cs,.int _ i=>bif aaJ (n*ti.size) cs.length then rU ti.size i n 0 cs fun v=>k v h else none
    |_,_=>none
   |none=>none
  | some { d:=.arr n et,.. }=>match cx.tab et with
   |some ti=>match ev e x,ev e i with
    |.ref r o,.int _ i=>tj ti.size i n 0 r o fun v=>k v h
    |_,_=>none
   |none=>none
  |_=>none
 | .index t x i=>match ev e x,ev e i with
  |.str s,.int _ i=>match cx.tab t with
   |some { d:=.str,.. }=>(idx s i).bind fun b=>k (.int .u8 b.toNat) h
   |_=>none
  | .agg cs,.int _ i=>match cx.tab t with
   |some { d:=.arr n et,.. }=>match cx.tab et with
    |some ei=>pR ei.agg ei.size i n 0 cs fun v=>k v h
    |none=>none
   |_=>none
  |_,_=>none
 | .extract t i=>match ev e t with
  |.cr vs=>match nth vs i with
   |some v=>k v h
   |none=>none
  |_=>none
 |.call c=>match c.callee with
  |.builtin b=>fg cx b c.argTypes.toList (lY cx e c.argTypes.toList c.args.toList) h k
  |.value f=>sx cx O Y (ev e f) (lY cx e c.argTypes.toList c.args.toList) h k
  |_=>none
 |_=>none
def DH(τ:Ty)(x:AV)(h:H)(k:List τ.den→Option X):Option X:=
 match x with
 |.str s=>(match τ,k with
  |.u8,k=>k s
  |.iX _,k=>k s
  |_,_=>none)
 |.sl τ' m _=>match gW τ' τ m with
  |some m=>k m
  |none=>none
 |.ms r v _ τ'=>match gW τ' τ []with
  |some _=>ow h r v τ k
  |none=>none
 |_=>none
def oX(τ:Ty)(et:Nat):Bool:=match τ with
 |.iX E=>aah E et
 |_=>true
def NB(d:TD)(x:AV):Bool:=match d,x with
 |.slice _,.str _=>false
 |.slice _,_=>true
 |.str,.str _=>true
 |_,_=>false
def Bx(tab:Nat→Option TI)(t:Nat):Bool:=match tab t with
 |some { d:=.map k e,.. }=>match tab k,tab e with
  |some { d:=.str,.. },some { d:=.int .i64,zero:=_::_,.. }=>true
  |_,_=>false
 |_=>false
def jb:List (List UInt8×Int)→List UInt8→Option Int
 |[],_=>none
 |(k,v)::l,s=>bif k==s then some v else jb l s
def js{X:Type}(l:List (List UInt8×Int))(s:List UInt8)(k1:Int→Option X)(k0:Option X):Option X:=match jb l s with
 |some v=>k1 v
 |none=>k0
def gZ:List (List UInt8×Int)→List UInt8→Int→List (List UInt8×Int)
 |[],s,n=>[(s,n)]
 |(k,v)::l,s,n=>bif k==s then(k,n)::l else(k,v)::gZ l s n
def gG(o:Oper)(e:Env):Bool:=match o.op with
 |.makeMap t _=>Bx cx.tab t
 |.lookup t _ _ _=>Bx cx.tab t
 |.mapUpdate t _ _ _=>Bx cx.tab t
 |.move x=>(match ev e x with |.fe=>(cx.rows o.type).isSome |_=>false)
 |.assign x=>(match ev e x with |.fe=>(cx.rows o.type).isSome |_=>false)
 |.buildSlice t _ _=>(cx.rows t).isSome
 |.load _ a=>F4 (ev e a)
 |.store _ a x=>F4 (ev e a)||lh (ev e x)
 |.fieldAddr _ x _=>F4 (ev e x)
 |.indexAddr _ x _=>lh (ev e x)
 |.slice _ x _ _ _=>lh (ev e x)
 |.convert s d x=>aah s d&&lh (ev e x)
 |.call c=>match c.callee with
  |.builtin .len=>(match c.args.toList with |x::_=>lh (ev e x) |[]=>false)
  |.builtin .append=>(match c.args.toList with |[s,x]=>lh (ev e s)||lh (ev e x) |_=>false)
  |_=>false
 |.alloc t=>(match cx.bt with |some T=>aah t T.1 |none=>false)
 |_=>false
def UR(a:AV)(h:H):Bool:=match a with
 |.ref r _=>match nth h.bx r with
  |some (.ea _ _::_)=>true
  |_=>false
 |_=>false
def tv(o:Oper)(e:Env):Bool:=match o.op with
 |.lookup _ _ _ _=>true
 |.mapUpdate _ _ _ _=>true
 |.load _ _=>true
 |.store _ _ x => !lh (ev e x)
 |.fieldAddr _ _ _=>true
 |.indexAddr _ _ _=>true
 |.call c=>match c.callee with
  |.builtin .len=>true
  |_=>false
 |_=>false
def tx(ty:Nat)(h:H)(k:AV→H→Option X):Option X:=
 match cx.rows ty with
 |some τ=>bif aap 0 τ.size then k (.ms h.bx.length 1 0 τ) { h with bx:=h.bx++[[.row 1 τ []]] }else none
 |none=>none
def nV (o : Oper) (e:Env) (h:H) (k:AV→H→Option X):Option X:=
 match o.op with
 |.makeMap t none=>bif Bx cx.tab t then k (.gq h.bx.length) { h with bx:=h.bx++[[.mp []]] }else none
 | .lookup t m x true=>bif Bx cx.tab t then match ev e m,ev e x with
  |.gq r,.str s=>match nth h.bx r with
   |some [.mp l]=>js l s (fun v=>k (.cr [.int .i64 v,.bool true]) h) (k (.cr [.any,.bool false]) h)
   |_=>none
  |_,_=>none
  else none
 | .mapUpdate t m x y=>bif Bx cx.tab t then match ev e m,ev e x,ev e y with
  |.gq r,.str s,.int .i64 n=>match nth h.bx r with
   |some [.mp l]=>k (.cr []) { h with bx:=dF h.bx r [.mp (gZ l s n)] }
   |_=>none
  |_,_,_=>none
  else none
 |.move _=>tx cx o.type h k
 |.assign _=>tx cx o.type h k
 | .buildSlice t len parts=>match cx.tab t with
  | some { d:=.slice et,.. }=>match cx.tab et with
   | some ti=>match ti.ty with
    |some τ=>match ja τ e 0 parts.toList with
     |some l=>bif aah l.length len&&aah ti.size τ.size&&aaJ (len*ti.size) 16777216&&aah ti.zero.length ti.size&&aap 0 ti.size&&oX τ et then k (.ms h.bx.length 1 len τ) { h with bx:=h.bx++[[.row 1 τ l]] }else none
     |none=>none
    |none=>none
   |none=>none
  |_=>none
 | .load t a=>match cx.tab t with
  | some ti=>match ev e a with
   | .ep r v i off τ=>ow h r v τ fun l=>(idx l i).bind fun x=>match takeN ti.size (nS off (τ.cells x))with
    |some cs=>match jD ti.agg cs with
     |some v=>k v h
     |none=>none
    |none=>none
   |_=>none
  |none=>none
 | .store t a x=>match cx.tab t with
  | some ti => match ev e a with
   | .ep r v i off τ=>bif aah (cellsOf (kf ti.ty (ev e x))).length ti.size&&tf (cellsOf (kf ti.ty (ev e x)))&&aap 0 ti.size then
    ow h r v τ fun l=>(idx l i).bind fun y=>match gz off (cellsOf (kf ti.ty (ev e x))) (τ.cells y)with
     |some ds=>match τ.of ds with
      |some (z,[])=>k (.cr []) { h with bx:=dF h.bx r [.row v τ (dF l i.toNat z)] }
      |_=>none
     |none=>none
    else none
   | a => bif UR a h then
       (match mE ti a (kf ti.ty (ev e x)) h with
       |some h=>k (.cr []) h
       |none=>none)
    else Bw (kf ti.ty (ev e x)) h fun v h=>match mE ti a v h with
    |some h=>k (.cr []) h
    |none=>none
  |none=>none
 | .fieldAddr t x f=>match cx.tab t with
  | some { d:=.struct fs,.. }=>match nth fs f with
   | some (off,ft)=>match cx.tab ft with
    |some fi=>bif aap 0 fi.size then(match ev e x with
     |.ep r v i o τ=>k (.ep r v i (o+off) τ) h
     |_=>none)else none
    |none=>none
   |none=>none
  |_=>none
 | .indexAddr t x i=>match cx.tab t with
  | some { d:=.slice et,.. }=>match cx.tab et with
   |some ti=>match ev e x,ev e i with
    |.ms r v n τ,.int _ i=>bif aah ti.size τ.size&&(decide (0≤i)&&decide (i<n))then k (.ep r v i 0 τ) h else none
    |_,_=>none
   |none=>none
  |_=>none
 |.slice t x lo hi mx=>match cx.tab t with
  |some ti=>Bw (ev e x) h fun x h=>lH cx ti.d x (lo.map (ev e)) (hi.map (ev e)) (mx.map (ev e)) fun v=>k v h
  |none=>none
 | .convert s d x=>bif aah s d then(match cx.tab s with
  | some { d:=.slice et,.. }=>match cx.tab et with
   |some { d:=.int .u8,.. }=>match ev e x with
    |.ms r v n τ=>bif aap 0 n then ow h r v τ fun l=>k (.sl τ l (bif aah v 1 then .full else .eY)) { h with bx:=dF h.bx r [.row (v+1) τ []] }else none
    |_=>none
   |_=>none
  |_=>none)else none
 | .call c => match c.callee with
  | .builtin .len=>match c.argTypes.toList,c.args.toList with
   | [t],[x]=>match cx.tab t with
    |some { d:=.slice _,.. }=>match ev e x with
     |.ms _ _ n _=>k (.int .i64 n) h
     |_=>none
    |_=>none
   |_,_=>none
  | .builtin .append=>match c.argTypes.toList,c.args.toList with
   | [t, t2],[s,x]=>match cx.tab t,cx.tab t2 with
    | some { d:=.slice et,.. },some t2=>match cx.tab et with
     | some ti => match ev e s with
      | .ms r v _ τ=>bif NB t2.d (ev e x)&&oX τ et then DH τ (kf (ti.ty.map .sl) (ev e x)) h fun m=>ow h r v τ fun l =>
       bif aah ti.size τ.size&&aah ti.zero.length ti.size&&aap 0 ti.size then
        bif decide ((l.length+m.length)*ti.bytes≤2 ^ 46)&&decide (0<ti.bytes∧ti.bytes≤2 ^ 20)then
         k (.ms r (v+1) (l++m).length τ) { h with bx:=dF h.bx r [.row (v+1) τ (l++m)] }else none
       else none
       else none
      |_=>vP (lY cx e c.argTypes.toList c.args.toList) h fun as h=>fg cx .append c.argTypes.toList as h k
     |none=>none
    |_,_=>none
   |_,_=>none
  |_=>none
 | .alloc t=>match cx.bt with
  | some (T,E)=>bif aah t T then match cx.tab t with
   |some ti=>match ti.zero with
    |[.fX,.sl .u8 [] .full]=>bif aah ti.size 2 then k (.ref (h.bx.length+1) 0) { h with bx:=(h.bx++[[.row 1 (.iX E) []]])++[[.ea (h.bx.length+1) T,.ms h.bx.length 1 0 (.iX E)]] }else none
    |_=>none
   |none=>none else none
  |none=>none
 |_=>none
noncomputable def mK(O:Open X)(Y:Ys)(o:Oper)(e:Env)(h:H)(k:AV→H→Option X):Option X:=
 bif gG cx o e then nV cx o e h k else fK cx O Y o e h k
def put(N:Nat)(e:Env)(d:Option Nat)(v:AV)(k:Env→Option X):Option X:=
 match d with
 |none=>k e
 |some d=>bif aap d N then k ((d,v)::e)else none
def qx(ops:List Oper)(j:Nat):Option Nat:=match nth ops j with
 |some o=>o.dst
 |none=>none
def zW (o:Oper) (e:Env):Option (AV×Nat):=match o.op with
 | .call c=>match c.callee,c.args.toList with
  | .value f,[x]=>match ev e f with
   |.fn g [] []=>match cx.pr g with
    |some (.Br T)=>some (ev e x,T)
    |_=>none
   |_=>none
  |_,_=>none
 |_=>none
def Cv(a:AV)(T:Nat)(h:H)(pn:Nat→Option X)(k:Option X):Option X:=match a with
 |.ref q 0=>match nth h.bx q with
  |some [.sl _ _ _,_,.int .i64 c,.int .i64 i,.bool t]=>bif aap q mJ then bif t && !(c==0&&i==0)then pn (mJ*(T+1)+q)else k else none
  |_=>none
 |_=>none
noncomputable def pS(O:Open X)(N:Nat)(Y:Ys)(all:List Oper)(pn:Nat→Env→H→Option X):List Oper→Env→H→(Env→H→Option X)→Option X
 |[],e,h,k=>k e h
 | o :: os,e,h,k=>match o.guard with
  |none=>match zW cx o e with
   |some (a,T)=>Cv a T h (fun i=>pn i e h) (put N e o.dst (.cr []) fun e=>pS O N Y all pn os e h k)
   |none=>mK cx O Y o e h fun v h=>put N e o.dst v fun e=>pS O N Y all pn os e h k
  | some (j,w)=>match qx all j with
   | some d=>match get e d with
    |.bool b =>
     let run:=mK cx O Y o ((d,.bool w)::e) h fun v h=>put N ((d,.bool w)::e) o.dst v fun e=>pS O N Y all pn os e h k
     let pass:=put N ((d,.bool (!w))::e) o.dst (.cr []) fun e=>pS O N Y all pn os e h k
     match w with
     |true=>bif b then run else pass
     |false=>bif b then pass else run
    |.cr _=>put N e o.dst (.cr []) fun e=>pS O N Y all pn os e h k
    |_=>none
   |none=>none
def oz:Code→Option Nat
 |.region i _ _=>some i
 |.seq a b=>match oz a with
  |some i=>some i
  |none=>oz b
 |.cond _ a b=>match oz a with
  |some i=>some i
  |none=>oz b
 |.block _ b=>oz b
 |.loop b=>oz b
 |.scope b=>oz b
 |.rangeFunc _ _ a b=>match oz a with
  |some i=>some i
  |none=>oz b
 |_=>none
def zX:Nat→((Env→H→Option X)→Env→H→Option X)→Env→H→Option X
 |0,_,_,_=>none
 |n+1,b,e,h=>b (zX n b) e h
def jE(h:H)(j:Nat)(s:LS):H:={ h with lp:=dF h.lp j s }
def params(N:Nat)(e:Env):List Nat→List AV→Option Env
 |[],[]=>some e
 |p::ps,a::aS=>bif aap p N then params N ((p,a)::e) ps aS else none
 |_,_=>none
structure Fm where
 g:Nat
 N:Nat
 B:cF
 d:Nat
def cF.beq(a b:cF):Bool:=aah a.nb b.nb&&aah a.nt b.nt&&aah a.nl b.nl
def yZ{X:Type}(fm:Fm)(Y:Ys)(ks:Ks X)(e:Env)(h:H):List (bm X)→Option X
 |[]=>none
 |li::l=>bif aah li.d fm.d&&li.B.beq fm.B then(match li.head.fit fm.B Y e h with
  |some s=>li.f ks s
  |none=>yZ fm Y ks e h l)else yZ fm Y ks e h l
def xd{X:Type}(fm:Fm)(Y:Ys)(ks:Ks X)(e:Env)(h:H):List (ar X)→Option X
 |[]=>none
 |ci::l=>bif aah ci.d fm.d&&ci.B.beq fm.B then(match ci.head.fit fm.B Y e h with
  |some s=>ci.f ks s
  |none=>xd fm Y ks e h l)else xd fm Y ks e h l
def m_(g:Nat)(b:Code):List (bm X):=match oz b with
 |some i=>cx.loops g i
 |none=>[]
def rB(g:Nat)(b:Code):List (ar X):=match oz b with
 |some i=>cx.pQ g i
 |none=>[]
def y0(g:Nat)(b:Code):Nat:=match oz b with
 |some i=>cx.lG g i
 |none=>0
def gn(o:Oper):Bool:=match o.op with
 |.alloc _=>true
 |.box _ _=>true
 |_=>false
def gX:List Oper→Nat→Nat
 |[],_=>0
 |_::_,0=>0
 |o::os,i+1=>bif gn o then gX os i+1 else gX os i
def hole:List AV:=[.row 0 (.agg []) []]
def isHole:List AV→Bool
 |[.row 0 (.agg []) []]=>true
 |_=>false
def sy:Nat→List (List AV)
 |0=>[]
 |n+1=>hole::sy n
def uN(q:Nat)(cs:List AV)(h:H)(k:AV→H→Option X):Option X:=
 match nth h.bx q with
 |some c=>bif isHole c then k (.ref q 0) { h with bx:=dF h.bx q cs }else none
 |none=>none
noncomputable def qa(q:Nat)(O:Open X)(Y:Ys)(o:Oper)(e:Env)(h:H)(k:AV→H→Option X):Option X:=
 match o.op with
 |.alloc t=>match cx.tab t with
  |some ti=>bif aah ti.zero.length ti.size&&aap 0 ti.size then uN q ti.zero h k else none
  |none=>none
 |.box t x=>match cx.tab t with
  |some ti=>bif aah (cellsOf (kf ti.ty (ev e x))).length ti.size&&aap 0 ti.size&&nT (cellsOf (kf ti.ty (ev e x)))then uN q (cellsOf (kf ti.ty (ev e x))) h k else none
  |none=>none
 |_=>mK cx O Y o e h k
def Bz(f:AV)(xs:List Operand)(e:Env):Option Nat:=match f,xs with
 |.fn _ [] [],x::_=>match ev e x with
  |.ref q _=>some q
  |_=>none
 |_,_=>none
def NC:Option Pr→Bool
 |some (.rd _)=>true
 |_=>false
def US(tab:Nat→Option TI):List Nat→Bool
 |t::_=>match tab t with
  |some { d:=.ptr,.. }=>true
  |_=>false
 |[]=>false
def gr(q:Nat)(o:Oper)(e:Env):Option Nat:=match o.op with
 |.call c=>match c.callee with
  |.value f=>Bz (ev e f) c.args.toList e
  |_=>none
 |.load _ a=>match ev e a with
  |.ref q _=>some q
  |.ep q _ _ _ _=>some q
  |_=>none
 |.store _ a _=>match ev e a with
  |.ref q _=>some q
  |.ep q _ _ _ _=>some q
  |_=>none
 |.alloc _=>some q
 |.box _ _=>some q
 |.lookup _ m _ _=>match ev e m with
  |.gq q=>some q
  |_=>none
 |.mapUpdate _ m _ _=>match ev e m with
  |.gq q=>some q
  |_=>none
 |_=>none
def dx(j i:Nat):List (Nat×Nat)→Bool
 |[]=>false
 |(a,b)::l=>(aah a j&&aah b i)||dx j i l
def jR(conf:List (Nat×Nat))(i q:Nat):List (Nat×Nat)→Bool
 |[]=>false
 |(j,q')::acc=>(aah q q'&&(dx j i conf||dx i j conf))||jR conf i q acc
def ir(o:Oper)(e:Env):Bool:=match o.op with
 |.binOp _ _ x y _=>match ev e x,ev e y with
  |.sl _ _ _,.fe=>false
  |_,_=>true
 | .call c=>match c.callee with
  |.builtin _=>true
  |.value f=>match ev e f with
   |.fn g fs cs=>((cx.C g).isSome&&((cx.pr g).isNone && !((lY cx e c.argTypes.toList c.args.toList).any lh)))||(NC (cx.pr g)&&(fs.isEmpty&&(cs.isEmpty&&US cx.tab c.argTypes.toList)))
   |_=>false
  |_=>false
 |.lookup _ _ _ _=>false
 |_=>true
def ku(o:Oper)(e:Env):Bool:=bif gG cx o e then tv o e else ir cx o e
noncomputable def qy(conf:List (Nat×Nat))(O:Open X)(N:Nat)(Y:Ys)(p:Nat)(i:Nat)(o:Oper)(e:Env)(h:H)(acc:List (Nat×Nat))(k:Env→H→List (Nat×Nat)→Option X):Option X:=
 bif ku cx o e then match gr p o e with
  |some q=>bif jR conf i q acc then none else qa cx p O Y o e h fun v h=>put N e o.dst v fun e=>k e h ((i,q)::acc)
  |none=>qa cx p O Y o e h fun v h=>put N e o.dst v fun e=>k e h acc
 else none
open Classical in
noncomputable def lZ{X:Type}(a b:Option (List AV))(k:Option X):Option X:=if a=b then k else none
noncomputable def nW{X:Type}(conf:List (Nat×Nat))(i:Nat)(h h':H):List (Nat×Nat)→Option X→Option X
 |[],k=>k
 |(j,q)::acc,k=>bif dx j i conf then lZ (nth h.bx q) (nth h'.bx q) (nW conf i h h' acc k)else nW conf i h h' acc k
noncomputable def BA(conf:List (Nat×Nat))(O:Open X)(N:Nat)(Y:Ys)(i:Nat)(o:Oper)(e:Env)(h:H)(acc:List (Nat×Nat))(k:Env→H→List (Nat×Nat)→Option X):Option X:=
 match o.guard with
 |none=>mK cx O Y o e h fun v h'=>nW conf i h h' acc (put N e o.dst v fun e=>k e h' acc)
 |some _=>none
noncomputable def jt(conf:List (Nat×Nat))(O:Open X)(N:Nat)(Y:Ys)(nb:Nat)(all:List Oper)(i:Nat)(o:Oper)(e:Env)(h:H)(acc:List (Nat×Nat))(k:Env→H→List (Nat×Nat)→Option X):Option X:=
 match o.guard with
 |none=>qy cx conf O N Y (nb+gX all i) i o e h acc k
 | some (j,w)=>match qx all j with
  | some d=>match get e d with
   |.bool b =>
    let run:=qy cx conf O N Y (nb+gX all i) i o ((d,.bool w)::e) h acc k
    let pass:=put N ((d,.bool (!w))::e) o.dst (.cr []) fun e=>k e h acc
    match w with
    |true=>bif b then run else pass
    |false=>bif b then pass else run
   |.cr _=>put N e o.dst (.cr []) fun e=>k e h acc
   |_=>none
  |none=>none
noncomputable def sA(conf:List (Nat×Nat))(O:Open X)(N:Nat)(Y:Ys)(nb:Nat)(all:List Oper)(i:Nat)(o:Oper)(e:Env)(h:H)(acc:List (Nat×Nat))(k:Env→H→List (Nat×Nat)→Option X):Option X:=
 bif dx i i conf then BA cx conf O N Y i o e h acc k else jt cx conf O N Y nb all i o e h acc k
noncomputable def gm(conf:List (Nat×Nat))(O:Open X)(N:Nat)(Y:Ys)(nb:Nat)(all:List Oper):List (Nat×Oper)→Env→H→List (Nat×Nat)→(Env→H→Option X)→Option X
 |[],e,h,_,k=>k e h
 |(i,o)::os,e,h,acc,k=>sA cx conf O N Y nb all i o e h acc fun e h acc=>gm conf O N Y nb all os e h acc k
def dstsOf:List Oper→List Nat
 |[]=>[]
 |o::os=>match o.dst with
  |some d=>d::dstsOf os
  |none=>dstsOf os
def number{α:Type}:Nat→List α→List (Nat×α)
 |_,[]=>[]
 |n,a::l=>(n,a)::number (n+1) l
def xf:Env→Env→Env
 |[],e=>e
 |p::ps,e=>p::xf ps e
def Cw:List (Nat×Nat)→List Nat
 |[]=>[]
 |(a,b)::l=>bif aah a 1000 then b::Cw l else Cw l
def uO(ops:List Oper):List Nat→List (Nat×Oper)
 |[]=>[]
 |i::l=>match nth ops i with
  |some o=>(i,o)::uO ops l
  |none=>uO ops l
def iR(conf:List (Nat×Nat))(ops:List Oper):List (Nat×Oper):=match Cw conf with
 |[]=>number 0 ops
 |l=>uO ops l
noncomputable def F5(conf:List (Nat×Nat))(O:Open X)(N:Nat)(Y:Ys)(ops:List Oper)(e:Env)(h:H)(k:Env→H→Option X):Option X:=
 gm cx conf O N Y h.bx.length ops (iR conf ops) e { h with bx:=h.bx++sy (gX ops ops.length) } [] fun e' h=>k (xf (live (dstsOf ops) e') e) h
noncomputable def exec(O:Open X)(fm:Fm)(Y:Ys):Code→Ks X→Env→H→Option X
 |.skip,ks,e,h=>ks.iw e h
 |.label _,ks,e,h=>ks.iw e h
 |.region i ops dr,ks,e,h=>match dr with
  |false=>pS cx O fm.N Y ops.toList (fun i e h=>bif aap (i % mJ) fm.B.nb then ks.ex i e h else none) ops.toList e h ks.iw
  |true=>F5 cx (cx.conf fm.g i) O fm.N Y ops.toList e h ks.iw
 |.seq a b,ks,e,h =>
  match rB cx fm.g b with
  |[]=>exec O fm Y a { ks with iw:=exec O fm Y b ks } e h
  |c::cs=>exec O fm Y a { ks with iw:=fun e h=>xd fm Y ks e h (c::cs) } e h
 |.cond c a b,ks,e,h=>match ev e c with
  |.bool v=>bif v then exec O fm Y a ks e h else exec O fm Y b ks e h
  |_=>none
 |.block i b,ks,e,h=>exec O fm Y b { ks with ex:=fun j e h=>bif aah j i then bif aap j mJ then ks.iw e h else none else ks.ex j e h } e h
 |.scope b,ks,e,h=>exec O fm Y b ks e h
 |.loop b,ks,e,h=>match m_ cx fm.g b with
  |[]=>zX (y0 cx fm.g b) (fun k e h=>exec O fm Y b { ks with iw:=k } e h) e h
  |l::ls=>yZ fm Y ks e h (l::ls)
 |.exit i,ks,e,h=>bif aap i mJ then ks.ex i e h else none
 |.ret,ks,e,h=>ks.ret e h
 | .rangeFunc f _ aS b,ks,e,h=>match ev e f,(match oz aS with|some i=>some i|none=>oz b)with
  | .fn g first cap,some i=>match cx.lr fm.g i with
   |some (_,lv,_)=>O (.call g (first++[.yield h.lp.length]++cap)) ((h.lp.length,⟨fm.g,i,live lv e⟩)::Y) { h with lp:=h.lp++[.ready] } fun _ h' =>
    match nth h'.lp h.lp.length with
    |some .ready=>ks.iw e (jE h' h.lp.length .busy)
    |some (.done .ret)=>ks.ret e (jE h' h.lp.length .busy)
    |some (.done (.ex i))=>bif aap i mJ then ks.ex i e (jE h' h.lp.length .busy)else none
    |_=>none
   |none=>none
  |_,_=>none
 |_,_,_,_=>none
def xg(B:cF)(k:Env→H→Option X)(e:Env)(h:H):List Shape→Option X
 |[]=>none
 |s::ss=>match s.fit B [] e h with
  |some x=>k (s.e x) (s.h x)
  |none=>xg B k e h ss
def xh(B:cF)(k:Env→H→Option X)(i:Nat)(e:Env)(h:H):List (Nat×Shape)→Option X
 |[]=>none
 |(j,s)::ss=>bif aah j i then(match s.fit B [] e h with
  |some x=>k (s.e x) (s.h x)
  |none=>xh B k i e h ss)else xh B k i e h ss
theorem Lv{B:cF}{k:Env→H→Option X}{e:Env}{h:H}{r:X}:∀{l:List Shape},xg B k e h l=some r→∃(s:Shape)(x:s.den),s.fit B [] e h=some x∧k (s.e x) (s.h x)=some r
 |[],hk=>by simp[xg]at hk
 |s :: ss,hk=>by
  simp only[xg]at hk;split at hk
  ·rename_i x hf;exact⟨s,x,hf,hk⟩
  ·exact Lv hk
theorem uP{B:cF}{k:Env→H→Option X}{i:Nat}{e:Env}{h:H}{r:X}:∀{l:List (Nat×Shape)},xh B k i e h l=some r→∃(s:Shape)(x:s.den),s.fit B [] e h=some x∧k (s.e x) (s.h x)=some r
 |[],hk=>by simp[xh]at hk
 | (j,s)::ss,hk=>by
  simp only[xh]at hk;cases hb:aah j i
  ·rw[hb,cond_false]at hk;exact uP hk
  ·rw[hb,cond_true]at hk;split at hk
   ·rename_i x hf;exact⟨s,x,hf,hk⟩
   ·exact uP hk
def oY (B:cF) (Y:Ys) (head:Shape) (rH:List (Nat×Shape)) (mr:List Shape) (L:head.den→Option X) (ks:Ks X):Ks X:=
 { iw:=fun e h=>match head.fit B Y e h with
    |some s=>L s
    |none=>none
   ex:=fun i e h=>xh B (ks.ex i) i e h rH
   ret:=fun e h=>xg B ks.ret e h mr }
def uQ(B:cF)(iw:List Shape)(rH:List (Nat×Shape))(mr:List Shape)(ks:Ks X):Ks X:=
 { iw:=fun e h=>xg B ks.iw e h iw
   ex:=fun i e h=>xh B (ks.ex i) i e h rH
   ret:=fun e h=>xg B ks.ret e h mr }
def F6(e:Env)(h:H):ResultVar→Option AV
 |.tmp t=>some (get e t)
 |.cell a t=>match cx.tab t with
  |some ti=>mZ ti (get e a) h
  |none=>none
def uR(e:Env)(h:H):List ResultVar→Option (List AV)
 |[]=>some []
 | r :: rs=>match F6 cx e h r with
  |some v=>match uR e h rs with
   |some vs=>some (v::vs)
   |none=>none
  |none=>none
def na:List AV→AV
 |[v]=>v
 |vs => .cr vs
def sB:Nat→List AV→Env
 |_,[]=>[]
 |n,v::vs=>(n,v)::sB (n+1) vs
def fin(kp:Bool)(fn:Func)(k:AV→H→Option X)(e:Env)(h:H):Option X:=
 match uR cx e h fn.results.toList with
 |some vs=>bif kp then k (na vs) h else vP vs h fun vs h=>k (na vs) h
 |none=>none
def rC(h:H):cF:=⟨h.bx.length,h.tk.length,h.lp.length⟩
noncomputable def DJ(O:Open X)(d:Nat)(g:Nat)(args:List AV)(Y:Ys)(h:H)(k:AV→H→Option X):Option X:=
 match cx.fns g with
 |some fn=>match fn.body with
  |some c=>bif aaJ args.length fn.ntmps then exec cx O ⟨g,fn.ntmps,rC h,d⟩ Y c { iw:=fin cx (cx.eJ g) fn k,ex:=fun _ _ _=>none,ret:=fin cx (cx.eJ g) fn k } (sB 0 args) h else none
  |none=>none
 |none=>none
noncomputable def runT(O:Open X)(d:Nat)(T q:Nat)(g:Nat)(args:List AV)(Y:Ys)(h:H)(k:AV→H→Option X):Option X:=
 match cx.fns g with
 |some fn=>match fn.body with
  |some c=>bif aaJ args.length fn.ntmps then exec cx O ⟨g,fn.ntmps,rC h,d⟩ Y c { iw:=fin cx (cx.eJ g) fn k,ex:=fun i _ h=>bif aah i (mJ*(T+1)+q)&&aap q mJ then k (.cr []) h else none,ret:=fin cx (cx.eJ g) fn k } (sB 0 args) h else none
  |none=>none
 |none=>none
noncomputable def zY(O:Open X)(d:Nat)(j:Nat)(hd:HD)(args:List AV)(Y:Ys)(h:H)(k:AV→H→Option X):Option X:=
 match cx.lr hd.g hd.i with
 | some (N,_,ps,aS,b)=>match params N hd.e ps args with
  | some e1 => exec cx O ⟨hd.g,N,rC h,d⟩ Y aS
   { iw := fun e2 h2=>match nth h2.lp j with
      |some .ready=>exec cx O ⟨hd.g,N,rC h,d⟩ Y b
       { iw:=fun _ h3=>k (.bool true) (jE h3 j .ready)
         ex:=fun i _ h3=>bif aap i mJ then k (.bool false) (jE h3 j (.done (.ex i)))else none
         ret:=fun _ h3=>k (.bool false) (jE h3 j (.done .ret)) } e2 (jE h2 j .busy)
      |_=>none
     ex:=fun _ _ _=>none
     ret:=fun _ _=>none } e1 h
  |none=>none
 |none=>none
noncomputable def inl:Nat→Open X
 |0=>fun _ _ _ _=>none
 |d+1=>fun t Y h k=>match t with
  |.call g args=>DJ cx (inl d) d g args Y h k
  |.round j hd args=>zY cx (inl d) d j hd args Y h k
  |.Bq T q g args=>runT cx (inl d) d T q g args Y h k
def uS(tk:List (Option Nat))(n:Nat):Cap→Cap→Bool
 |.eY,_=>true
 |.fresh,.own t=>match nth tk t with
  |some (some k)=>aah k n
  |_=>false
 |.fresh,.full=>true
 |_,_=>false
def F7(τ:Ty)(c:Cap)(tk:List (Option Nat))(a:AV):Option (List τ.den×List (Option Nat)):=
 match a with
 |.sl τ' l c'=>bif uS tk l.length c c' then(match gW τ' τ l with
  |some l=>some (l,match c,c' with |.fresh,.own t=>dF tk t none |_,_=>tk)
  |none=>none)else none
 |.fe=>match c with
  |.eY=>some ([],tk)
  |_=>none
 |_=>none
mutual
def qz:(s:SV)→List (Option Nat)→AV→Option (s.den×List (Option Nat))
 |.int k,tk,a=>match a with
  |.int k' n=>if k=k' then some (n,tk)else none
  |_=>none
 |.bool,tk,a=>match a with
  |.bool b=>some (b,tk)
  |_=>none
 |.str,tk,a=>match a with
  |.str l=>some (l,tk)
  |_=>none
 |.sl τ c,tk,a=>F7 τ c tk a
 |.err,tk,a=>match a with
  |.err b=>some (b,tk)
  |_=>none
 |.const v,tk,a=>bif v.beq a&&okF 0 0 0 v then some ((),tk)else none
 |.agg vs,tk,a=>match a with
  |.agg cs=>y1 vs tk cs
  |_=>none
 |.fn _ _ _,_,_=>none
 |.row _,_,_=>none
 |.ms _ _,_,_=>none
 |.mp,_,_=>none
def y1:(vs:List SV)→List (Option Nat)→List AV→Option (sdenL vs×List (Option Nat))
 |[],tk,cs=>match cs with
  |[]=>some ((),tk)
  |_=>none
 | v :: vs,tk,cs=>match cs with
  | c :: cs=>match qz v tk c with
   |some x=>match y1 vs x.2 cs with
    |some y=>some ((x.1,y.1),y.2)
    |none=>none
   |none=>none
  |[]=>none
end
inductive RV where
 |one (s:SV) |many (vs:List SV)
@[reducible] def RV.den:RV→Type
  |.one s=>s.den
  |.many vs=>sdenL vs
def RV.enc:(r:RV)→r.den→AV
 |.one s,x=>s.enc x
 |.many vs,x => .cr (kl vs x)
def RV.dec(r:RV)(tk:List (Option Nat))(a:AV):Option r.den:=
 match r with
 |.one s=>match qz s tk a with
  |some x=>some x.1
  |none=>none
 | .many vs=>match a with
  |.cr cs=>match y1 vs tk cs with
   |some x=>some x.1
   |none=>none
  |_=>none
end
noncomputable def closed(r:RV)(cx:Cx r.den)(d:Nat)(g:Nat)(args:List AV):Option r.den:=
 DJ cx (inl cx d) d g args [] ⟨[],[],[]⟩ fun v h=>r.dec h.tk v
end Go.AM
namespace Go.AM
open Go.RowKit
def bf{α:Type}(p:α→List Value→Prop):List α→List Value→Prop
 |[],us=>us=[]
 |x::l,us=>∃v1 v2,us=v1++v2∧p x v1∧bf p l v2
theorem bf.mono{α:Type}{p q:α→List Value→Prop}:∀(l:List α)(us:List Value),(∀x∈l,∀vs,p x vs→q x vs)→bf p l us→bf q l us
 |[],us,_,h=>h
 |x::l,us,hpq,h=>by obtain⟨v1,v2,e,h1,h2⟩:=h;exact⟨v1,v2,e,hpq x (by simp) v1 h1,bf.mono l v2 (fun y hy=>hpq y (by simp[hy])) h2⟩
theorem bf.append{α:Type}{p:α→List Value→Prop}:∀{l m:List α}{us vs:List Value},bf p l us→bf p m vs→bf p (l++m) (us++vs)
 |[],m,us,vs,h,k=>by have:us=[]:=h;subst this;simpa using k
 |x::l,m,us,vs,h,k=>by obtain⟨v1,v2,rfl,h1,h2⟩:=h;exact⟨v1,v2++vs,by simp,h1,bf.append h2 k⟩
theorem bf.length{α:Type}{p:α→List Value→Prop}{sz:Nat}(hp:∀x vs,p x vs→vs.length=sz):∀{l:List α}{us:List Value},bf p l us→us.length=l.length*sz
 |[],us,h=>by have:us=[]:=h;simp[this]
 |x::l,us,h=>by obtain⟨v1,v2,rfl,h1,h2⟩:=h;rw[aav,hp _ _ h1,bf.length hp h2,aaR,aaq];omega
theorem bf.at{α:Type}{p:α→List Value→Prop}{sz:Nat}(hp:∀x vs,p x vs→vs.length=sz):∀{l:List α}{us:List Value},bf p l us→∀(i:Nat)(x:α),l[i]? = some x→p x ((us.drop (i*sz)).take sz)
 |[],us,h,i,x,hx=>by simp at hx
 |y::l,us,h,0,x,hx=>by obtain⟨v1,v2,rfl,h1,h2⟩:=h;simp at hx;subst hx;have:=hp _ _ h1;simpa[←this]using h1
 |y::l,us,h,i+1,x,hx=>by obtain⟨v1,v2,rfl,h1,h2⟩:=h;have h0:=hp _ _ h1;have:=bf.at hp h2 i x (by simpa using hx);rw[show(i+1)*sz=v1.length+i*sz from by rw[aaq,h0];omega];rw[abp,aaD (abq _ _)];simpa using this
theorem bf.sub{α:Type}{p:α→List Value→Prop}{sz:Nat}(hp:∀x vs,p x vs→vs.length=sz):∀{l:List α}{us:List Value},bf p l us→∀(a b:Nat),a≤b→b≤l.length→bf p ((l.take b).drop a) ((us.take (b*sz)).drop (a*sz))
 |[],us,h,a,b,Cy,hb=>by have:us=[]:=h;subst this;simp at hb;subst hb;simp[bf]
 |y::l,us,h,a,0,Cy,hb=>by
  have:a=0:=by omega
  subst this;simp[bf]
 |y::l,us,h,0,b+1,Cy,hb=>by obtain⟨v1,v2,rfl,h1,h2⟩:=h;have h0:=hp _ _ h1;have:=bf.sub hp h2 0 b (by omega) (by simpa using hb);refine⟨v1,v2.take (b*sz),?_,h1,by simpa using this⟩;rw[show(b+1)*sz=v1.length+b*sz from by rw[aaq,h0];omega];rw[List.take_append,aaM (abq _ _)];simp
 |y::l,us,h,a+1,b+1,Cy,hb=>by obtain⟨v1,v2,rfl,h1,h2⟩:=h;have h0:=hp _ _ h1;have:=bf.sub hp h2 a b (by omega) (by simpa using hb);rw[show(b+1)*sz=v1.length+b*sz from by rw[aaq,h0];omega,show(a+1)*sz=v1.length+a*sz from by rw[aaq,h0];omega];rw[List.take_append,aaM (abq _ _),abp,aaD (abq _ _)];simpa using this
mutual
def al(w:World)(D:Nat→Nat→Prop):(τ:Ty)→τ.den→List Value→Prop
 |.u8,b,vs=>vs=[.int .u8 b.toNat]
 |.iX _,b,vs=>vs=[.int .u8 b.toNat]
 |.int k,n,vs=>(k = .u8→0≤n∧n<256)∧vs=[.int k n]
 |.bool,b,vs=>vs=[.bool b]
 |.str,s,vs=>s.length≤ai∧∃bs:ByteArray,vs=[.string bs]∧bs.data.toList=s
 |.sl e,l,vs=>l.length≤ai∧∃A c us,vs=[.slice A l.length c]∧l.length≤c∧bf (fun x us=>al w D e x us) l us ∧
  (0<l.length→∃b o,A=some ⟨b,o,none⟩∧∀(j:Nat)(u:Value),us[j]? = some u→D b (o+j)∧w.cell? ⟨b,o+j,none⟩=some u)
 |.agg ts,x,vs=>eU w D ts x vs
def eU(w:World)(D:Nat→Nat→Prop):(ts:List Ty)→denL ts→List Value→Prop
 |[],_,vs=>vs=[]
 |[t],x,vs=>al w D t x vs
 |t::u::us,(x,y),vs=>∃v1 v2,vs=v1++v2∧al w D t x v1∧eU w D (u::us) y v2
end
structure Tk where
 n:Nat
 A:Option Nat
 cap:Nat
 sz:Nat
structure sC where
 l:Nat
 st:Loop
structure tz where
 v:Nat
 len:Nat
 cap:Nat
 sz:Nat
structure GS where
 D:Nat→Nat→Prop
 bx:List (Option Nat)
 tk:List (Option Tk)
 lp:List sC
 df:List Nat
 bv:Nat→tz
def rI:Nat→tz:=fun _=>⟨0,0,0,0⟩
def qA(G:GS)(v:Value)(len sz:Nat):Cap→Prop
 |.full=>∃A,v = .slice A len len
 |.own t=>∃o,G.tk[t]? = some o∧∀g,o=some g→len≤g.n∧(len=g.n→g.sz=sz∧∃A,v = .slice A len g.cap∧(len<g.cap→∃b,A=some ⟨b,0,none⟩∧g.A=some b))
 |.eY=>True
 |.fresh=>True
inductive af (w:World) (G:GS):Value→AV→Prop
 |any (v:Value):af w G v .any
 |bool (b:Bool):af w G (.bool b) (.bool b)
 |int (k:IntKind) (n:Int) (h:k = .u8→0≤n∧n<256):af w G (.int k n) (.int k n)
 |str (s:ByteArray) (l:List UInt8) (h:s.data.toList=l) (hl:l.length≤ai):af w G (.string s) (.str l)
 |sl (τ:Ty) (l:List τ.den) (c:Cap) (v:Value) (h:al w G.D (.sl τ) l [v]) (hc:qA G v l.length τ.size c):af w G v (.sl τ l c)
 |fe:af w G (.slice none 0 0) .fe
 |agg (vs:Array Value) (cs:List AV) (hl:vs.size=cs.length) (h:∀(i:Nat)(v:Value)(c:AV),vs[i]? = some v→cs[i]? = some c→af w G v c):af w G (.agg vs) (.agg cs)
 |cr (vs:Array Value) (cs:List AV) (hl:vs.size=cs.length) (h:∀(i:Nat)(v:Value)(c:AV),vs[i]? = some v→cs[i]? = some c→af w G v c):af w G (.tuple vs) (.cr cs)
 |fX:af w G (.pointer none) .fX
 |ref (r off b:Nat) (h:G.bx[r]? = some (some b)) (hv:(G.bv r).v=0):af w G (.pointer (some ⟨b,off,none⟩)) (.ref r off)
 |ms (r v n:Nat) (τ:Ty) (x:Value) (h0:0<v) (hx:∃A c,x = .slice A n c∧(0<n→∃b o,A=some ⟨b,o,none⟩)) (h:∃q,G.bx[r]? = some q∧v≤(G.bv r).v∧((G.bv r).v=v→(G.bv r).sz=τ.size∧(G.bv r).len=n∧∃A,x = .slice A n (G.bv r).cap∧∀b,q=some b→A=some ⟨b,0,none⟩)):af w G x (.ms r v n τ)
 |ep (r v:Nat) (i:Int) (off:Nat) (τ:Ty) (x:Value) (h0:0<v) (hx:∃b o,x = .pointer (some ⟨b,o,none⟩)) (h:∃q,G.bx[r]? = some q∧v≤(G.bv r).v∧((G.bv r).v=v→(G.bv r).sz=τ.size∧0≤i∧i<(G.bv r).len∧∀b,q=some b→x = .pointer (some ⟨b,i.toNat*τ.size+off,none⟩))):af w G x (.ep r v i off τ)
 |iM (b o:Nat) (us:List Value) (cs:List AV) (hl:us.length=cs.length) (hm:∀(i:Nat)(u:Value),us[i]? = some u→G.D b (o+i)∧w.cell? ⟨b,o+i,none⟩=some u)
  (h:∀(i:Nat)(u:Value)(c:AV),us[i]? = some u→cs[i]? = some c→af w G u c):af w G (.pointer (some ⟨b,o,none⟩)) (.iM cs)
 |gp (n:Nat) (b o c:Nat) (us:List Value) (cs:List AV) (h0:0<n) (hc:n≤c) (hl:us.length=cs.length) (hm:∀(i:Nat)(u:Value),us[i]? = some u→G.D b (o+i)∧w.cell? ⟨b,o+i,none⟩=some u)
  (h:∀(i:Nat)(u:Value)(c:AV),us[i]? = some u→cs[i]? = some c→af w G u c):af w G (.slice (some ⟨b,o,none⟩) n c) (.gp n cs)
 |ea (r T b:Nat) (v:Value) (h:G.bx[r]? = some (some b)) (hv:(G.bv r).v=0) (hp:v = .pointer none∨v = .pointer (some ⟨b,0,none⟩)):af w G v (.ea r T)
 |gq (r b:Nat) (h:G.bx[r]? = some (some b)) (hv:(G.bv r).v=0):af w G (.map (some b)) (.gq r)
 |bl:af w G .nilFunc .bl
 |fn (f:Nat) (x y:Array Value) (a b:List AV) (hx:x.size=a.length) (h1:∀(i:Nat)(v:Value)(c:AV),x[i]? = some v→a[i]? = some c→af w G v c)
  (hy:y.size=b.length) (h2:∀(i:Nat)(v:Value)(c:AV),y[i]? = some v→b[i]? = some c→af w G v c):af w G (.func (.func f) x y) (.fn f a b)
 |yield (j:Nat) (p:sC) (h:G.lp[j]? = some p):af w G (.func (.yield p.l) #[] #[]) (.yield j)
 |jI:af w G .nilIface (.err false)
 |ky (t:TypeId) (x:Value):af w G (.iface t x) (.err true)
def ak(w:World)(G:GS)(vs:List Value)(cs:List AV):Prop:=vs.length=cs.length∧∀(i:Nat)(v:Value)(c:AV),vs[i]? = some v→cs[i]? = some c→af w G v c
def rD(a b:Option (Option Tk)):Prop:=∃o o',a=some o∧b=some o'∧(o'=none∨o'=o∨∃g g',o=some g∧o'=some g'∧g.n<g'.n)
structure Ext (B:cF) (G G':GS):Prop where
 D:∀b o,G.D b o→G'.D b o
 bx:∀r,r<B.nb→(G'.bx[r]? = G.bx[r]? ∧ G'.bv r=G.bv r)∨(0<(G.bv r).v∧(G.bv r).v<(G'.bv r).v∧∃b,G'.bx[r]? = some b)∨(G.bx[r]? = some none∧(G.bv r).v=0∧∃b,G'.bx[r]? = some b)
 tk:∀t,t<B.nt→rD G.tk[t]? G'.tk[t]?
 lp:∀j,j<B.nl→G'.lp[j]? = G.lp[j]?
 df:G'.df=G.df
def GS.base(G:GS):cF:=⟨G.bx.length,G.tk.length,G.lp.length⟩
def cF.le(A B:cF):Prop:=A.nb≤B.nb∧A.nt≤B.nt∧A.nl≤B.nl
def bg(D:Nat→Nat→Prop)(w w':World):Prop:=∀b o,D b o→w'.cell? ⟨b,o,none⟩=w.cell? ⟨b,o,none⟩
theorem rD.trans{a b c:Option (Option Tk)}(h:rD a b)(k:rD b c):rD a c:=by
 obtain⟨o,o',rfl,rfl,h⟩:=h;obtain⟨p,p',e,rfl,k⟩:=k;obtain rfl:=aaj e;refine⟨o,p',rfl,rfl,?_⟩;rcases k with rfl|rfl|⟨g,g',rfl,rfl,hk⟩
 ·exact .inl rfl
 ·exact h
 ·rcases h with h|h|⟨f,f',rfl,e,hh⟩
  ·cases h
  ·exact .inr (.inr ⟨g,g',h.symm,rfl,hk⟩)
  ·obtain rfl:=aaj e;exact .inr (.inr ⟨f,g',rfl,rfl,Nat.lt_trans hh hk⟩)
def zZ(a b:Option (Option Nat))(x y:tz):Prop:=(b=a∧y=x)∨(0<x.v∧x.v<y.v∧∃q,b=some q)∨(a=some none∧x.v=0∧∃q,b=some q)
theorem zmc{a b c:Option (Option Nat)}{x y z:tz}(h:zZ a b x y)(k:zZ b c y z):zZ a c x z:=by
 rcases h with⟨rfl,rfl⟩ |⟨h1,h2,q,rfl⟩ |⟨h1,h2,q,rfl⟩
 ·exact k
 ·rcases k with⟨rfl,rfl⟩ |⟨k1,k2,q',rfl⟩ |⟨k1,k2,q',rfl⟩
  ·exact .inr (.inl ⟨h1,h2,q,rfl⟩)
  ·exact .inr (.inl ⟨h1,by omega,q',rfl⟩)
  ·omega
 ·rcases k with⟨rfl,rfl⟩ |⟨k1,k2,q',rfl⟩ |⟨k1,k2,q',rfl⟩
  ·exact .inr (.inr ⟨h1,h2,q,rfl⟩)
  ·exact .inr (.inr ⟨h1,h2,q',rfl⟩)
  ·exact .inr (.inr ⟨h1,h2,q',rfl⟩)
theorem Ext.trans{B:cF}{G G1 G2:GS}(h:Ext B G G1)(k:Ext B G1 G2):Ext B G G2:=
 ⟨fun b o x=>k.D b o (h.D b o x),fun r hr=>zmc (h.bx r hr) (k.bx r hr),fun t ht=>(h.tk t ht).trans (k.tk t ht),
  fun j hj=>(k.lp j hj).trans (h.lp j hj),k.df.trans h.df⟩
theorem Ext.mono{A B:cF}{G G':GS}(h:Ext B G G')(hl:A.le B):Ext A G G':=⟨h.D,fun r hr=>h.bx r (abd hr hl.1),fun t ht=>h.tk t (abd ht hl.2.1),fun j hj=>h.lp j (abd hj hl.2.2),h.df⟩
theorem Ext.refl{B:cF}{G:GS}(h:B.le G.base):Ext B G G:=⟨fun _ _ x=>x,fun _ _ => .inl ⟨rfl,rfl⟩,fun t ht=>by have jF:t<G.tk.length:=abd ht h.2.1;exact⟨G.tk[t],G.tk[t],by simp[jF],by simp[jF],.inr (.inl rfl)⟩,fun _ _=>rfl,rfl⟩
theorem cF.le_refl(B:cF):B.le B:=⟨aaw _,aaw _,aaw _⟩
theorem cF.le_trans{A B C:cF}(h:A.le B)(k:B.le C):A.le C:=⟨aa5 h.1 k.1,aa5 h.2.1 k.2.1,aa5 h.2.2 k.2.2⟩
theorem bg.refl(D:Nat→Nat→Prop)(w:World):bg D w w:=fun _ _ _=>rfl
theorem bg.trans{D D':Nat→Nat→Prop}{w w1 w2:World}(h:bg D w w1)(hd:∀b o,D b o→D' b o)(k:bg D' w1 w2):bg D w w2:=fun b o x=>(k b o (hd b o x)).trans (h b o x)
mutual
theorem al.mono{w w':World}{D D':Nat→Nat→Prop}(hd:∀b o,D b o→D' b o)(hk:bg D w w'):∀(τ:Ty)(x:τ.den)(vs:List Value),al w D τ x vs→al w' D' τ x vs
 |.u8,x,vs,h=>by simpa[al]using h
 |.iX _,x,vs,h=>by simpa[al]using h
 |.int k,x,vs,h=>by simpa[al]using h
 |.bool,x,vs,h=>by simpa[al]using h
 |.str,x,vs,h=>by simpa[al]using h
 |.sl e,l,vs,h=>by simp only[al]at h ⊢;obtain⟨hl,A,c,us,hv,hc,bX,hr⟩:=h;refine⟨hl,A,c,us,hv,hc,bf.mono l us (fun x _ vs hx=>al.mono hd hk e x vs hx) bX,fun h0 => ?_⟩;obtain⟨b,o,ha,hr⟩:=hr h0;exact⟨b,o,ha,fun j u UT=>⟨hd _ _ (hr j u UT).1,(hk _ _ (hr j u UT).1).trans (hr j u UT).2⟩⟩
 |.agg ts,x,vs,h=>by simp only[al]at h ⊢;exact eU.mono hd hk ts x vs h
theorem eU.mono{w w':World}{D D':Nat→Nat→Prop}(hd:∀b o,D b o→D' b o)(hk:bg D w w'):∀(ts:List Ty)(x:denL ts)(vs:List Value),eU w D ts x vs→eU w' D' ts x vs
 |[],x,vs,h=>by simpa[eU]using h
 |[t],x,vs,h=>by simp only[eU]at h ⊢;exact al.mono hd hk t x vs h
 |t::u::us,(x,y),vs,h=>by simp only[eU]at h ⊢;obtain⟨v1,v2,e,h1,h2⟩:=h;exact⟨v1,v2,e,al.mono hd hk t x v1 h1,eU.mono hd hk (u::us) y v2 h2⟩
end
theorem qA.mono{G G':GS}{v:Value}{n sz:Nat}{c:Cap}(h:qA G v n sz c)(he:Ext G.base G G'):qA G' v n sz c:=by
 cases c with
 |full=>exact h
 |eY=>trivial
 |fresh=>trivial
 |own t =>
  obtain⟨o,ho,hg⟩:=h;have ht:t<G.tk.length:=by have:=(aaf.1 ho).1;exact this
  obtain⟨p,p',e1,e2,hs⟩:=he.tk t ht;rw[ho]at e1;obtain rfl:=aaj e1;refine⟨p',e2,fun g UU => ?_⟩;rcases hs with rfl|rfl|⟨f,f',rfl,rfl,bo⟩
  ·cases UU
  ·exact hg g UU
  ·obtain rfl:=aaj UU;obtain⟨h1,_⟩:=hg f rfl;exact⟨by omega,fun e=>by omega⟩
theorem af.mono{w w':World}{G G':GS}(he:Ext G.base G G')(hk:bg G.D w w'){v:Value}{a:AV}(h:af w G v a):af w' G' v a:=by
 induction h with
 |any v=>exact .any v
 |bool b=>exact .bool b
 |int k n h=>exact .int k n h
 |str s l h hl=>exact .str s l h hl
 |sl τ l c v h hc=>exact .sl τ l c v (al.mono he.D hk _ _ _ h) (hc.mono he)
 |fe=>exact .fe
 |agg vs cs hl _ ih=>exact .agg vs cs hl ih
 |cr vs cs hl _ ih=>exact .cr vs cs hl ih
 |fX=>exact .fX
 |ref r off b h hv =>
  rcases he.bx r (aaf.1 h).1 with⟨h1,h2⟩ |⟨h1,_,_⟩ |⟨h1,_,_⟩
  ·exact .ref r off b (h1.trans h) (by rw[h2];exact hv)
  ·omega
  ·rw[h]at h1;cases h1
 |ms r v n τ x h0 hs h =>
  obtain⟨b,hb,hp,hx⟩:=h;rcases he.bx r (aaf.1 hb).1 with⟨h1,h2⟩ |⟨h1,h2,b',kz⟩ |⟨_,h1,_⟩
  ·exact .ms r v n τ x h0 hs ⟨b,h1.trans hb,by rw[h2];exact hp,by rw[h2];exact hx⟩
  ·exact .ms r v n τ x h0 hs ⟨b',kz,by omega,fun e=>by omega⟩
  ·omega
 |ep r v i off τ x h0 hs h =>
  obtain⟨b,hb,hp,hx⟩:=h;rcases he.bx r (aaf.1 hb).1 with⟨h1,h2⟩ |⟨h1,h2,b',kz⟩ |⟨_,h1,_⟩
  ·exact .ep r v i off τ x h0 hs ⟨b,h1.trans hb,by rw[h2];exact hp,by rw[h2];exact hx⟩
  ·exact .ep r v i off τ x h0 hs ⟨b',kz,by omega,fun e=>by omega⟩
  ·omega
 |iM b o us cs hl hm _ ih=>exact .iM b o us cs hl (fun i u hu=>⟨he.D _ _ (hm i u hu).1,(hk _ _ (hm i u hu).1).trans (hm i u hu).2⟩) ih
 |gp n b o c us cs h0 hc hl hm _ ih=>exact .gp n b o c us cs h0 hc hl (fun i u hu=>⟨he.D _ _ (hm i u hu).1,(hk _ _ (hm i u hu).1).trans (hm i u hu).2⟩) ih
 |ea r T b v h hv hp =>
  rcases he.bx r (aaf.1 h).1 with⟨h1,h2⟩ |⟨h1,_,_⟩ |⟨h1,_,_⟩
  ·exact .ea r T b v (h1.trans h) (by rw[h2];exact hv) hp
  ·omega
  ·rw[h]at h1;cases h1
 |gq r b h hv =>
  rcases he.bx r (aaf.1 h).1 with⟨h1,h2⟩ |⟨h1,_,_⟩ |⟨h1,_,_⟩
  ·exact .gq r b (h1.trans h) (by rw[h2];exact hv)
  ·omega
  ·rw[h]at h1;cases h1
 |bl=>exact .bl
 |fn f x y a b hx _ hy _ i1 i2=>exact .fn f x y a b hx i1 hy i2
 |yield j p h=>exact .yield j p ((he.lp j (aaf.1 h).1).trans h)
 |jI=>exact .jI
 |ky t x=>exact .ky t x
theorem ak.mono{w w':World}{G G':GS}(he:Ext G.base G G')(hk:bg G.D w w'){vs:List Value}{cs:List AV}(h:ak w G vs cs):ak w' G' vs cs:=⟨h.1,fun i v c hv hc=>(h.2 i v c hv hc).mono he hk⟩
inductive iS (w:World) (G:GS) (r:Nat):List Value→List AV→Prop
 |box (vs:List Value) (cs:List AV) (h:isRow cs=false) (hv:(G.bv r).v=0) (hl:ak w G vs cs):iS w G r vs cs
 |row (vs:List Value) (v:Nat) (τ:Ty) (l:List τ.den) (cap:Nat) (h0:0<v) (hv:G.bv r=⟨v,l.length,cap,τ.size⟩) (hz:0<τ.size) (hc:l.length≤cap) (hm:l.length≤ai) (hs:vs.length=cap*τ.size)
  (hl:bf (fun x us=>al w G.D τ x us) l (vs.take (l.length*τ.size))) (h1:v=1→cap=l.length):iS w G r vs [.row v τ l]
def xi(G:GS)(r:Nat)(cs:List AV):Prop:=∃(v:Nat)(τ:Ty),cs=[.row v τ []]∧0<v∧0<τ.size∧G.bv r=⟨v,0,0,τ.size⟩
def ND(G:GS)(r:Nat)(cs:List AV):Prop:=xi G r cs∨(cs=hole∧(G.bv r).v=0)
theorem ak.oZ{w:World}{G:GS}{vs:List Value}{cs:List AV}(h:ak w G vs cs):isRow cs=false:=by
 cases cs with
 |nil=>rfl
 | cons c q =>
  cases c with
  |row v τ l =>
   have h0:0<vs.length:=by rw[h.1];simp
   have hx:=h.2 0 vs[0] (.row v τ l) (by simp[h0]) rfl;generalize vs[0]=u at hx;cases hx
  |mp l =>
   have h0:0<vs.length:=by rw[h.1];simp
   have hx:=h.2 0 vs[0] (.mp l) (by simp[h0]) rfl;generalize vs[0]=u at hx;cases hx
  |wq l =>
   have h0:0<vs.length:=by rw[h.1];simp
   have hx:=h.2 0 vs[0] (.wq l) (by simp[h0]) rfl;generalize vs[0]=u at hx;cases hx
  |_=>rfl
theorem iS.list{w:World}{G:GS}{r:Nat}{vs:List Value}{cs:List AV}(h:iS w G r vs cs)(hr:isRow cs=false):(G.bv r).v=0∧ak w G vs cs:=by
 cases h with
 |box _ h hv hl=>exact⟨hv,hl⟩
 |row=>cases hr
theorem xi.toB{G:GS}{r:Nat}{cs:List AV}(h:xi G r cs)(w:World):iS w G r [] cs:=by obtain⟨v,τ,rfl,h0,hz,hv⟩:=h;exact .row [] v τ [] 0 h0 (by simpa using hv) hz (aaw _) (Nat.zero_le _) (by simp) (by simp[bf]) (fun _=>rfl)
theorem iS.toN{w:World}{G:GS}{r:Nat}{cs:List AV}(h:iS w G r [] cs)(hv:0<(G.bv r).v):xi G r cs:=by
 cases h with
 |box _ _ h0 _=>omega
 | row v τ l cap h0 hb hz hc hm hs hl h1 =>
  have tA:cap=0:=by
   rcases Nat.eq_zero_or_pos cap with e|e
   ·exact e
   ·have:=Nat.mul_pos e hz;simp at hs;omega
  subst tA;have:l=[]:=aau (by omega);subst this;exact⟨v,τ,rfl,h0,hz,by simpa using hb⟩
theorem iS.eJ{w w':World}{G G':GS}{r:Nat}(he:Ext G.base G G')(hk:bg G.D w w')(ix:G'.bv r=G.bv r){vs:List Value}{cs:List AV}(h:iS w G r vs cs):iS w' G' r vs cs:=by
 cases h with
 |box _ h hv hl=>exact .box _ _ h (by rw[ix];exact hv) (hl.mono he hk)
 |row v τ l cap h0 hv hz hc hm hs hl h1=>exact .row _ v τ l cap h0 (by rw[ix];exact hv) hz hc hm hs (bf.mono _ _ (fun x _ us hx=>al.mono he.D hk τ x us hx) hl) h1
def o_(es:Array MapEntry)(l:List (List UInt8×Int)):Prop:=es.toList.map (fun x=>(x.key,x.val))=l.map fun p=>(Value.string ⟨p.1.toArray⟩,Value.int .i64 p.2)
def BB:Nat→List (Int×Nat)→List MapEntry
 |_,[]=>[]
 |i,(k,f)::l=>⟨.int .i64 k,.func (.func f) #[] #[],i⟩::BB (i+1) l
def nI(l:List (Int×Nat)):Array MapEntry:=(BB 0 l).toArray
inductive jB (w:World) (G:GS) (r:Nat):Obj→List AV→Prop
 |cells (vs:Array Value) (t:TypeId) (cs:List AV) (h:iS w G r vs.toList cs) (ht:∀T,iQ cs=some T→t=T):jB w G r (.cells vs t (0,0)) cs
 |mp (es:Array MapEntry) (c:Nat) (l:List (List UInt8×Int)) (hv:(G.bv r).v=0) (h:o_ es l):jB w G r (.map es c) [.mp l]
 |fm (l:List (Int×Nat)) (c:Nat) (hv:(G.bv r).v=0):jB w G r (.map (nI l) c) [.wq l]
theorem jB.eJ{w w':World}{G G':GS}{r:Nat}(he:Ext G.base G G')(hk:bg G.D w w')(ix:G'.bv r=G.bv r){ob:Obj}{cs:List AV}(h:jB w G r ob cs):jB w' G' r ob cs:=by
 cases h with
 |cells vs t cs h ht=>exact .cells vs t cs (h.eJ he hk ix) ht
 |mp es c l hv h=>exact .mp es c l (by rw[ix];exact hv) h
 |fm l c hv=>exact .fm l c (by rw[ix];exact hv)
theorem jB.list{w:World}{G:GS}{r:Nat}{ob:Obj}{cs:List AV}(h:jB w G r ob cs)(hr:isRow cs=false):∃vs t,ob = .cells vs t (0,0)∧(G.bv r).v=0∧ak w G vs.toList cs∧(∀T,iQ cs=some T→t=T):=by
 cases h with
 |cells vs t _ h ht =>obtain⟨h1,h2⟩:=h.list hr;exact⟨vs,t,rfl,h1,h2,ht⟩
 |mp=>cases hr
 |fm=>cases hr
theorem jB.row{w:World}{G:GS}{r v:Nat}{ob:Obj}{τ:Ty}{l:List τ.den}(h:jB w G r ob [.row v τ l]):∃vs t,ob = .cells vs t (0,0)∧iS w G r vs.toList [.row v τ l]∧oX τ t=true:=by
 cases h with
 |cells vs t _ h ht =>
  refine⟨vs,t,rfl,h,?_⟩;cases τ with
  |iX E=>rw[ht E rfl];simp[oX]
  |_=>rfl
theorem EG{τ:Ty}{t v:Nat}{l:List τ.den}(h:oX τ t=true):∀T,iQ [.row v τ l]=some T→t=T:=by
 intro T hT;cases τ with
 |iX E =>simp only[iQ,aag]at hT;subst hT;exact(aa3 h).symm
 |_=>simp[iQ]at hT
theorem UW{cs:List AV}(h:nT cs=true)(h2:isRow cs=false):∀T,iQ cs=some T→False:=by
 intro T hT;unfold iQ at hT;split at hT
 ·simp[nT]at h
 ·simp[isRow]at h2
 ·cases hT
def UX:Jmp→Code
 |.ret => .ret
 |.ex i => .exit i
def mW(a b:Loop):Prop:=a.fn=b.fn∧a.tmps=b.tmps∧a.params=b.params∧a.assign=b.assign∧a.body=b.body∧a.defers=b.defers
def tB(rec:Loop):LS→Prop
 |.ready=>rec.state = .ready∧rec.pending=none
 |.busy=>True
 |.done j=>rec.state = .done∧rec.pending=some (UX j)
def DK(B0:Nat)(G:GS)(w:World)(g:Tk):Prop:=
 g.n≤g.cap∧(g.n<g.cap→∃b,g.A=some b∧B0≤b∧some b∉G.bx∧∃cs et fr,w.heap[b]? = some (.cells cs et fr)∧g.cap*g.sz≤cs.size ∧
  ∀i,g.n*g.sz≤i→i<g.cap*g.sz→¬G.D b i∧w.frozen? ⟨b,i,none⟩=false)
structure Wd where
 w:World
 D:Nat→Nat→Prop
structure St (B0:Nat) (w0:Wd) (G:GS) (h:H) (w:World):Prop where
 below:Below B0 w0.w w
 b0:B0≤w.heap.size
 eb:h.bx.length=G.bx.length
 box:∀(r b:Nat)(cs:List AV),G.bx[r]? = some (some b)→h.bx[r]? = some cs→B0≤b∧∃ob,w.heap[b]? = some ob∧jB w G r ob cs
 fl:∀(r:Nat)(cs:List AV),G.bx[r]? = some none→h.bx[r]? = some cs→ND G r cs
 inj:∀(r r' b:Nat),G.bx[r]? = some (some b)→G.bx[r']? = some (some b)→r=r'
 ec:∀(b o:Nat),G.D b o→(∃u,w.cell? ⟨b,o,none⟩=some u)∧some b∉G.bx
 fo:∀(b o:Nat),G.D b o→w0.D b o∨B0≤b
 fO:h.tk=G.tk.map (abK Tk.n)
 tok:∀(t:Nat)(g:Tk),G.tk[t]? = some (some g)→DK B0 G w g
 gA:∀(t t':Nat)(g g':Tk),G.tk[t]? = some (some g)→G.tk[t']? = some (some g')→t≠t'→g.n<g.cap→g'.n<g'.cap→g.A≠g'.A
 fU:h.lp.length=G.lp.length
 loop:∀(j:Nat)(p:sC)(s:LS),G.lp[j]? = some p→h.lp[j]? = some s→B0≤p.l∧∃rec,w.heap[p.l]? = some (.loop rec)∧mW rec p.st∧tB rec s
 ie:∀(j j':Nat)(p p':sC),G.lp[j]? = some p→G.lp[j']? = some p'→p.l=p'.l→j=j'
 gu:∀(d:Nat),d∈G.df→B0≤d∧w.heap[d]? = some (.deferred (some []))
 ig:G.df.Nodup
theorem zo{α:Type}:∀(l:List α)(i:Nat),nth l i=l[i]?
 |[],i=>by cases i<;>rfl
 |a::l,0=>rfl
 |a::l,i+1=>by simp[nth,zo l i]
theorem zk{α:Type}:∀(l:List α)(i:Nat)(v:α),dF l i v=l.set i v
 |[],i,v=>by cases i<;>rfl
 |a::l,0,v=>rfl
 |a::l,i+1,v=>by simp[dF,zk l i]
theorem rJ{α:Type}:∀(n:Nat)(l:List α),nS n l=l.drop n
 |0,l=>rfl
 |n+1,[]=>rfl
 |n+1,a::l=>by simp[nS,rJ n l]
theorem tC{α:Type}:∀(n:Nat)(l:List α),uI n l=l.take n
 |0,l=>rfl
 |n+1,[]=>rfl
 |n+1,a::l=>by simp[uI,tC n l]
theorem EH{α:Type}:∀(n:Nat)(l r:List α),takeN n l=some r→r=l.take n∧r.length=n
 |0,l,r,h=>by simp[takeN]at h;simp[←h]
 |n+1,[],r,h=>by simp[takeN]at h
 |n + 1,a::l,r,h=>by
  simp only[takeN]at h;split at h
  ·rename_i q hq;obtain rfl:=aaj h;obtain⟨h1,h2⟩:=EH n l q hq;exact⟨by simp[h1],by simp[h2]⟩
  ·cases h
theorem bg.fB{D:Nat→Nat→Prop}{w w':World}{row:Option Nat}(hg:w.grownBy w' row)(hd:∀b o,D b o→∃u,w.cell? ⟨b,o,none⟩=some u)(hr:∀b o,D b o→row≠some b):bg D w w':=by intro b o h;obtain⟨u,hu⟩:=hd b o h;have bo:b<w.heap.size:=aay w _ hu;exact abr (hg.block b bo (fun e=>hr b o h e.symm))
theorem St.gH{B0:Nat}{w0:Wd}{G:GS}{h:H}{w w':World}(s:St B0 w0 G h w)(hg:w.grownBy w' none):St B0 w0 G h w':=by
 have hk:bg G.D w w':=bg.fB hg (fun b o x=>(s.ec b o x).1) (fun _ _ _=>by simp);have hx:Ext G.base G G:=Ext.refl (cF.le_refl _);have hb:∀b o,w.heap[b]? = some o→w'.heap[b]? = some o:=fun b o x =>(hg.block b (aak.1 x).1 (by simp)).trans x;exact
 { below:=s.below.grown hg s.b0 (by simp)
   b0:=aa5 s.b0 hg.size
   eb:=s.eb
   box:=fun r b cs h1 h2=>by obtain⟨hB,ob,hh,hr⟩:=s.box r b cs h1 h2;exact⟨hB,ob,hb _ _ hh,hr.eJ hx hk rfl⟩
   fl:=s.fl
   inj:=s.inj
   ec:=fun b o x=>by obtain⟨⟨u,hu⟩,hn⟩:=s.ec b o x;exact⟨⟨u,(hk b o x).trans hu⟩,hn⟩
   fo:=s.fo
   fO:=s.fO
   tok:=fun t g ht=>by obtain⟨h1,h2⟩:=s.tok t g ht;refine⟨h1,fun bo => ?_⟩;obtain⟨b,hA,hB,hn,cs,et,fr,hh,hc,hi⟩:=h2 bo;refine⟨b,hA,hB,hn,cs,et,fr,hb _ _ hh,hc,fun i F8 qB=>⟨(hi i F8 qB).1,?_⟩⟩;rw[abo (w:=w) (by rw[hh];exact hb _ _ hh)];exact(hi i F8 qB).2
   gA:=s.gA
   fU:=s.fU
   loop:=fun j p st h1 h2=>by obtain⟨hB,rec,hh,hr⟩:=s.loop j p st h1 h2;exact⟨hB,rec,hb _ _ hh,hr⟩
   ie:=s.ie
   gu:=fun d hd=>⟨(s.gu d hd).1,hb _ _ (s.gu d hd).2⟩
   ig:=s.ig }
end Go.AM
set_option linter.unusedSimpArgs false
namespace Go.AM
open Go.RowKit
theorem mu(b o j:Nat):(⟨b,o,none⟩:Addr).add j=⟨b,o+j,none⟩:=by unfold Addr.add;split<;>simp_all
theorem sD(w:World)(G:GS):af w G undef (.cr []):=.cr #[] [] rfl (by intro i v c h;simp at h)
structure eN (w:World) (G:GS) (N:Nat) (tmps:Array Value) (e:Env):Prop where
 size:tmps.size=N
 rep:∀t:Nat,af w G (tmps.getD t undef) (get e t)
theorem eN.mono{w w':World}{G G':GS}{N:Nat}{tmps:Array Value}{e:Env}(h:eN w G N tmps e)(he:Ext G.base G G')(hk:bg G.D w w'):eN w' G' N tmps e:=⟨h.size,fun t=>(h.rep t).mono he hk⟩
theorem Lw(d:Nat)(v:AV)(e:Env)(t:Nat):get ((d,v)::e) t=if d=t then v else get e t:=by
 simp only[get];by_cases h:d=t
 ·subst h;simp
 ·rw[if_neg h];have:aah d t=false:=by
   cases hb:aah d t
   ·rfl
   ·exact absurd (aa3 hb) h
  rw[this];rfl
theorem eN.put{w:World}{G:GS}{N:Nat}{tmps:Array Value}{e:Env}(h:eN w G N tmps e){d:Nat}{v:Value}{a:AV}(hd:d<N)(hv:af w G v a):eN w G N (tmps.setIfInBounds d v) ((d,a)::e):=by
 refine⟨by simp[h.size],fun t => ?_⟩;rw[Lw];by_cases ht:d=t
 ·subst ht;rw[if_pos rfl];have:(tmps.setIfInBounds d v).getD d undef=v:=by simp[Array.getD,h.size,hd]
  rw[this];exact hv
 ·rw[if_neg ht];have:(tmps.setIfInBounds d v).getD t undef=tmps.getD t undef:=by simp only[Array.getD_eq_getD_getElem?];rw[Array.getElem?_setIfInBounds_ne ht]
  rw[this];exact h.rep t
theorem jZ{a b:Nat}:aaJ a b=true↔a≤b:=⟨Nat.le_of_ble_eq_true,Nat.ble_eq_true_of_le⟩
theorem eV{a b:Nat}:aap a b=true↔a<b:=by simp[aap,jZ,Nat.succ_le_iff]
theorem b_{a b:Nat}:aah a b=true↔a=b:=⟨aa3,fun h=>by subst h;exact Nat.beq_refl a⟩
theorem zf{X:Type}{c:Bool}{x:Option X}{r:X}(h:(bif c then x else none)=some r):c=true∧x=some r:=by
 cases c
 ·cases h
 ·exact⟨rfl,h⟩
theorem zte(w:World)(G:GS)(v:Value):af w G v (uG v):=by
 cases v with
 |bool b=>exact .bool b
 | int k n =>
  by_cases hk:k = .u8
  ·subst hk;simp only[uG];cases hc:decide (0≤n)&&decide (n<256)
   ·exact .any _
   ·simp only[aax,decide_eq_true_eq]at hc;exact .int _ _ fun _=>hc
  ·have:uG (.int k n) = .int k n:=by cases k<;>first|rfl|exact absurd rfl hk
   rw[this];exact .int _ _ fun e=>absurd e hk
 |string s =>
  simp only[uG];cases hc:aaJ s.data.size ai
  ·exact .any _
  ·exact .str _ _ rfl (by simpa using jZ.1 hc)
 |pointer a=>cases a with
  |none=>exact .fX
  |some a=>exact .any _
 | slice a n c =>
  cases a with
  | none =>
   cases n with
   |zero=>cases c with
    |zero=>exact .fe
    |succ c=>exact .any _
   |succ n=>exact .any _
  |some a=>exact .any _
 | func f x y=>cases f with
  |func f =>
   simp only[uG];cases hc:aah x.size 0&&aah y.size 0
   ·exact .any _
   ·simp only[aax,b_]at hc;refine .fn f x y [] [] hc.1 (fun i v c _ h=>by simp at h) hc.2 (fun i v c _ h=>by simp at h)
  |_=>exact .any _
 |nilFunc=>exact .bl
 |nilIface=>exact .jI
 |_=>exact .any _
theorem eN.ev{w:World}{G:GS}{N:Nat}{a:Act}{e:Env}(h:eN w G N a.tmps e)(x:Operand):af w G (a.eval x) (ev e x):=by
 cases x with
 |tmp t=>exact h.rep t
 |const v=>exact zte w G v
 |global g=>exact .any _
 |func f=>exact .fn f #[] #[] [] [] rfl (by simp) rfl (by simp)
theorem iZ{w:World}{G:GS}{v:Value}{a:AV}(h:af w G v a)(ty:Option Ty):af w G v (kf ty a):=by
 cases a with
 | fe =>
  cases ty with
  |none=>exact h
  |some τ =>
   cases τ with
   |sl e =>cases h;refine .sl e [] .full _ ?_ ⟨none,rfl⟩;simp only[al];exact⟨by simp,none,0,[],rfl,by simp,rfl,fun h=>by simp at h⟩
   |_=>exact h
 |_=>exact h
theorem zmd:∀(ts:List Ty)(cs:List AV),(vN ts cs).length=cs.length
 |[],_=>rfl
 |_::_,[]=>rfl
 |_::ts,_::cs=>by simp[vN,zmd ts cs]
theorem zme:∀(ts:List Ty)(cs:List AV)(i:Nat)(c:AV),(vN ts cs)[i]? = some c→∃c0 ty,cs[i]? = some c0∧(c=kf ty c0∨c=c0)
 |[],cs,i,c,h=>⟨c,none,h,.inr rfl⟩
 |_::_,[],i,c,h=>by simp[vN]at h
 |t::ts,a::cs,0,c,h=>by simp only[vN,List.getElem?_cons_zero,aag]at h;exact⟨a,some t,rfl,.inl h.symm⟩
 |t::ts,a::cs,i+1,c,h=>by simp only[vN,List.getElem?_cons_succ]at h;simpa using zme ts cs i c h
theorem zwp{w:World}{G:GS}{v:Value}{a:AV}(h:af w G v a)(ty:Option Ty):af w G v (Bs ty a):=by
 unfold Bs;split
 ·cases h with
  |agg vs cs hl hc =>
   refine .agg vs _ (by rw[zmd];exact hl) fun i v c hv qC => ?_;obtain⟨c0,t,h0,F9⟩:=zme _ _ i c qC;have:=hc i v c0 hv h0;rcases F9 with rfl|rfl
   ·exact iZ this t
   ·exact this
 ·exact iZ h _
theorem wu{w:World}{G:GS}{v:Value}{a:AV}(h:af w G v a)(ha:a ≠ .any):ak w G v.cells.toList (cellsOf a):=by
 have one:∀(u:Value)(c:AV),af w G u c→ak w G [u] [c]:=fun u c hu=>⟨rfl,fun i v c' hv hc=>by
  cases i with
  |zero=>simp at hv hc;subst hv;subst hc;exact hu
  |succ i=>simp at hv⟩
 cases h with
 |any=>exact absurd rfl ha
 |agg vs cs hl h=>exact⟨by simpa[Value.cells,cellsOf]using hl,fun i v c hv hc=>h i v c (by simpa[Value.cells]using hv) hc⟩
 |sl τ l c v h hc =>have h':=h;simp only[al]at h;obtain⟨_,A,cc,_,hv,_⟩:=h;simp at hv;subst hv;exact one _ _ (.sl τ l c _ h' hc)
 |bool b=>exact one _ _ (.bool b)
 |int k n h=>exact one _ _ (.int k n h)
 |str s l h hl=>exact one _ _ (.str s l h hl)
 |fe=>exact one _ _ .fe
 |cr vs cs hl h=>exact one _ _ (.cr vs cs hl h)
 |fX=>exact one _ _ .fX
 |ref r off b h hv=>exact one _ _ (.ref r off b h hv)
 |ms r v n τ x h0 hs h =>have jc:=hs;obtain⟨A,c,rfl,_⟩:=hs;exact one _ _ (.ms r v n τ _ h0 jc h)
 |ep r v i off τ x h0 hs h =>have jc:=hs;obtain⟨b1,o1,rfl⟩:=hs;exact one _ _ (.ep r v i off τ _ h0 jc h)
 |iM b o us cs hl hm h=>exact one _ _ (.iM b o us cs hl hm h)
 |gp n b o c us cs h0 hc hl hm h=>exact one _ _ (.gp n b o c us cs h0 hc hl hm h)
 |ea r T b v h hv hp =>
  rcases hp with e|e
  ·subst e;exact one _ _ (.ea r T b _ h hv (.inl rfl))
  ·subst e;exact one _ _ (.ea r T b _ h hv (.inr rfl))
 |gq r b h hv=>exact one _ _ (.gq r b h hv)
 |bl=>exact one _ _ .bl
 |fn f x y a b hx h1 hy h2=>exact one _ _ (.fn f x y a b hx h1 hy h2)
 |yield j p h=>exact one _ _ (.yield j p h)
 |jI=>exact one _ _ .jI
 |ky t x=>exact one _ _ (.ky t x)
theorem wv{a:AV}(h:0<(cellsOf a).length):a ≠ .any:=by rintro rfl;simp[cellsOf]at h
theorem z0m{w:World}{G:GS}{v:Value}{a:AV}(h:af w G v a)(h1:vL a=true):v.oneCell'=true:=by
 cases h with
 |any=>simp[vL]at h1
 |agg=>simp[vL]at h1
 |cr=>simp[vL]at h1
 |ea=>simp[vL]at h1
 |sl τ l c v h hc =>simp only[al]at h;obtain⟨_,A,cc,_,hv,_⟩:=h;simp at hv;subst hv;rfl
 |ms r v n τ x h0 hs h =>obtain⟨A,c,rfl,_⟩:=hs;rfl
 |ep r v i off τ x h0 hs h =>obtain⟨b1,o1,rfl⟩:=hs;rfl
 |_=>rfl
theorem UY{w:World}{G:GS}:∀{vs:List Value}{cs:List AV},ak w G vs cs→tf cs=true→∀v∈vs,v.oneCell'=true
 |[],_,_,_,v,h=>by cases h
 |u::vs,[],h,_,v,hv=>by have:=h.1;simp at this
 |u::vs,c::cs,h,h1,v,hv=>by
  simp only[tf,aax]at h1;cases hv with
  |head=>exact z0m (h.2 0 _ _ rfl rfl) h1.1
  |tail _ hv=>exact UY (vs:=vs) (cs:=cs) ⟨by simpa using h.1,fun i v c h2 h3=>h.2 (i+1) v c (by simpa using h2) (by simpa using h3)⟩ h1.2 v hv
theorem ak.take{w:World}{G:GS}{vs:List Value}{cs:List AV}(h:ak w G vs cs)(n:Nat):ak w G (vs.take n) (cs.take n):=
 ⟨by simp[h.1],fun i v c hv hc=>by
  rw[aaN]at hv hc;split at hv
  ·rename_i hi;rw[if_pos hi]at hc;exact h.2 i v c hv hc
  ·cases hv⟩
theorem ak.drop{w:World}{G:GS}{vs:List Value}{cs:List AV}(h:ak w G vs cs)(n:Nat):ak w G (vs.drop n) (cs.drop n):=⟨by simp[h.1],fun i v c hv hc=>h.2 (n+i) v c (by simpa using hv) (by simpa using hc)⟩
theorem ak.append{w:World}{G:GS}{vs us:List Value}{cs ds:List AV}(h:ak w G vs cs)(k:ak w G us ds):ak w G (vs++us) (cs++ds):=
 ⟨by simp[h.1,k.1],fun i v c hv hc=>by
  by_cases hi:i<vs.length
  ·rw[aai hi]at hv;rw[aai (by rw[←h.1];exact hi)]at hc;exact h.2 i v c hv hc
  ·rw[aal (by omega)]at hv;rw[aal (by rw[←h.1];omega),←h.1]at hc;exact k.2 _ v c hv hc⟩
theorem ak.nil{w:World}{G:GS}:ak w G [] []:=⟨rfl,fun i v c h=>by simp at h⟩
theorem ak.cons{w:World}{G:GS}{v:Value}{c:AV}{vs:List Value}{cs:List AV}(h:af w G v c)(k:ak w G vs cs):ak w G (v::vs) (c::cs):=
 ⟨by simp[k.1],fun i u d hu hd=>by
  cases i with
  |zero=>simp at hu hd;subst hu;subst hd;exact h
  |succ i=>exact k.2 i u d (by simpa using hu) (by simpa using hd)⟩
theorem ak.tail{w:World}{G:GS}{v:Value}{c:AV}{vs:List Value}{cs:List AV}(h:ak w G (v::vs) (c::cs)):af w G v c∧ak w G vs cs:=⟨h.2 0 v c rfl rfl,by simpa using h.1,fun i u d hu hd=>h.2 (i+1) u d (by simpa using hu) (by simpa using hd)⟩
mutual
theorem tD{w:World}{G:GS}:∀(τ:Ty)(x:τ.den)(vs:List Value),al w G.D τ x vs→ak w G vs (τ.cells x)
 |.u8,x,vs,h=>by simp only[al]at h;subst h;simp only[Ty.cells];exact .cons (.int _ _ fun _=>⟨by omega,by have:=x.toNat_lt;omega⟩) .nil
 |.iX _,x,vs,h=>by simp only[al]at h;subst h;simp only[Ty.cells];exact .cons (.int _ _ fun _=>⟨by omega,by have:=UInt8.toNat_lt x;omega⟩) .nil
 |.int k,x,vs,h=>by simp only[al]at h;obtain⟨hk,rfl⟩:=h;simp only[Ty.cells];exact .cons (.int _ _ hk) .nil
 |.bool,x,vs,h=>by simp only[al]at h;subst h;simp only[Ty.cells];exact .cons (.bool _) .nil
 |.str,x,vs,h=>by simp only[al]at h;obtain⟨hl,bs,rfl,hs⟩:=h;simp only[Ty.cells];exact .cons (.str _ _ hs hl) .nil
 |.sl e,l,vs,h=>by have h':=h;simp only[al]at h;obtain⟨_,A,c,_,rfl,_⟩:=h;simp only[Ty.cells];exact .cons (.sl e l .eY _ h' trivial) .nil
 |.agg ts,x,vs,h=>by simp only[al]at h;simp only[Ty.cells];exact zg6 ts x vs h
theorem zg6{w:World}{G:GS}:∀(ts:List Ty)(x:denL ts)(vs:List Value),eU w G.D ts x vs→ak w G vs (mD ts x)
 |[],x,vs,h=>by simp only[eU]at h;subst h;exact .nil
 |[t],x,vs,h=>by simp only[eU]at h;simp only[mD];exact tD t x vs h
 |t::u::us,(x,y),vs,h=>by simp only[eU]at h;obtain⟨v1,v2,rfl,h1,h2⟩:=h;simp only[mD];exact(tD t x v1 h1).append (zg6 (u::us) y v2 h2)
end
mutual
theorem UZ:∀(τ:Ty)(x:τ.den),(τ.cells x).length=τ.size
 |.u8,x=>rfl
 |.iX _,x=>rfl
 |.int k,x=>rfl
 |.bool,x=>rfl
 |.str,x=>rfl
 |.sl e,l=>rfl
 |.agg ts,x=>by simp only[Ty.cells,Ty.size];exact zg7 ts x
theorem zg7:∀(ts:List Ty)(x:denL ts),(mD ts x).length=lq ts
 |[],x=>rfl
 |[t],x=>by simp only[mD,lq,abt];exact UZ t x
 |t::u::us,(x,y)=>by have h:=zg7 (u::us) y;simp only[mD,aav,lq]at h ⊢;rw[UZ t x,h]
end
theorem i_{w:World}{D:Nat→Nat→Prop}{τ:Ty}{x:τ.den}{vs:List Value}(h:al w D τ x vs):vs.length=τ.size:=by have:=(tD (w:=w) (G:=⟨D,[],[],[],[],rI⟩) τ x vs h).1;rw[this,UZ]
end Go.AM
namespace Go.AM
open Go.RowKit
def F_(P:Program)(t:Nat):TD→Prop
 |.int k=>P.underlying t=some (.int k)
 |.bool=>P.underlying t=some .bool
 |.str=>P.underlying t=some .string
 |.slice e=>P.underlying t=some (.slice e)
 |.arr n e=>P.underlying t=some (.array n e)
 |.struct fs=>∃fields:Array Field,P.underlying t=some (.struct fields)∧fields.toList.map (fun f=>(f.offset,f.type))=fs∧∀f∈fields.toList,∃i,P.info? f.type=some i
 |.ptr=>∃e,P.underlying t=some (.pointer e)
 |.func=>∃ps rs v,P.underlying t=some (.func ps rs v)
 |.iface=>∃ms,P.underlying t=some (.interface ms)
 |.other=>True
 |.map k e=>P.underlying t=some (.map k e)
def BC:TypeDesc→Bool
 |.struct _=>true
 |.array _ _=>true
 |_=>false
structure nc (P:Program) (t:Nat) (ti:TI):Prop where
 info:∃i,P.info? t=some i∧i.size=ti.size∧i.bytes=ti.bytes∧(ti.zero≠[]→∃z,i.zero=some z∧∀w G,ak w G z.cells.toList ti.zero)
 agg:∃d,P.underlying t=some d∧ti.agg=BC d
 d:F_ P t ti.d
 cmp:ti.cmp=true→P.eqGuardType P.depth t=false∧∀(w:World)(G:GS)(xs ys:Array Value)(aS bs:List AV)(c:Bool),mF aS ti.zero=true→ak w G xs.toList aS→ak w G ys.toList bs→zR aS bs=some c →
  (abe t (.agg xs) (.agg ys)).run P w = .ok c w
def fC(P:Program)(tab:Nat→Option TI):Prop:=∀t ti,tab t=some ti→nc P t ti
section
variable {P:Program} {w:World} {G:GS}
theorem zw{t:Nat}{ti:TI}(h:nc P t ti):(sizeOf t).run P w = .ok ti.size w:=by obtain⟨i,hi,hs,_⟩:=h.info;simp[sizeOf,typeInfo,hi,hs]
theorem zim{t:Nat}{ti:TI}(h:nc P t ti):(isAgg t).run P w = .ok ti.agg w:=by obtain⟨d,hd,ha⟩:=h.agg;unfold isAgg;simp only[aao,run_underlying hd,aam];rw[ha];cases d<;>rfl
theorem zy{b o:Nat}{vs:Array Value}{t:TypeId}{fr:Nat×Nat}(h:w.heap[b]? = some (.cells vs t fr)):w.cell? ⟨b,o,none⟩=vs[o]?:=by simp[World.cell?,h]
theorem ztf{a:Addr}{v:Value}(h:w.cell? a=some v):(load a).run P w = .ok v w:=by simp[load,Sem.run,h]
theorem U0{t:Nat}{ti:TI}(h:nc P t ti){b o:Nat}{us:List Value}{cs:List AV}{r:AV}(hl:us.length=ti.size)
 (hm:∀(i:Nat)(u:Value),us[i]? = some u→w.cell? ⟨b,o+i,none⟩=some u) (hr:ak w G us cs) (hv:jD ti.agg cs=some r) :
 ∃v,(loadVar t ⟨b,o,none⟩).run P w = .ok v w∧af w G v r:=by
 unfold loadVar;simp only[aao,zim h,aam];cases ha:ti.agg with
 |true =>rw[ha]at hv;simp only[jD,aag]at hv;subst hv;refine⟨.agg us.toArray,?_,.agg _ _ (by simpa using hr.1) (fun i v c hv hc=>hr.2 i v c (by simpa using hv) hc)⟩;simp only[if_true,aao,zw h,aam];rw[←hl,run_loadCells_list (P:=P) w ⟨b,o,none⟩ us (fun j v hj=>by rw[mu];exact hm j v hj)];rfl
 | false =>
  rw[ha]at hv;cases cs with
  |nil=>simp[jD]at hv
  | cons c cs=>cases cs with
   |cons d ds=>simp[jD]at hv
   |nil =>
    simp only[jD,aag]at hv;subst hv;have h1:us.length=1:=by simpa using hr.1
    match us,h1 with
    |[u],_ =>refine⟨u,?_,hr.2 0 u c rfl rfl⟩;simp only[aaZ,if_false];exact ztf (by simpa using hm 0 u rfl)
theorem zg8{B0:Nat}{w0:Wd}{h:H}(s:St B0 w0 G h w){t:Nat}{ti:TI}(gB:nc P t ti){pv:Value}{pa r:AV}(hp:af w G pv pa)
 (hl:mZ ti pa h=some r):∃v,(Instr.loadAt t pv).run P w = .ok v w∧af w G v r:=by
 unfold mZ at hl;split at hl
 ·rename_i q off;split at hl
  ·rename_i cs hq;cases lM:isRow cs with
   |true=>rw[lM]at hl;cases hl
   |false =>
   rw[lM,cond_false]at hl;split at hl
   ·rename_i ds hd;rw[zo]at hq;rw[rJ]at hd;obtain⟨e1,e2⟩:=EH _ _ _ hd;cases hp with
    | ref _ _ b hb =>
     obtain⟨_,ob,hh,hr⟩:=s.box _ _ _ hb hq;obtain⟨vs,ty,rfl,_,hr,_⟩:=hr.list lM;have hR:=(hr.drop off).take ti.size;rw[←e1]at hR;have hlen:((vs.toList.drop off).take ti.size).length=ti.size:=by rw[hR.1,e2]
     obtain⟨v,hv,fG⟩:=U0 (w:=w) (G:=G) gB (b:=b) (o:=off) hlen (fun i u hu=>by
      rw[zy hh];rw[aaN]at hu;split at hu
      ·simpa using hu
      ·cases hu) hR hl
     refine⟨v,?_,fG⟩;simp only[Instr.loadAt,ab7,aao,aaA,aam];exact hv
   ·cases hl
  ·cases hl
 ·rename_i cs;split at hl
  ·rename_i ds hd;obtain⟨e1,e2⟩:=EH _ _ _ hd;cases hp with
   | iM b o us _ Cz hm qb =>
    have hR:=(ak.take ⟨Cz,qb⟩ ti.size);rw[←e1]at hR;have hlen:(us.take ti.size).length=ti.size:=by rw[hR.1,e2]
    obtain⟨v,hv,fG⟩:=U0 (w:=w) (G:=G) gB (b:=b) (o:=o) hlen (fun i u hu=>by
     rw[aaN]at hu;split at hu
     ·exact(hm i u hu).2
     ·cases hu) hR hl
    refine⟨v,?_,fG⟩;simp only[Instr.loadAt,ab7,aao,aaA,aam];exact hv
  ·cases hl
 ·cases hl
theorem F':∀(off:Nat)(vs cs r:List AV),gz off vs cs=some r→off+vs.length≤cs.length∧r=cs.take off++vs++cs.drop (off+vs.length)∨(vs=[]∧r=cs)
 |_,[],cs,r,h=>by right;cases cs<;>simp[gz]at h<;>simp[h]
 |0,v::vs,[],r,h=>by simp[gz]at h
 | 0,v :: vs,c::cs,r,h=>by
  simp only[gz]at h;split at h
  ·rename_i q hq;obtain rfl:=aaj h;left;rcases F' 0 vs cs q hq with⟨h1,h2⟩ |⟨rfl,rfl⟩
   ·simp at h1 h2 ⊢;exact⟨h1,h2⟩
   ·simp
  ·cases h
 |n+1,v::vs,[],r,h=>by simp[gz]at h
 | n + 1,v::vs,c::cs,r,h=>by
  simp only[gz]at h;split at h
  ·rename_i q hq;obtain rfl:=aaj h;left;rcases F' n (v::vs) cs q hq with⟨h1,h2⟩ |⟨h1,_⟩
   ·refine⟨by simp at h1 ⊢;omega,?_⟩;rw[h2,show n+1+(v::vs).length=(n+(v::vs).length)+1 from by omega];simp
   ·cases h1
  ·cases h
theorem St.z_{B0:Nat}{w0:Wd}{h:H}(s:St B0 w0 G h w){vs:Array Value}{cs:List AV}(t:TypeId)(g:tz)
 (hr:∀G':GS,Ext G.base G G'→G'.bv h.bx.length=g→G'.bx[h.bx.length]? = some (some w.heap.size)→bg G.D w (w.alloc (.cells vs t))→iS (w.alloc (.cells vs t)) G' h.bx.length vs.toList cs) (hT:∀T,iQ cs=some T→t=T) :
 ∃G',Ext G.base G G'∧bg G.D w (w.alloc (.cells vs t))∧St B0 w0 G' { h with bx:=h.bx++[cs] } (w.alloc (.cells vs t)) ∧
  G'.bx[h.bx.length]? = some (some w.heap.size)∧G'.bv h.bx.length=g∧G'.D=G.D:=by
 have hg:w.grownBy (w.alloc (.cells vs t)) none:=aaY w _ none;have s':=s.gH hg;have hk:bg G.D w (w.alloc (.cells vs t)):=bg.fB hg (fun b o x=>(s.ec b o x).1) (fun _ _ _=>by simp)
 have bo:∀(r b:Nat),G.bx[r]? = some (some b)→b<w.heap.size:=fun r b hb=>by
  have fN:r<h.bx.length:=by rw[s.eb];exact(aaf.1 hb).1
  obtain⟨_,ob,hh,_⟩:=s.box r b _ hb (aaB fN);exact(aak.1 hh).1
 have ix:∀r,r<G.bx.length→(fun r=>if r=G.bx.length then g else G.bv r) r=G.bv r:=fun r hr=>if_neg (by omega)
 have hx:Ext G.base G { G with bx:=G.bx++[some w.heap.size],bv:=fun r=>if r=G.bx.length then g else G.bv r }:=
  { D := fun _ _ x=>x
    bx:=fun r hr=>by have:r<G.bx.length:=hr;exact .inl ⟨by simp[aai this],ix r this⟩
    tk:=(Ext.refl (cF.le_refl _)).tk
    lp:=fun _ _=>rfl
    df:=rfl }
 refine⟨{ G with bx:=G.bx++[some w.heap.size],bv:=fun r=>if r=G.bx.length then g else G.bv r },hx,hk,?_,by simp[s.eb],by simp[s.eb],rfl⟩;exact
 { below := s'.below
   b0:=s'.b0
   eb:=by simp[s.eb]
   box := fun r b ds h1 h2=>by
    by_cases fN:r<G.bx.length
    ·simp only[aai fN]at h1;simp only[aai (by rw[s.eb];exact fN)]at h2;obtain⟨hB,ob,hh,qb⟩:=s'.box r b ds h1 h2;exact⟨hB,ob,hh,qb.eJ hx (bg.refl _ _) (ix r fN)⟩
    ·simp only[aal (aas fN)]at h1;simp only[aal (by rw[s.eb];exact aas fN)]at h2;have e0:r - G.bx.length=0:=by have:=(aaf.1 h1).1;simp at this;omega
     rw[e0]at h1;rw[s.eb,e0]at h2;simp at h1 h2;subst h1;subst h2;have er:r=G.bx.length:=by omega
     subst er;refine⟨s.b0,_,aaP w _,.cells _ _ _ ?_ hT⟩;have hh:=hr _ hx (by simp[s.eb]) (by simp[s.eb]) hk;rw[s.eb]at hh;exact hh
   fl:=fun r ds h1 h2=>by
    by_cases fN:r<G.bx.length
    ·simp only[aai fN]at h1;simp only[aai (by rw[s.eb];exact fN)]at h2;rcases s'.fl r ds h1 h2 with⟨v,τ,e1,e2,e3,e4⟩ |⟨e1,e2⟩
     ·exact .inl ⟨v,τ,e1,e2,e3,(ix r fN).trans e4⟩
     ·exact .inr ⟨e1,(congrArg tz.v (ix r fN)).trans e2⟩
    ·simp only[aal (aas fN)]at h1;have e0:r - G.bx.length=0:=by have:=(aaf.1 h1).1;simp at this;omega
     rw[e0]at h1;simp at h1
   inj := fun r r' b h1 h2=>by
    by_cases ju:r<G.bx.length
    ·simp only[aai ju]at h1;by_cases gh:r'<G.bx.length
     ·simp only[aai gh]at h2;exact s.inj r r' b h1 h2
     ·simp only[aal (aas gh)]at h2;have e0:r' - G.bx.length=0:=by have:=(aaf.1 h2).1;simp at this;omega
      rw[e0]at h2;simp at h2;have:=bo r b h1;omega
    ·simp only[aal (aas ju)]at h1;have e0:r - G.bx.length=0:=by have:=(aaf.1 h1).1;simp at this;omega
     rw[e0]at h1;simp at h1;by_cases gh:r'<G.bx.length
     ·simp only[aai gh]at h2;have:=bo r' b h2;omega
     ·simp only[aal (aas gh)]at h2;have U1:r' - G.bx.length=0:=by have:=(aaf.1 h2).1;simp at this;omega
      omega
   ec:=fun b o x=>by obtain⟨hu,hn⟩:=s'.ec b o x;refine⟨hu,?_⟩;simp only[aa0,abf,not_or,aag];refine⟨hn,?_⟩;obtain⟨u,Ga⟩:=(s.ec b o x).1;have:=aay w _ Ga;simp at this;omega
   fo:=s'.fo
   fO:=s'.fO
   tok:=fun t g ht=>by obtain⟨h1,h2⟩:=s'.tok t g ht;refine⟨h1,fun vQ => ?_⟩;obtain⟨b,hA,hB,hn,ij,et,fr,hh,hc,hi⟩:=h2 vQ;refine⟨b,hA,hB,?_,ij,et,fr,hh,hc,hi⟩;simp only[aa0,abf,not_or,aag];refine⟨hn,?_⟩;obtain⟨b',eT,_,_,Lx,_,_,Gb,_⟩:=(s.tok t g ht).2 vQ;rw[hA]at eT;obtain rfl:=aaj eT;have:=(aak.1 Gb).1;omega
   gA:=s'.gA
   fU:=s'.fU
   loop:=s'.loop
   ie:=s'.ie
   gu:=s'.gu
   ig:=s'.ig }
theorem St.DL{B0:Nat}{w0:Wd}{h:H}(s:St B0 w0 G h w){ob:Obj}{cs:List AV}(g:tz)
 (hr:∀G':GS,Ext G.base G G'→G'.bv h.bx.length=g→G'.bx[h.bx.length]? = some (some w.heap.size)→bg G.D w (w.alloc ob)→jB (w.alloc ob) G' h.bx.length ob cs) :
 ∃G',Ext G.base G G'∧bg G.D w (w.alloc ob)∧St B0 w0 G' { h with bx:=h.bx++[cs] } (w.alloc ob) ∧
  G'.bx[h.bx.length]? = some (some w.heap.size)∧G'.bv h.bx.length=g∧G'.D=G.D:=by
 have hg:w.grownBy (w.alloc ob) none:=aaY w _ none;have s':=s.gH hg;have hk:bg G.D w (w.alloc ob):=bg.fB hg (fun b o x=>(s.ec b o x).1) (fun _ _ _=>by simp)
 have bo:∀(r b:Nat),G.bx[r]? = some (some b)→b<w.heap.size:=fun r b hb=>by
  have fN:r<h.bx.length:=by rw[s.eb];exact(aaf.1 hb).1
  obtain⟨_,U2,hh,_⟩:=s.box r b _ hb (aaB fN);exact(aak.1 hh).1
 have ix:∀r,r<G.bx.length→(fun r=>if r=G.bx.length then g else G.bv r) r=G.bv r:=fun r hr=>if_neg (by omega)
 have hx:Ext G.base G { G with bx:=G.bx++[some w.heap.size],bv:=fun r=>if r=G.bx.length then g else G.bv r }:=
  { D := fun _ _ x=>x
    bx:=fun r hr=>by have:r<G.bx.length:=hr;exact .inl ⟨by simp[aai this],ix r this⟩
    tk:=(Ext.refl (cF.le_refl _)).tk
    lp:=fun _ _=>rfl
    df:=rfl }
 refine⟨{ G with bx:=G.bx++[some w.heap.size],bv:=fun r=>if r=G.bx.length then g else G.bv r },hx,hk,?_,by simp[s.eb],by simp[s.eb],rfl⟩;exact
 { below := s'.below
   b0:=s'.b0
   eb:=by simp[s.eb]
   box := fun r b ds h1 h2=>by
    by_cases fN:r<G.bx.length
    ·simp only[aai fN]at h1;simp only[aai (by rw[s.eb];exact fN)]at h2;obtain⟨hB,U2,hh,qb⟩:=s'.box r b ds h1 h2;exact⟨hB,U2,hh,qb.eJ hx (bg.refl _ _) (ix r fN)⟩
    ·simp only[aal (aas fN)]at h1;simp only[aal (by rw[s.eb];exact aas fN)]at h2;have e0:r - G.bx.length=0:=by have:=(aaf.1 h1).1;simp at this;omega
     rw[e0]at h1;rw[s.eb,e0]at h2;simp at h1 h2;subst h1;subst h2;have er:r=G.bx.length:=by omega
     subst er;refine⟨s.b0,_,aaP w _,?_⟩;have hh:=hr _ hx (by simp[s.eb]) (by simp[s.eb]) hk;rw[s.eb]at hh;exact hh
   fl:=fun r ds h1 h2=>by
    by_cases fN:r<G.bx.length
    ·simp only[aai fN]at h1;simp only[aai (by rw[s.eb];exact fN)]at h2;rcases s'.fl r ds h1 h2 with⟨v,τ,e1,e2,e3,e4⟩ |⟨e1,e2⟩
     ·exact .inl ⟨v,τ,e1,e2,e3,(ix r fN).trans e4⟩
     ·exact .inr ⟨e1,(congrArg tz.v (ix r fN)).trans e2⟩
    ·simp only[aal (aas fN)]at h1;have e0:r - G.bx.length=0:=by have:=(aaf.1 h1).1;simp at this;omega
     rw[e0]at h1;simp at h1
   inj := fun r r' b h1 h2=>by
    by_cases ju:r<G.bx.length
    ·simp only[aai ju]at h1;by_cases gh:r'<G.bx.length
     ·simp only[aai gh]at h2;exact s.inj r r' b h1 h2
     ·simp only[aal (aas gh)]at h2;have e0:r' - G.bx.length=0:=by have:=(aaf.1 h2).1;simp at this;omega
      rw[e0]at h2;simp at h2;have:=bo r b h1;omega
    ·simp only[aal (aas ju)]at h1;have e0:r - G.bx.length=0:=by have:=(aaf.1 h1).1;simp at this;omega
     rw[e0]at h1;simp at h1;by_cases gh:r'<G.bx.length
     ·simp only[aai gh]at h2;have:=bo r' b h2;omega
     ·simp only[aal (aas gh)]at h2;have U1:r' - G.bx.length=0:=by have:=(aaf.1 h2).1;simp at this;omega
      omega
   ec:=fun b o x=>by obtain⟨hu,hn⟩:=s'.ec b o x;refine⟨hu,?_⟩;simp only[aa0,abf,not_or,aag];refine⟨hn,?_⟩;obtain⟨u,Ga⟩:=(s.ec b o x).1;have:=aay w _ Ga;simp at this;omega
   fo:=s'.fo
   fO:=s'.fO
   tok:=fun t g ht=>by obtain⟨h1,h2⟩:=s'.tok t g ht;refine⟨h1,fun vQ => ?_⟩;obtain⟨b,hA,hB,hn,ij,et,fr,hh,hc,hi⟩:=h2 vQ;refine⟨b,hA,hB,?_,ij,et,fr,hh,hc,hi⟩;simp only[aa0,abf,not_or,aag];refine⟨hn,?_⟩;obtain⟨b',eT,_,_,Lx,_,_,Gb,_⟩:=(s.tok t g ht).2 vQ;rw[hA]at eT;obtain rfl:=aaj eT;have:=(aak.1 Gb).1;omega
   gA:=s'.gA
   fU:=s'.fU
   loop:=s'.loop
   ie:=s'.ie
   gu:=s'.gu
   ig:=s'.ig }
theorem St.tE{B0:Nat}{w0:Wd}{h:H}(s:St B0 w0 G h w){vs:Array Value}{cs:List AV}(hr:ak w G vs.toList cs)(t:TypeId)(hn:nT cs=true) :
 ∃G',Ext G.base G G'∧bg G.D w (w.alloc (.cells vs t))∧St B0 w0 G' { h with bx:=h.bx++[cs] } (w.alloc (.cells vs t)) ∧
  G'.bx[h.bx.length]? = some (some w.heap.size)∧(G'.bv h.bx.length).v=0:=by
 obtain⟨G',h1,h2,h3,h4,h5,_⟩:=s.z_ (vs:=vs) (cs:=cs) t ⟨0,0,0,0⟩ (fun G' hx hg _ hk => .box _ _ hr.oZ (by rw[hg]) (hr.mono hx hk)) (fun T hT=>(UW hn hr.oZ T hT).elim);exact⟨G',h1,h2,h3,h4,by rw[h5]⟩
end
end Go.AM
namespace Go.AM
open Go.RowKit
section
variable {P:Program} {w:World} {G:GS}
theorem zft(w:World)(g:Nat)(cs:Array Value):w.grownBy (w.setRow g cs) (some g):=⟨rfl,rfl,rfl,by simp,fun k _ hk=>setRow_other w g k _ (fun e=>hk (by simp[e]))⟩
theorem zfl(w:World)(g:Nat)(cs:Array Value)(a:Addr):(w.setRow g cs).frozen? a=w.frozen? a:=by
 by_cases h:a.block=g
 ·cases hg:w.heap[g]? with
  |none =>
   have:(w.setRow g cs).heap[g]? = none:=by simp[World.setRow,Array.getElem?_modify,hg]
   simp[aaI,h,this,hg]
  | some o =>
   cases o with
   |cells cur t fr =>have h2:=setRow_heap w g cur cs t fr hg;simp[aaI,h,h2,hg]
   |_ =>
    have:(w.setRow g cs).heap[g]? = w.heap[g]?:=by simp only[World.setRow,Array.getElem?_modify,if_true,hg];rfl
    simp[aaI,h,this]
 ·simp[aaI,setRow_other w g a.block cs h]
theorem nz(g o:Nat)(t:TypeId)(fz:Nat×Nat):∀(vs:List Value)(i:Nat)(cur:Array Value)(w:World),w.heap[g]? = some (.cells cur t fz) →
 (∀j,j<vs.length→w.frozen? ⟨g,o+i+j,none⟩=false)→o+i+vs.length≤cur.size→(∀v∈vs,v.oneCell'=true) →
 (storeCells ⟨g,o,none⟩ vs i).run P w = .ok () (w.setRow g (cur.toList.take (o+i)++vs++cur.toList.drop (o+i+vs.length)).toArray)
 |[],i,cur,w,hg,_,_,_=>by simp only[storeCells,aa1,List.length_nil,abt,List.take_append_drop,Array.toArray_toList];rw[setRow_self w g cur t fz hg];rfl
 | v :: rest,i,cur,w,hg,Ly,hl,h1=>by
  have hi:o+i<cur.size:=by simp at hl;omega
  have fp:w.cell? ⟨g,o+i,none⟩=some cur[o+i]:=by simp[World.cell?,hg,hi]
  have aca:w.frozen? ⟨g,o+i,none⟩=false:=by simpa using Ly 0 (by simp)
  have gQ:(store ((⟨g,o,none⟩:Addr).add i) v).run P w = .ok () (w.setRow g (cur.setIfInBounds (o+i) v)):=by rw[mu,run_store P w _ v _ (h1 v (by simp)),fp];simp[aca,setCell_eq_setRow w g (o+i) cur t fz v hg]
  have ih:=nz g o t fz rest (i+1) (cur.setIfInBounds (o+i) v) (w.setRow g (cur.setIfInBounds (o+i) v)) (setRow_heap w g cur _ t _ hg)
   (fun j hj=>by rw[zfl];have:=Ly (j+1) (by simp;omega);rwa[show o+i+(j+1)=o+(i+1)+j from by omega]at this) (by simp at hl ⊢;omega) (fun x hx=>h1 x (by simp[hx]))
  simp only[storeCells,aao,gQ,aam,ih,setRow_setRow];congr 3;have e:=list_seg_step cur.toList (o+i) v rest (by simp at hl ⊢;omega);simpa[abD,abE]using e
theorem St.row{B0:Nat}{w0:Wd}{h:H}(s:St B0 w0 G h w){w':World}{b:Nat}(hg:w.grownBy w' (some b))(hB:B0≤b)(hD:∀o,G.D b o→w'.cell? ⟨b,o,none⟩=w.cell? ⟨b,o,none⟩)
 (hk:∀(cs:Array Value)(t:TypeId)(fr:Nat×Nat),w.heap[b]? = some (.cells cs t fr)→∃ij:Array Value,w'.heap[b]? = some (.cells ij t fr)∧ij.size=cs.size)
 (hc:∃cs t fr,w.heap[b]? = some (.cells cs t fr)) :
 bg G.D w w'∧Below B0 w0.w w'∧B0≤w'.heap.size∧(∀(x o:Nat),G.D x o→(∃u,w'.cell? ⟨x,o,none⟩=some u)∧some x∉G.bx) ∧
 (∀(t:Nat)(g:Tk),G.tk[t]? = some (some g)→DK B0 G w' g) ∧
 (∀(j:Nat)(p:sC)(st:LS),G.lp[j]? = some p→h.lp[j]? = some st→B0≤p.l∧∃rec,w'.heap[p.l]? = some (.loop rec)∧mW rec p.st∧tB rec st) ∧
 (∀(d:Nat),d∈G.df→B0≤d∧w'.heap[d]? = some (.deferred (some []))):=by
 obtain⟨Lx,t0,fr0,z'⟩:=hc
 have eQ:bg G.D w w':=fun x o hx=>by
  by_cases nX:x=b
  ·subst nX;exact hD o hx
  ·obtain⟨u,hu⟩:=(s.ec x o hx).1;exact abr (hg.block x (aay w _ hu) (by simp[nX]))
 have nJ:∀x o,w.heap[x]? = some o→x≠b→w'.heap[x]? = some o:=fun x o hx c_ =>(hg.block x (aak.1 hx).1 (by simp[c_])).trans hx;refine⟨eQ,s.below.grown hg s.b0 (fun k e=>by simp at e;omega),aa5 s.b0 hg.size,?_,?_,?_,?_⟩
 ·intro x o hx;obtain⟨⟨u,hu⟩,hn⟩:=s.ec x o hx;exact⟨⟨u,(eQ x o hx).trans hu⟩,hn⟩
 ·intro t g ht;obtain⟨h1,h2⟩:=s.tok t g ht;refine⟨h1,fun bo => ?_⟩;obtain⟨x,hA,wy,hn,cs,et,fr,hh,dy,hi⟩:=h2 bo;by_cases nX:x=b
  ·subst nX;obtain⟨ij,kA,jc⟩:=hk cs et fr hh;refine⟨x,hA,wy,hn,ij,et,fr,kA,by omega,fun i i1 i2=>⟨(hi i i1 i2).1,?_⟩⟩;have:=(hi i i1 i2).2;simp[aaI,hh,kA]at this ⊢;exact this
  ·refine⟨x,hA,wy,hn,cs,et,fr,nJ x _ hh nX,dy,fun i i1 i2=>⟨(hi i i1 i2).1,?_⟩⟩;rw[abo (w:=w) (by rw[hh];exact nJ x _ hh nX)];exact(hi i i1 i2).2
 ·intro j p st hp gQ;obtain⟨U3,rec,hh,hr⟩:=s.loop j p st hp gQ;exact⟨U3,rec,nJ _ _ hh (fun e=>by rw[e,z']at hh;cases hh),hr⟩
 ·intro d hd;obtain⟨U4,hh⟩:=s.gu d hd;exact⟨U4,nJ _ _ hh (fun e=>by rw[e,z']at hh;cases hh)⟩
theorem St.wU{B0:Nat}{w0:Wd}{h:H}(s:St B0 w0 G h w){w':World}{q b:Nat}{vs nv:Array Value}{ty:TypeId}{ds:List AV}(hb:G.bx[q]? = some (some b))(hh:w.heap[b]? = some (.cells vs ty (0,0)))(hB:B0≤b)(nf:nv.size=vs.size)
 (hg:w.grownBy w' (some b)) (kA:w'.heap[b]? = some (.cells nv ty (0,0)))
 (hr:bg G.D w w'→iS w' G q nv.toList ds) (jd:∀T,iQ ds=some T→ty=T):bg G.D w w'∧St B0 w0 G { h with bx:=dF h.bx q ds } w':=by
 have hbD:∀o,¬G.D b o:=fun o ho=>(s.ec b o ho).2 (abu hb);obtain⟨hk,h1,h2,h3,h4,h5,h6⟩:=s.row hg hB (fun o ho=>absurd ho (hbD o)) (fun ij t' fr' Aa=>by rw[hh]at Aa;cases Aa;exact⟨nv,kA,nf⟩) ⟨_,_,_,hh⟩;have hx:Ext G.base G G:=Ext.refl (cF.le_refl _);refine⟨hk,?_⟩;exact
 { below := h1
   b0:=h2
   eb:=by simp[zk,s.eb]
   box := fun r x es ju gh=>by
    simp only[zk,abk]at gh;by_cases nA:q=r
    ·subst nA;rw[if_pos rfl]at gh;split at gh
     ·obtain rfl:=aaj gh;rw[hb]at ju;obtain rfl:=aaj (aaj ju);exact⟨hB,_,kA,.cells _ _ _ (hr hk) jd⟩
     ·cases gh
    ·rw[if_neg nA]at gh;obtain⟨wy,ob,Aa,fN⟩:=s.box r x es ju gh;have nX:x≠b:=fun e=>nA (s.inj q r b hb (by rw[←e];exact ju));exact⟨wy,ob,(hg.block x (aak.1 Aa).1 (by simp[nX])).trans Aa,fN.eJ hx hk rfl⟩
   fl:=fun r es ju gh=>by
    simp only[zk,abk]at gh;by_cases nA:q=r
    ·subst nA;rw[hb]at ju;cases ju
    ·rw[if_neg nA]at gh;exact s.fl r es ju gh
   inj:=s.inj
   ec:=h3
   fo:=s.fo
   fO:=s.fO
   tok:=h4
   gA:=s.gA
   fU:=s.fU
   loop:=h5
   ie:=s.ie
   gu:=h6
   ig:=s.ig }
theorem St.Ab{B0:Nat}{w0:Wd}{h:H}(s:St B0 w0 G h w){q b:Nat}{vs nv:Array Value}{ty:TypeId}{ds:List AV}(hb:G.bx[q]? = some (some b))(hh:w.heap[b]? = some (.cells vs ty (0,0)))(hB:B0≤b)(nf:nv.size=vs.size)
 (hr:bg G.D w (w.setRow b nv)→iS (w.setRow b nv) G q nv.toList ds) (jd:∀T,iQ ds=some T→ty=T):bg G.D w (w.setRow b nv)∧St B0 w0 G { h with bx:=dF h.bx q ds } (w.setRow b nv):=
 s.wU hb hh hB nf (zft w b nv) (setRow_heap w b vs nv ty _ hh) hr jd
theorem St.other{B0:Nat}{w0:Wd}{h:H}(s:St B0 w0 G h w){w':World}{b:Nat}(hg:w.grownBy w' (some b))(hB:B0≤b)(hD:∀o,G.D b o→w'.cell? ⟨b,o,none⟩=w.cell? ⟨b,o,none⟩)
 (hc:∃cs t fr,w.heap[b]? = some (.cells cs t fr)) (hn:some b∉G.bx) (ht:∀(t:Nat)(g:Tk),G.tk[t]? = some (some g)→g.n<g.cap→g.A≠some b):bg G.D w w'∧St B0 w0 G h w':=by
 obtain⟨Lx,t0,fr0,z'⟩:=hc
 have eQ:bg G.D w w':=fun x o hx=>by
  by_cases nX:x=b
  ·subst nX;exact hD o hx
  ·obtain⟨u,hu⟩:=(s.ec x o hx).1;exact abr (hg.block x (aay w _ hu) (by simp[nX]))
 have nJ:∀x o,w.heap[x]? = some o→x≠b→w'.heap[x]? = some o:=fun x o hx c_ =>(hg.block x (aak.1 hx).1 (by simp[c_])).trans hx;refine⟨eQ,?_⟩;exact
 { below:=s.below.grown hg s.b0 (fun k e=>by simp at e;omega)
   b0:=aa5 s.b0 hg.size
   eb:=s.eb
   box:=fun r x es ju gh=>by obtain⟨wy,ob,kA,fN⟩:=s.box r x es ju gh;exact⟨wy,ob,nJ x _ kA (fun e=>hn (e▸abu ju)),fN.eJ (Ext.refl (cF.le_refl _)) eQ rfl⟩
   fl:=s.fl
   inj:=s.inj
   ec:=fun x o hx=>by obtain⟨⟨u,hu⟩,hn⟩:=s.ec x o hx;exact⟨⟨u,(eQ x o hx).trans hu⟩,hn⟩
   fo:=s.fo
   fO:=s.fO
   tok:=fun t g EI=>by obtain⟨h1,h2⟩:=s.tok t g EI;refine⟨h1,fun bo => ?_⟩;obtain⟨x,hA,wy,CA,cs,et,fr,hh,dy,hi⟩:=h2 bo;have nX:x≠b:=fun e=>ht t g EI bo (by rw[hA,e]);refine⟨x,hA,wy,CA,cs,et,fr,nJ x _ hh nX,dy,fun i i1 i2=>⟨(hi i i1 i2).1,?_⟩⟩;rw[abo (w:=w) (by rw[hh];exact nJ x _ hh nX)];exact(hi i i1 i2).2
   gA:=s.gA
   fU:=s.fU
   loop:=fun j p st hp gQ=>by obtain⟨U3,rec,hh,hr⟩:=s.loop j p st hp gQ;exact⟨U3,rec,nJ _ _ hh (fun e=>by rw[e,z']at hh;cases hh),hr⟩
   ie:=s.ie
   gu:=fun d hd=>by obtain⟨U4,hh⟩:=s.gu d hd;exact⟨U4,nJ _ _ hh (fun e=>by rw[e,z']at hh;cases hh)⟩
   ig:=s.ig }
theorem ztg{off:Nat}{vs cs ds:List AV}{T:Nat}(ho:tf vs=true)(hv:0<vs.length)(h:gz off vs cs=some ds)(hT:iQ ds=some T):iQ cs=some T:=by
 cases vs with
 |nil=>simp at hv
 | cons v vs =>
  simp only[tf,aax]at ho;cases cs with
  |nil=>cases off<;>simp[gz]at h
  | cons c cs =>
   cases off with
   | zero =>
    simp only[gz]at h;split at h
    ·obtain rfl:=aaj h;unfold iQ at hT;split at hT
     ·rename_i e;simp only[aaO]at e;rw[e.1]at ho;simp[vL]at ho
     ·rename_i e;simp only[aaO]at e;rw[e.1]at ho;simp[vL]at ho
     ·cases hT
    ·cases h
   |succ n =>
    simp only[gz]at h;split at h
    ·obtain rfl:=aaj h;cases c<;>first|exact hT|(rename_i τ l;cases τ<;>exact hT) |(simp[iQ]at hT)
    ·cases h
theorem U5{B0:Nat}{w0:Wd}{h h':H}(s:St B0 w0 G h w){t:Nat}{ti:TI}(gB:nc P t ti){pv v:Value}{pa a:AV}(hp:af w G pv pa)(hv:af w G v a)
 (hs:mE ti pa a h=some h'):∃w',(Instr.storeAt t pv v).run P w = .ok () w'∧bg G.D w w'∧St B0 w0 G h' w':=by
 unfold mE at hs;split at hs
 ·rename_i q off;obtain⟨hc,hs⟩:=zf hs;simp only[aax,b_,eV]at hc;obtain⟨⟨hlen,tF⟩,oA⟩:=hc;split at hs
  ·rename_i cs hq;cases lM:isRow cs with
   |true=>rw[lM]at hs;cases hs
   |false =>
   rw[lM,cond_false]at hs;split at hs
   ·rename_i ds hd;obtain rfl:=aaj hs;rw[zo]at hq;have c_:a ≠ .any:=wv (by omega);have hR:=wu hv c_;have CB:=UY hR tF;cases hp with
    | ref _ _ b hb =>
     obtain⟨hB,ob,hh,hr⟩:=s.box _ _ _ hb hq;obtain⟨vs,ty,rfl,acb,hr,jd⟩:=hr.list lM;rcases F' _ _ _ _ hd with⟨hle,oB⟩ |⟨h0,_⟩
     ·have CC:v.cells.toList.length=ti.size:=by rw[hR.1,hlen]
      have dz:off+v.cells.toList.length≤vs.size:=by have:=hr.1;simp at this;rw[hR.1];omega
      have ew:=nz (P:=P) b off ty (0,0) v.cells.toList 0 vs w hh (fun j _=>by simp[aaI,hh]) (by simpa using dz) CB;simp only[abt]at ew;generalize xj:(vs.toList.take off++v.cells.toList++vs.toList.drop (off+v.cells.toList.length)).toArray=nv at ew;have nf:nv.size=vs.size:=by rw[←xj];simp;simp at dz;omega
      have hx:Ext G.base G G:=Ext.refl (cF.le_refl _)
      obtain⟨hk,gQ⟩:=s.Ab (ds:=ds) hb hh hB nf (fun hk=>by
       have tG:nv.toList=vs.toList.take off++v.cells.toList++vs.toList.drop (off+v.cells.toList.length):=by rw[←xj]
       rw[tG,oB];have e1:=(hr.take off).append hR;have e2:=hr.drop (off+(cellsOf a).length);rw[←hR.1]at e2;have e3:=ak.append e1 e2;rw[hR.1]at e3;rw[hR.1];exact .box _ _ (e3.mono hx hk).oZ acb (e3.mono hx hk)) (fun T hT=>jd T (ztg tF (by omega) hd hT))
      refine⟨w.setRow b nv,?_,hk,gQ⟩;simp only[Instr.storeAt,ab7,storeVar,aao,aaA,aam,zw gB];rw[if_neg (by simpa using CC)];exact ew
     ·rw[h0]at hlen;simp at hlen;omega
   ·cases hs
  ·cases hs
 ·cases hs
end
end Go.AM
namespace Go.AM
open Go.RowKit
section
variable {P:Program} {w:World} {G:GS}
theorem zwq{qD CD bytes:Nat}(h:(qD)*bytes≤2 ^ 46)(hb:bytes≤2 ^ 20)(ho:CD<qD):aaQ qD CD*bytes≤2 ^ 48:=by
 have key:aaQ qD CD≤2*qD+512:=by
  unfold aaQ;split
  ·omega
  ·split
   ·omega
   ·have grow:∀(r c:Nat),c≤2*qD+512→ab8 qD r c≤2*qD+512:=by
     intro r;induction r with
     |zero=>intro c hc;simpa[ab8]using hc
     |succ r ih =>
      intro c hc;simp only[ab8];split
      ·exact hc
      ·rename_i bo;exact ih _ (by omega)
    exact grow 4 CD (by omega)
 calc aaQ qD CD*bytes≤(2*qD+512)*bytes:=aa9 _ key
  _=2*(qD*bytes)+512*bytes:=by rw[aaq,Nat.mul_assoc]
  _≤2 ^ 48:=by omega
theorem zth{w:World}{b i:Nat}{cs:Array Value}{t:TypeId}(h:w.heap[b]? = some (.cells cs t (0,0))):w.frozen? ⟨b,i,none⟩=false:=by unfold aaI;simp only[h];simp
theorem xk{t t2 et ty:TypeId}{i:TypeInfo}{d2:TypeDesc}(ht:P.underlying t=some (.slice et))(kZ:P.underlying t2=some d2)(nY:∀k,d2 ≠ .int k)(hi:P.info? et=some i)
 {A:Option Addr} {n cap m:Nat} {xv:Value} {news:List Value} (hlen:(abF xv).run P w = .ok m w) (wV:(aaC i.size m xv).run P w = .ok news.toArray w)
 (iy:n+m≤cap) {w':World} (gQ:∀a,A=some a→(storeCells (a.add (n*i.size)) news).run P w = .ok () w') (hw:A=none→w'=w) :
 (aaG #[t,t2] ty #[.slice A n cap,xv]).run P w = .ok (.slice A (n+m) cap) w':=by
 have hz:(match d2 with|.int _=>true|_=>false)=false:=by cases d2<;>first|rfl|exact absurd rfl (nY _)
 cases A with
 |none =>obtain rfl:=hw rfl;simp[aaG,run_underlying ht,run_underlying kZ,sizeOf,typeInfo,hi,hlen,iy,wV,hz]
 |some a =>have:=gQ a rfl;simp[aaG,run_underlying ht,run_underlying kZ,sizeOf,typeInfo,hi,hlen,iy,wV,hz,this]
theorem zei{t t2 et ty:TypeId}{i:TypeInfo}{z:Value}{d2:TypeDesc}(ht:P.underlying t=some (.slice et))(kZ:P.underlying t2=some d2)(nY:∀k,d2 ≠ .int k)(hi:P.info? et=some i)(nZ:i.zero=some z)
 {A:Option Addr} {n cap m:Nat} {xv:Value} {news vR:List Value} (hlen:(abF xv).run P w = .ok m w) (wV:(aaC i.size m xv).run P w.drew = .ok news.toArray w.drew)
 (hold:(aaC i.size n (.slice A n cap)).run P w.drew = .ok vR.toArray w.drew)
 (iy:¬n+m≤cap) (hb:(n+m)*i.bytes≤2 ^ 46) (CE:0<i.bytes) (kB:i.bytes≤2 ^ 20) :
 ∃c',n+m≤c'∧(aaG #[t,t2] ty #[.slice A n cap,xv]).run P w =
  .ok (.slice (some ⟨w.heap.size,0,none⟩) (n+m) c') (w.drew.alloc (.cells (vR.toArray++news.toArray++abl z.cells (c' - (n+m))) et)):=by
 have hz:(match d2 with|.int _=>true|_=>false)=false:=by cases d2<;>first|rfl|exact absurd rfl (nY _)
 have BD:=zwq hb kB (Nat.lt_of_not_le iy);refine⟨grownCap w (n+m) cap et,grownCap_ge w _ _ _,?_⟩;have Ac:i.bytes≠0:=by omega
 have U6:¬281474976710656<aaQ (n+m) cap*i.bytes:=by omega
 have hn:¬(n+m≤cap):=iy;simp[aaG,run_underlying ht,run_underlying kZ,sizeOf,typeInfo,zeroValue,hi,nZ,hlen,hn,U6,Question.forced,wV,hold,newRow,grownCap,hz,Ac];congr 2;apply Array.ext';simp[abH]
theorem Ad{size n:Nat}{A:Option Addr}{c:Nat}{us:List Value}(hl:us.length=n*size)
 (hc:0<n→∃b o,A=some ⟨b,o,none⟩∧∀(j:Nat)(u:Value),us[j]? = some u→w.cell? ⟨b,o+j,none⟩=some u) :
 (aaC size n (.slice A n c)).run P w = .ok us.toArray w:=by
 cases A with
 | none =>
  have h0:n=0:=by
   cases n with
   |zero=>rfl
   |succ n=>obtain⟨b,o,h,_⟩:=hc (by omega);cases h
  subst h0;have:us=[]:=aau (by simpa using hl);subst this;simp[aaC]
 | some a =>
  simp only[aaC];rw[←hl];by_cases hn:0<n
  ·obtain⟨b,o,h,fp⟩:=hc hn;obtain rfl:=aaj h;exact run_loadCells_list (P:=P) w _ us (fun j v hj=>by rw[mu];exact fp j v hj)
  ·have h0:n=0:=by omega
   subst h0;have:us=[]:=aau (by simpa using hl);subst this;simp[loadCells,loadCellsFrom]
structure uT (P:Program) (w:World) (G:GS) (size:Nat) (τ:Ty) (m:List τ.den) (xv:Value) (news:List Value):Prop where
 row:bf (fun x us=>al w G.D τ x us) m news
 len:∀wx:World,(abF xv).run P wx = .ok m.length wx
 first:∀wx:World,(∀a,wx.cell? a=w.cell? a)→(aaC size m.length xv).run P wx = .ok news.toArray wx
mutual
theorem U7{w:World}{D:Nat→Nat→Prop}:∀(τ:Ty)(x:τ.den)(vs:List Value),al w D τ x vs→∀v∈vs,v.oneCell'=true
 |.u8,x,vs,h=>by simp only[al]at h;subst h;simp[aa6]
 |.iX _,x,vs,h=>by simp only[al]at h;subst h;simp[aa6]
 |.int k,x,vs,h=>by simp only[al]at h;obtain⟨_,rfl⟩:=h;simp[aa6]
 |.bool,x,vs,h=>by simp only[al]at h;subst h;simp[aa6]
 |.str,x,vs,h=>by simp only[al]at h;obtain⟨_,bs,rfl,_⟩:=h;simp[aa6]
 |.sl e,l,vs,h=>by simp only[al]at h;obtain⟨_,A,c,us,rfl,_⟩:=h;simp[aa6]
 |.agg ts,x,vs,h=>by simp only[al]at h;exact zkj ts x vs h
theorem zkj{w:World}{D:Nat→Nat→Prop}:∀(ts:List Ty)(x:denL ts)(vs:List Value),eU w D ts x vs→∀v∈vs,v.oneCell'=true
 |[],x,vs,h=>by simp only[eU]at h;subst h;simp
 |[t],x,vs,h=>by simp only[eU]at h;exact U7 t x vs h
 |t::u::us,(x,y),vs,h=>by
  simp only[eU]at h;obtain⟨v1,v2,rfl,h1,h2⟩:=h;intro v hv;rcases aa0.1 hv with hv|hv
  ·exact U7 t x v1 h1 v hv
  ·exact zkj (u::us) y v2 h2 v hv
end
theorem U8{w:World}{D:Nat→Nat→Prop}{τ:Ty}:∀{l:List τ.den}{us:List Value},bf (fun x us=>al w D τ x us) l us→∀v∈us,v.oneCell'=true
 |[],us,h=>by have:us=[]:=h;subst this;simp
 |x::l,us,h=>by
  obtain⟨v1,v2,rfl,h1,h2⟩:=h;intro v hv;rcases aa0.1 hv with hv|hv
  ·exact U7 τ x v1 h1 v hv
  ·exact U8 h2 v hv
def Ends{X:Type}(B0:Nat)(w0:Wd)(G:GS)(w:World)(k:AV→H→Option X)(r:X)(v:Value)(w':World):Prop:=
 ∃av G' h',Ext G.base G G'∧bg G.D w w'∧St B0 w0 G' h' w'∧af w' G' v av∧k av h'=some r
theorem Ends.same{X:Type}{B0:Nat}{w0:Wd}{h:H}{k:AV→H→Option X}{r:X}{v:Value}{av:AV}(s:St B0 w0 G h w)(hv:af w G v av)(hk:k av h=some r):Ends B0 w0 G w k r v w:=⟨av,G,h,Ext.refl (cF.le_refl _),bg.refl _ _,s,hv,hk⟩
theorem St.EJ{B0:Nat}{w0:Wd}{h:H}(s:St B0 w0 G h w){w':World}{b:Nat}(hg:w.grownBy w' (some b))(hB:B0≤b)(hD:∀o,G.D b o→w'.cell? ⟨b,o,none⟩=w.cell? ⟨b,o,none⟩)
 (hk:∀(cs:Array Value)(t:TypeId)(fr:Nat×Nat),w.heap[b]? = some (.cells cs t fr)→∃ij:Array Value,w'.heap[b]? = some (.cells ij t fr)∧ij.size=cs.size)
 (hc:∃cs t fr,w.heap[b]? = some (.cells cs t fr)) (hn:some b∉G.bx):bg G.D w w'∧St B0 w0 G h w':=by
 obtain⟨eQ,h1,h2,h3,h4,h5,h6⟩:=s.row hg hB hD hk hc;refine⟨eQ,?_⟩;exact
 { below:=h1
   b0:=h2
   eb:=s.eb
   box:=fun r x es ju gh=>by obtain⟨wy,ob,kA,fN⟩:=s.box r x es ju gh;have nX:x≠b:=fun e=>hn (e▸abu ju);exact⟨wy,ob,(hg.block x (aak.1 kA).1 (by simp[nX])).trans kA,fN.eJ (Ext.refl (cF.le_refl _)) eQ rfl⟩
   fl:=s.fl
   inj:=s.inj
   ec:=h3
   fo:=s.fo
   fO:=s.fO
   tok:=h4
   gA:=s.gA
   fU:=s.fU
   loop:=h5
   ie:=s.ie
   gu:=h6
   ig:=s.ig }
structure kC (tk fh:List (Option Tk)) (pos:Nat) (g:Tk):Prop where
 other:∀t,t≠pos→fh[t]? = tk[t]?
 here:fh[pos]? = some (some g)
 step:pos=tk.length∨∃g0,tk[pos]? = some (some g0)∧g0.n<g.n
theorem kC.push(tk:List (Option Tk))(g:Tk):kC tk (tk++[some g]) tk.length g:=
 ⟨fun t ht=>by
  by_cases h:t<tk.length
  ·rw[aai h]
  ·rw[List.getElem?_eq_none (by simp;omega),List.getElem?_eq_none (by omega)],by simp,.inl rfl⟩
theorem kC.set{tk:List (Option Tk)}{t:Nat}{g0:Tk}(h:tk[t]? = some (some g0)){g:Tk}(hn:g0.n<g.n):kC tk (tk.set t (some g)) t g:=⟨fun u hu=>by simp[abk,Ne.symm hu],by simp[(aaf.1 h).1],.inr ⟨g0,h,hn⟩⟩
theorem St.tH{B0:Nat}{w0:Wd}{h:H}(s:St B0 w0 G h w){D':Nat→Nat→Prop}{pos:Nat}{g:Tk}{fh:List (Option Tk)}(hT:kC G.tk fh pos g)
 (hD:∀b o,G.D b o→D' b o) (Gc:∀b o,D' b o→G.D b o∨B0≤b) (Lz:∀(b o:Nat),D' b o→(∃u,w.cell? ⟨b,o,none⟩=some u)∧some b∉G.bx)
 (U9:∀(t:Nat)(g0:Tk),t≠pos→G.tk[t]? = some (some g0)→g0.n<g0.cap→∀b,g0.A=some b→∀i,g0.n*g0.sz≤i→i<g0.cap*g0.sz→¬D' b i)
 (hg:DK B0 { G with D:=D' } w g) (hi:∀(t:Nat)(g0:Tk),t≠pos→G.tk[t]? = some (some g0)→g0.n<g0.cap→g.n<g.cap→g0.A≠g.A) :
 St B0 w0 { G with D:=D',tk:=fh } { h with tk:=fh.map (abK Tk.n) } w∧Ext G.base G { G with D:=D',tk:=fh }:=by
 have hx : Ext G.base G { G with D:=D',tk:=fh }:=
  { D := hD
    bx:=fun _ _ => .inl ⟨rfl,rfl⟩
    tk:=fun t ht=>by
     have jF:t<G.tk.length:=ht;by_cases hp:t=pos
     ·subst hp;rcases hT.step with e|⟨g0,h0,bo⟩
      ·omega
      ·exact⟨some g0,some g,h0,hT.here,.inr (.inr ⟨g0,g,rfl,rfl,bo⟩)⟩
     ·show rD G.tk[t]? fh[t]?;rw[hT.other t hp];exact⟨G.tk[t],G.tk[t],by simp[jF],by simp[jF],.inr (.inl rfl)⟩
    lp:=fun _ _=>rfl
    df:=rfl }
 refine⟨?_,hx⟩;exact
 { below := s.below
   b0:=s.b0
   eb:=s.eb
   box:=fun r b cs h1 h2=>by obtain⟨hB,ob,hh,hr⟩:=s.box r b cs h1 h2;exact⟨hB,ob,hh,hr.eJ hx (bg.refl _ _) rfl⟩
   fl:=s.fl
   inj:=s.inj
   ec:=Lz
   fo:=fun b o x=>(Gc b o x).elim (s.fo b o) .inr
   fO:=rfl
   tok := fun t g' ht=>by
    by_cases hp:t=pos
    ·subst hp;have e:some (some g')=some (some g):=ht.symm.trans hT.here;simp at e;subst e;exact hg
    ·have jF:G.tk[t]? = some (some g'):=(hT.other t hp).symm.trans ht;obtain⟨h1,h2⟩:=s.tok t g' jF;refine⟨h1,fun bo => ?_⟩;obtain⟨b,hA,hB,hn,cs,et,fr,hh,hc,je⟩:=h2 bo;exact⟨b,hA,hB,hn,cs,et,fr,hh,hc,fun i i1 i2=>⟨U9 t g' hp jF bo b hA i i1 i2,(je i i1 i2).2⟩⟩
   gA := fun t t' g1 g2 h1 h2 c_ l1 l2=>by
    by_cases hp:t=pos
    ·subst hp;have e:some (some g1)=some (some g):=h1.symm.trans hT.here;simp at e;subst e;have nB:G.tk[t']? = some (some g2):=(hT.other t' (Ne.symm c_)).symm.trans h2;exact Ne.symm (hi t' g2 (Ne.symm c_) nB l2 l1)
    ·have qc:G.tk[t]? = some (some g1):=(hT.other t hp).symm.trans h1;by_cases xl:t'=pos
     ·subst xl;have e:some (some g2)=some (some g):=h2.symm.trans hT.here;simp at e;subst e;exact hi t g1 hp qc l1 l2
     ·have nB:G.tk[t']? = some (some g2):=(hT.other t' xl).symm.trans h2;exact s.gA t t' g1 g2 qc nB c_ l1 l2
   fU:=s.fU
   loop:=s.loop
   ie:=s.ie
   gu:=s.gu
   ig:=s.ig }
theorem zin {X:Type} {B0:Nat} {w0:Wd} {h:H} {k:AV→H→Option X} {r:X} (s:St B0 w0 G h w) {t t2 et ty:TypeId} {i:TypeInfo} {z:Value} {d2:TypeDesc}
 (ht:P.underlying t=some (.slice et)) (kZ:P.underlying t2=some d2) (nY:∀k,d2 ≠ .int k) (hi:P.info? et=some i) (nZ:i.zero=some z) (Ae:z.cells.size=i.size) (oA:0<i.size)
 {τ:Ty} (dz:i.size=τ.size) {l m:List τ.den} {c:Cap} {sv xv:Value} {news:List Value} (hs:af w G sv (.sl τ l c)) (hx:uT P w G i.size τ m xv news)
 (hg:grow τ l m c i.bytes h k=some r) :
 ∃v w',(aaG #[t,t2] ty #[sv,xv]).run P w = .ok v w'∧Ends B0 w0 G w k r v w':=by
 unfold grow at hg;obtain⟨hb,hg⟩:=zf hg;simp only[aax,decide_eq_true_eq]at hb;obtain⟨hb,CE,kB⟩:=hb;have nK:l.length+m.length≤ai:=by
  have:l.length+m.length≤(l.length+m.length)*i.bytes:=Nat.le_mul_of_pos_right _ CE;have h3:(2:Nat) ^ 46≤ai:=by decide
  omega
 have EK:h.tk.length=G.tk.length:=by rw[s.fO];simp
 cases hs with
 |sl _ _ _ _ fG j7 =>
 simp only[al]at fG;obtain⟨Cz,A,cap,us,Gd,sE,bX,fY⟩:=fG;simp only[aaO,and_true]at Gd;subst Gd;have hlen:∀(x:τ.den)(vs:List Value),al w G.D τ x vs→vs.length=τ.size:=fun x vs hx=>i_ hx;have BE:us.length=l.length*τ.size:=bf.length hlen bX;have sF:news.length=m.length*τ.size:=bf.length hlen hx.row;have Ge:=bf.append bX hx.row;have xm:(us++news).length=(l.length+m.length)*τ.size:=by rw[aav,BE,sF,aaq]
 by_cases iy:l.length+m.length≤cap
 ·by_cases hm : m=[]
  ·
   subst hm;have U_:news=[]:=aau (by simpa using sF);subst U_;have ew:=xk (w:=w) (ty:=ty) (n:=l.length) (cap:=cap) ht kZ nY hi (A:=A) (hx.len w) (hx.first w (fun _=>rfl)) (by simpa using iy) (w':=w) (fun a _=>rfl) (fun _=>rfl);simp only[List.length_nil,abt]at ew;refine⟨_,w,ew,?_⟩;have hRC:∀D':Nat→Nat→Prop,(∀b o,G.D b o→D' b o)→al w D' (.sl τ) (l++[]) [.slice A l.length cap]:=fun D' LA=>by refine al.mono LA (bg.refl _ _) _ _ _ ?_;simp only[al,aa1];exact⟨Cz,A,cap,us,rfl,sE,bX,fY⟩
   cases c with
   | full =>
    obtain⟨A',eT⟩:=j7;simp at eT;obtain⟨_,gU⟩:=eT
    obtain⟨gQ,iT⟩:=s.tH (D':=G.D) (kC.push G.tk ⟨l.length,none,l.length,τ.size⟩) (fun _ _ x=>x) (fun _ _ x => .inl x) s.ec
     (fun t g0 _ h0 bo b hA i i1 i2=>by obtain⟨b',eT,_,_,_,_,_,_,_,je⟩:=(s.tok t g0 h0).2 bo;rw[hA]at eT;obtain rfl:=aaj eT;exact(je i i1 i2).1)
     ⟨aaw _,fun h=>absurd h (Nat.lt_irrefl _)⟩ (fun t g0 _ _ _ h=>absurd h (Nat.lt_irrefl _))
    refine⟨_,_,_,iT,bg.refl _ _,gQ,.sl τ (l++[]) (.own G.tk.length) _ (hRC _ (fun _ _ x=>x)) ?_,?_⟩
    ·refine⟨some ⟨l.length,none,l.length,τ.size⟩,by simp,fun g hg => ?_⟩;obtain rfl:=aaj hg;simp only[aa1];exact⟨aaw _,fun _=>⟨by simp,A,by rw[gU],fun h=>absurd h (Nat.lt_irrefl _)⟩⟩
    ·rw[EK]at hg;simp only[abv,aaE,abw,←s.fO]at hg ⊢;simpa using hg
   | own t0 =>
    simp only at hg;split at hg
    ·rename_i n hn;obtain⟨he,Gf⟩:=zf hg;replace hg:=Gf;rw[b_]at he;subst he;refine⟨_,G,h,Ext.refl (cF.le_refl _),bg.refl _ _,s,.sl τ (l++[]) (.own t0) _ (hRC _ (fun _ _ x=>x)) (by simpa using j7),?_⟩;have:{ h with tk:=dF h.tk t0 (some (l++[]).length) }=h:=by
      rw[zk];rw[zo]at hn;have e:h.tk.set t0 (some (l++[]).length)=h.tk:=by
       apply List.ext_getElem?;intro j;rw[abk];split
       ·rename_i hj;subst hj;split
        ·rw[hn];simp
        ·rename_i hj;exact absurd (aaf.1 hn).1 hj
       ·rfl
      rw[e]
     rw[this]at hg;exact hg
    ·cases hg
   |eY=>cases hg
   |fresh=>cases hg
  ·
   have EL:0<m.length:=List.length_pos_iff.2 hm;cases c with
   |full =>obtain⟨A',eT⟩:=j7;simp at eT;omega
   |eY=>cases hg
   |fresh=>cases hg
   | own t0 =>
    simp only at hg;split at hg
    ·rename_i n hn;obtain⟨he,Gf⟩:=zf hg;replace hg:=Gf;rw[b_]at he;subst he;obtain⟨o,ho,hog⟩:=j7;rw[zo,s.fO,abI,ho]at hn;simp only[abc,aag]at hn;cases o with
     |none=>simp at hn
     |some g =>
     simp only[abc,aag]at hn;obtain⟨_,BD⟩:=hog g rfl;obtain⟨NF,A',eT,qd⟩:=BD hn.symm;simp only[abn]at eT;obtain⟨rfl,_,rfl⟩:=eT;obtain⟨b,rfl,U'⟩:=qd (by omega);obtain⟨b',hA2,hB,xo,cs,Va,fr,hh,dy,je⟩:=(s.tok t0 g ho).2 (by omega);rw[U']at hA2;obtain rfl:=aaj hA2;rw[NF,hn]at je;rw[NF]at dy;have ap2:(l.length+m.length)*τ.size≤cs.size:=aa5 (aa9 _ iy) dy;have ap3:(l.length+m.length)*τ.size=l.length*τ.size+m.length*τ.size:=aaq _ _ _;have ap4:(l.length+m.length)*τ.size≤g.cap*τ.size:=aa9 _ iy;have sG:=nz (P:=P) b (l.length*τ.size) Va fr news 0 cs w hh (fun j hj=>(je _ (by omega) (by omega)).2) (by omega) (U8 hx.row);simp only[abt]at sG;generalize xj:(cs.toList.take (l.length*τ.size)++news++cs.toList.drop (l.length*τ.size+news.length)).toArray=nv at sG;have tG:nv.toList=cs.toList.take (l.length*τ.size)++news++cs.toList.drop (l.length*τ.size+news.length):=by rw[←xj]
     have nf:nv.size=cs.size:=by rw[←xj];simp;omega
     have eM:=setRow_heap w b cs nv Va fr hh
     have fp:∀o,(o<l.length*τ.size∨(l.length+m.length)*τ.size≤o)→(w.setRow b nv).cell? ⟨b,o,none⟩=w.cell? ⟨b,o,none⟩:=fun o ho=>by
      rw[zy eM,zy hh];rw[←aaz,←aaz,tG];rcases ho with ho|ho
      ·rw[abH,aai (by simp;omega),aaN,if_pos ho]
      ·rw[aal (by simp;omega),abg];congr 1;simp;omega
     have hDk:∀o,G.D b o→(w.setRow b nv).cell? ⟨b,o,none⟩=w.cell? ⟨b,o,none⟩:=fun o ho=>fp o (by
      by_cases h1:o<l.length*τ.size
      ·exact .inl h1
      ·refine .inr (aas fun h2 => ?_);exact(je o (by omega) (by omega)).1 ho)
     obtain⟨eQ,s'⟩:=s.EJ (zft w b nv) hB hDk (fun ij t' fr' kA=>by rw[hh]at kA;cases kA;exact⟨nv,eM,nf⟩) ⟨_,_,_,hh⟩ xo
     have ew:=xk (w:=w) (ty:=ty) (n:=l.length) (cap:=g.cap) ht kZ nY hi (A:=some ⟨b,0,none⟩) (hx.len w) (hx.first w (fun _=>rfl)) iy (w':=w.setRow b nv)
      (fun a ha=>by obtain rfl:=aaj ha;rw[mu,dz,aaH];exact sG) (fun ha=>by cases ha)
     have Vb:∀(j:Nat)(u:Value),(us++news)[j]? = some u→(w.setRow b nv).cell? ⟨b,j,none⟩=some u:=fun j u hj=>by
      by_cases h1:j<us.length
      ·rw[aai h1]at hj;rw[fp j (.inl (by omega))];have k7:0<l.length:=by
        cases hq:l.length with
        |zero=>rw[hq]at BE;omega
        |succ q=>omega
       obtain⟨b2,o2,hA3,yE⟩:=fY k7;simp only[aag,Addr.mk.injEq,and_true]at hA3;obtain⟨rfl,rfl⟩:=hA3;simpa using (yE j u hj).2
      ·rw[aal (by omega)]at hj;rw[zy eM,←aaz,tG,aai (by simp;have:=(aaf.1 hj).1;omega),aal (by simp;omega)];rw[←hj];congr 1;simp;omega
     let D':Nat→Nat→Prop:=fun x o=>G.D x o∨(x=b∧o<(l.length+m.length)*τ.size)
     have Af:∀o,o<(l.length+m.length)*τ.size→∃u,(w.setRow b nv).cell? ⟨b,o,none⟩=some u:=fun o ho=>by rw[zy eM];exact⟨nv[o]'(by omega),by simp[show o<nv.size from by omega]⟩
     obtain⟨gQ,iT⟩:=s'.tH (D':=D') (kC.set (g:=⟨l.length+m.length,some b,g.cap,τ.size⟩) ho (by simp only;omega)) (fun _ _ x => .inl x) (fun x o hx=>hx.imp id fun y=>by rw[y.1];assumption)
      (fun x o ng=>by
       rcases ng with ng|⟨rfl,ng⟩
       ·exact s'.ec x o ng
       ·exact⟨Af o ng,xo⟩)
      (fun t g0 c_ h0 bo x hA j j1 j2 hd=>by
       obtain⟨b',eT,_,_,_,_,_,_,_,Ag⟩:=(s'.tok t g0 h0).2 bo;rw[hA]at eT;obtain rfl:=aaj eT;rcases hd with hd|⟨rfl,hd⟩
       ·exact(Ag j j1 j2).1 hd
       ·exact s'.gA t t0 g0 g h0 ho c_ bo (by omega) (by rw[hA,U']))
      ⟨iy,fun bo=>⟨b,rfl,hB,xo,nv,Va,fr,eM,by rw[nf];exact dy,fun j j1 j2=>by
       simp only at j1 j2;refine⟨fun hd => ?_,?_⟩
       ·rcases hd with hd|⟨_,hd⟩
        ·exact(je j (by omega) (by omega)).1 hd
        ·omega
       ·rw[zfl];exact(je j (by omega) (by omega)).2⟩⟩
      (fun t g0 c_ h0 bo _=>by have:=s'.gA t t0 g0 g h0 ho c_ bo (by omega);rwa[U']at this)
     refine⟨_,_,ew,_,_,_,iT,eQ,gQ,.sl τ (l++m) (.own t0) _ ?_ ?_,?_⟩
     ·simp only[al,aav];refine⟨nK,some ⟨b,0,none⟩,g.cap,us++news,rfl,iy,?_,fun _=>⟨b,0,rfl,fun j u hj=>⟨.inr ⟨by rfl,?_⟩,?_⟩⟩⟩
      ·exact bf.mono _ _ (fun x _ vs l7=>al.mono (fun _ _ hd => .inl hd) eQ τ x vs l7) Ge
      ·have:=(aaf.1 hj).1;rw[xm]at this;omega
      ·rw[aaH];exact Vb j u hj
     ·refine⟨some ⟨l.length+m.length,some b,g.cap,τ.size⟩,by simp[(aaf.1 ho).1],fun g' pb => ?_⟩;obtain rfl:=aaj pb;simp only[aav];exact⟨aaw _,fun _=>⟨by simp,_,rfl,fun _=>⟨b,rfl,rfl⟩⟩⟩
     ·rw[zk]at hg;have e:(G.tk.set t0 (some ⟨l.length+m.length,some b,g.cap,τ.size⟩)).map (abK Tk.n)=h.tk.set t0 (some (l++m).length):=by rw[s.fO,List.map_set];simp
      rw[e];exact hg
    ·cases hg
 ·
  have CF:∃c',l.length+m.length≤c'∧(aaG #[t,t2] ty #[.slice A l.length cap,xv]).run P w =
   .ok (.slice (some ⟨w.heap.size,0,none⟩) (l.length+m.length) c') (w.drew.alloc (.cells (us.toArray++news.toArray++abl z.cells (c' - (l.length+m.length))) et)):=
   zei ht kZ nY hi nZ (hx.len w) (hx.first w.drew (fun _=>rfl))
    (Ad (by rw[dz];exact BE) (fun h0=>by obtain⟨b,o,e,yE⟩:=fY h0;exact⟨b,o,e,fun j u hj=>(yE j u hj).2⟩)) iy hb CE kB
  obtain⟨c',oC,ew⟩:=CF;generalize Gg:(us.toArray++news.toArray++abl z.cells (c' - (l.length+m.length)))=cells at ew;have gU:cells.toList=(us++news)++(abl z.cells (c' - (l.length+m.length))).toList:=by rw[←Gg];simp
  have dy:cells.size=c'*τ.size:=by rw[←Gg];simp only[Array.size_append,List.size_toArray,size_zeroCells,Ae,dz,BE,sF,←aaq];congr 1;omega
  have nC:w.grownBy (w.drew.alloc (.cells cells et)) none:=⟨rfl,rfl,rfl,by simp,fun k hk _=>Below.heap_alloc w.drew _ k hk⟩;have s':=s.gH nC;have eQ:bg G.D w (w.drew.alloc (.cells cells et)):=bg.fB nC (fun b o x=>(s.ec b o x).1) (fun _ _ _=>by simp);have eM:(w.drew.alloc (.cells cells et)).heap[w.heap.size]? = some (.cells cells et (0,0)):=aaP w.drew _
  have xo:some w.heap.size∉G.bx:=fun sH=>by
   obtain⟨q,hq⟩:=aba sH;have sI:q<h.bx.length:=by rw[s.eb];exact(aaf.1 hq).1
   obtain⟨_,_,hh,_⟩:=s.box q _ _ hq (aaB sI);have:=(aak.1 hh).1;omega
  have mL:∀(t:Nat)(g0:Tk),G.tk[t]? = some (some g0)→g0.n<g0.cap→g0.A≠some w.heap.size:=fun t g0 h0 bo e=>by obtain⟨b',eT,_,_,_,_,_,hh,_⟩:=(s.tok t g0 h0).2 bo;rw[eT]at e;simp at e;subst e;have:=(aak.1 hh).1;omega
  have ap6:(l.length+m.length)*τ.size≤c'*τ.size:=aa9 _ oC
  let D':Nat→Nat→Prop:=fun x o=>G.D x o∨(x=w.heap.size∧o<(l.length+m.length)*τ.size)
  have Af:∀o,o<(l.length+m.length)*τ.size→∃u,(w.drew.alloc (.cells cells et)).cell? ⟨w.heap.size,o,none⟩=some u:=fun o ho=>by rw[zy eM];exact⟨cells[o]'(by omega),by simp[show o<cells.size from by omega]⟩
  have key:∀(pos:Nat)(fh:List (Option Tk)),kC G.tk fh pos ⟨l.length+m.length,some w.heap.size,c',τ.size⟩ →
   k (.sl τ (l++m) (.own pos)) { h with tk:=fh.map (abK Tk.n) }=some r →
   Ends B0 w0 G w k r (.slice (some ⟨w.heap.size,0,none⟩) (l.length+m.length) c') (w.drew.alloc (.cells cells et)):=by
   intro pos fh hT ik
   obtain⟨gQ,iT⟩:=s'.tH (D':=D') hT (fun _ _ x => .inl x) (fun x o hx=>hx.imp id fun y=>by rw[y.1];exact s.b0)
    (fun x o ng=>by
     rcases ng with ng|⟨rfl,ng⟩
     ·exact s'.ec x o ng
     ·exact⟨Af o ng,xo⟩)
    (fun t g0 _ h0 bo x hA j j1 j2 hd=>by
     obtain⟨b',eT,_,_,_,_,_,_,_,Ag⟩:=(s'.tok t g0 h0).2 bo;rw[hA]at eT;obtain rfl:=aaj eT;rcases hd with hd|⟨rfl,hd⟩
     ·exact(Ag j j1 j2).1 hd
     ·exact mL t g0 h0 bo hA)
    ⟨oC,fun bo=>⟨w.heap.size,rfl,s.b0,xo,cells,et,(0,0),eM,by simp only;omega,fun j j1 j2=>by
     simp only at j1 j2;refine⟨fun hd => ?_,zth eM⟩;rcases hd with hd|⟨_,hd⟩
     ·obtain⟨u,hu⟩:=(s.ec _ _ hd).1;have:=aay w _ hu;simp at this
     ·omega⟩⟩
    (fun t g0 _ h0 bo _=>mL t g0 h0 bo)
   refine⟨_,_,_,iT,eQ,gQ,.sl τ (l++m) (.own pos) _ ?_ ?_,ik⟩
   ·simp only[al,aav];refine⟨nK,some ⟨w.heap.size,0,none⟩,c',us++news,rfl,oC,?_,fun _=>⟨w.heap.size,0,rfl,fun j u hj => ?_⟩⟩
    ·exact bf.mono _ _ (fun x _ vs l7=>al.mono (fun _ _ hd => .inl hd) eQ τ x vs l7) Ge
    ·have sJ:=(aaf.1 hj).1;rw[xm]at sJ;refine⟨.inr ⟨rfl,by omega⟩,?_⟩;rw[aaH,zy eM,←aaz,gU,aai (by rw[xm];omega)];exact hj
   ·refine⟨_,hT.here,fun g' pb => ?_⟩;obtain rfl:=aaj pb;simp only[aav];exact⟨aaw _,fun _=>⟨by simp,_,rfl,fun _=>⟨_,rfl,rfl⟩⟩⟩
  refine⟨_,_,ew,?_⟩;cases c with
  |full =>refine key G.tk.length _ (kC.push G.tk _) ?_;rw[EK]at hg;simp only[abv,aaE,abw,←s.fO]at hg ⊢;simpa using hg
  | own t0 =>
   simp only at hg;split at hg
   ·rename_i n hn;obtain⟨he,Gf⟩:=zf hg;replace hg:=Gf;rw[b_]at he;subst he;obtain⟨o,ho,_⟩:=j7;rw[zo,s.fO,abI,ho]at hn;simp only[abc,aag]at hn;cases o with
    |none=>simp at hn
    |some g =>
    simp only[abc,aag]at hn;refine key t0 _ (kC.set ho (by simp only;omega)) ?_;rw[zk]at hg;have e:(G.tk.set t0 (some ⟨l.length+m.length,some w.heap.size,c',τ.size⟩)).map (abK Tk.n)=h.tk.set t0 (some (l++m).length):=by rw[s.fO,List.map_set];simp
    rw[e];exact hg
   ·cases hg
  |eY=>cases hg
  |fresh=>cases hg
end
end Go.AM
namespace Go.AM
open Go.RowKit
section
variable {P:Program} {w:World} {G:GS}
theorem jJ{t:Nat}{ti:TI}(h:nc P t ti)(hz:ti.zero≠[]):∃z,(zeroValue t).run P w = .ok z w∧∀w' G',ak w' G' z.cells.toList ti.zero:=by obtain⟨i,hi,_,_,CG⟩:=h.info;obtain⟨z,h1,h2⟩:=CG hz;exact⟨z,by simp[zeroValue,typeInfo,hi,h1],h2⟩
theorem zmf:∀(vs:List Value)(k off:Nat)(cs:Array Value),off+k+vs.length≤cs.size →
 ((vs.zipIdx k).foldl (fun(cs:Array Value) (p:Value×Nat)=>cs.setIfInBounds (off+p.2) p.1) cs).toList=cs.toList.take (off+k)++vs++cs.toList.drop (off+k+vs.length)
 |[],k,off,cs,_=>by simp
 |v::vs,k,off,cs,h=>by simp only[List.zipIdx_cons,List.foldl_cons];rw[zmf vs (k+1) off _ (by simp at h ⊢;omega)];have e:=list_seg_step cs.toList (off+k) v vs (by simp at h ⊢;omega);simp only[abD,aaR];rw[show off+(k+1)=off+k+1 from by omega,show off+k+(vs.length+1)=off+k+(vs.length+1)from rfl];simpa[abE]using e
theorem Vc(vs cs:Array Value)(off:Nat)(h:off+vs.size≤cs.size) :
 (vs.zipIdx.foldl (fun(cs:Array Value) (p:Value×Nat)=>cs.setIfInBounds (off+p.2) p.1) cs).toList=cs.toList.take off++vs.toList++cs.toList.drop (off+vs.size):=by
 rw[←Array.foldl_toList,Array.toList_zipIdx];have:=zmf vs.toList 0 off cs (by simpa using h);simpa using this
theorem zkk{place:Nat→Option (Nat×Nat)}{i off sz:Nat}{v:Value}{rest:List (Nat×Value)}{arr:Array Value}{c:AV}{cs ij:List AV}(hp:place i=some (off,sz))(hv:af w G v c)
 (hs:gz off (cellsOf c) cs=some ij) (hl:(cellsOf c).length=sz) (h0:0<sz) (hr:ak w G arr.toList cs) :
 ∃fk:Array Value,ak w G fk.toList ij∧aa2 place arr ((i,v)::rest)=aa2 place fk rest:=by
 have hR:=wu hv (wv (by omega));have iz:v.cells.size=sz:=by have:=hR.1;simp at this;omega
 rcases F' _ _ _ _ hs with⟨hle,dy⟩ |⟨y7,_⟩
 ·have acm:off+v.cells.size≤arr.size:=by have:=hr.1;simp at this;omega
  refine⟨v.cells.zipIdx.foldl (fun cs (c,j)=>cs.setIfInBounds (off+j) c) arr,?_,?_⟩
  ·have e:=Vc v.cells arr off acm;have e':(v.cells.zipIdx.foldl (fun(cs:Array Value) (x:Value×Nat)=>match x with|(c,j)=>cs.setIfInBounds (off+j) c) arr).toList=arr.toList.take off++v.cells.toList++arr.toList.drop (off+v.cells.size):=e;rw[e',dy];have h2:=(hr.take off).append hR;have h3:=hr.drop (off+(cellsOf c).length);rw[hl,←iz]at h3;rw[hl,←iz];exact h2.append h3
  ·simp only[aa2,hp,iz];rw[if_neg (by simp;omega)]
 ·rw[y7]at hl;simp at hl;omega
theorem zg9{tab:Nat→Option TI}(hT:fC P tab){a:Act}{e:Env}{N:Nat}(he:eN w G N a.tmps e){fields:Array Field}{fs:List (Nat×Nat)}(Ah:fields.toList.map (fun f=>(f.offset,f.type))=fs){places:Array (Nat×Nat)}
 (uU:∀(i:Nat)(f:Field),fields[i]? = some f→∀ti,tab f.type=some ti→places[i]? = some (f.offset,ti.size)) :
 ∀(parts:List (Nat×Operand))(arr:Array Value)(cs ij:List AV),ak w G arr.toList cs→mG tab fs e parts cs=some ij →
  ∃fk:Array Value,aa2 (places[·]?) arr (parts.map fun p=>(p.1,a.eval p.2))=some fk∧ak w G fk.toList ij
 |[],arr,cs,ij,hr,h=>by simp only[mG,aag]at h;subst h;exact⟨arr,rfl,hr⟩
 | (i,x)::rest,arr,cs,ij,hr,h=>by
  simp only[mG]at h;split at h
  ·rename_i off t hn;split at h
   ·rename_i ti gB;split at h
    ·rename_i Vd hs;obtain⟨hc,h⟩:=zf h;simp only[aax,b_,eV]at hc;rw[zo,←Ah,abI]at hn;obtain⟨f,hf,hft⟩:=Option.map_eq_some_iff.1 hn;simp only[aaF]at hft;obtain⟨rfl,rfl⟩:=hft;have hp:=uU i f (by simpa using hf) ti gB;obtain⟨qE,ju,e1⟩:=zkk (place:=(places[·]?)) (rest:=rest.map fun p=>(p.1,a.eval p.2)) hp (iZ (he.ev x) ti.ty) hs hc.1 hc.2 hr;obtain⟨fk,e2,gh⟩:=zg9 hT he Ah uU rest qE Vd ij ju h;exact⟨fk,by rw[aaE,e1,e2],gh⟩
    ·cases h
   ·cases h
  ·cases h
theorem zha{a:Act}{e:Env}{N:Nat}(he:eN w G N a.tmps e){ei:TI} :
 ∀(parts:List (Nat×Operand))(arr:Array Value)(cs ij:List AV),ak w G arr.toList cs→mH ei e parts cs=some ij →
  ∃fk:Array Value,aa2 (fun i=>some (i*ei.size,ei.size)) arr (parts.map fun p=>(p.1,a.eval p.2))=some fk∧ak w G fk.toList ij
 |[],arr,cs,ij,hr,h=>by simp only[mH,aag]at h;subst h;exact⟨arr,rfl,hr⟩
 |(i,x)::rest,arr,cs,ij,hr,h=>by
  simp only[mH]at h;split at h
  ·rename_i Vd hs;obtain⟨hc,h⟩:=zf h;simp only[aax,b_,eV]at hc;obtain⟨qE,ju,e1⟩:=zkk (place:=fun i=>some (i*ei.size,ei.size)) (rest:=rest.map fun p=>(p.1,a.eval p.2)) rfl (iZ (he.ev x) ei.ty) hs hc.1 hc.2 hr;obtain⟨fk,e2,gh⟩:=zha he rest qE Vd ij ju h;exact⟨fk,by rw[aaE,e1,e2],gh⟩
  ·cases h
mutual
theorem Gh{w:World}{G:GS}:∀(τ:Ty)(us:List Value)(cs:List AV)(x:τ.den)(r:List AV),ak w G us cs→τ.of cs=some (x,r)→∃v1 v2,us=v1++v2∧al w G.D τ x v1∧ak w G v2 r
 | .u8,us,cs,x,r,hr,h=>by
  simp only[Ty.of]at h;split at h
  ·rename_i n rest;simp only[aag,aaF]at h;obtain⟨rfl,rfl⟩:=h;cases us with
   |nil=>have:=hr.1;simp at this
   | cons u us =>
    obtain⟨h1,h2⟩:=hr.tail;refine⟨[u],us,rfl,?_,h2⟩;cases h1 with
    | int k n hk =>
     simp only[al];obtain⟨h3,h4⟩:=hk rfl;have:((ab2 n.toNat).toNat:Int)=n:=by
      have:n.toNat<256:=by omega
      simp[Nat.mod_eq_of_lt this];omega
     rw[this]
  ·cases h
 | .iX _,us,cs,x,r,hr,h=>by
  simp only[Ty.of]at h;split at h
  ·rename_i n rest;simp only[aag,aaF]at h;obtain⟨rfl,rfl⟩:=h;cases us with
   |nil=>have:=hr.1;simp at this
   | cons u us =>
    obtain⟨h1,h2⟩:=hr.tail;refine⟨[u],us,rfl,?_,h2⟩;cases h1 with
    | int k n hk =>
     simp only[al];obtain⟨h3,h4⟩:=hk rfl;have:((ab2 n.toNat).toNat:Int)=n:=by
      have:n.toNat<256:=by omega
      simp[Nat.mod_eq_of_lt this];omega
     rw[this]
  ·cases h
 | .int k,us,cs,x,r,hr,h=>by
  simp only[Ty.of]at h;split at h
  ·rename_i k' n rest;split at h
   ·rename_i hk;subst hk;simp only[aag,aaF]at h;obtain⟨rfl,rfl⟩:=h;cases us with
    |nil=>have:=hr.1;simp at this
    |cons u us =>
     obtain⟨h1,h2⟩:=hr.tail;refine⟨[u],us,rfl,?_,h2⟩;cases h1 with
     |int k n hk=>simp only[al];exact⟨hk,trivial⟩
   ·cases h
  ·cases h
 | .bool,us,cs,x,r,hr,h=>by
  simp only[Ty.of]at h;split at h
  ·rename_i b rest;simp only[aag,aaF]at h;obtain⟨rfl,rfl⟩:=h;cases us with
   |nil=>have:=hr.1;simp at this
   |cons u us =>
    obtain⟨h1,h2⟩:=hr.tail;refine⟨[u],us,rfl,?_,h2⟩;cases h1 with
    |bool b=>simp only[al]
  ·cases h
 | .str,us,cs,x,r,hr,h=>by
  simp only[Ty.of]at h;split at h
  ·rename_i b rest;simp only[aag,aaF]at h;obtain⟨rfl,rfl⟩:=h;cases us with
   |nil=>have:=hr.1;simp at this
   |cons u us =>
    obtain⟨h1,h2⟩:=hr.tail;refine⟨[u],us,rfl,?_,h2⟩;cases h1 with
    |str s l h hl=>simp only[al];exact⟨hl,s,rfl,h⟩
  ·cases h
 | .sl e,us,cs,x,r,hr,h=>by
  simp only[Ty.of]at h;split at h
  ·rename_i e' l c rest;split at h
   ·rename_i l' nD;simp only[aag,aaF]at h;obtain⟨rfl,rfl⟩:=h;cases us with
    |nil=>have:=hr.1;simp at this
    | cons u us =>
     obtain⟨h1,h2⟩:=hr.tail;refine⟨[u],us,rfl,?_,h2⟩;unfold gW at nD;split at nD
     ·rename_i hb;obtain rfl:=Ty.beq_eq _ _ hb;simp only[aag]at nD;subst nD;cases h1 with
      |sl τ l c v h hc=>exact h
     ·cases nD
   ·cases h
  ·rename_i rest;simp only[aag,aaF]at h;obtain⟨rfl,rfl⟩:=h;cases us with
   |nil=>have:=hr.1;simp at this
   |cons u us =>
    obtain⟨h1,h2⟩:=hr.tail;refine⟨[u],us,rfl,?_,h2⟩;cases h1 with
    |fe =>simp only[al];exact⟨by simp,none,0,[],rfl,by simp,rfl,fun h=>by simp at h⟩
  ·cases h
 |.agg ts,us,cs,x,r,hr,h=>by simp only[Ty.of]at h;obtain⟨v1,v2,e,h1,h2⟩:=zqb ts us cs x r hr h;exact⟨v1,v2,e,by simp only[al];exact h1,h2⟩
theorem zqb{w:World}{G:GS}:∀(ts:List Ty)(us:List Value)(cs:List AV)(x:denL ts)(r:List AV),ak w G us cs→EE ts cs=some (x,r)→∃v1 v2,us=v1++v2∧eU w G.D ts x v1∧ak w G v2 r
 |[],us,cs,x,r,hr,h=>by simp only[EE,aag,aaF]at h;obtain⟨_,rfl⟩:=h;exact⟨[],us,rfl,by simp only[eU],hr⟩
 |[t],us,cs,x,r,hr,h=>by simp only[EE]at h;obtain⟨v1,v2,e,h1,h2⟩:=Gh t us cs x r hr h;exact⟨v1,v2,e,by simp only[eU];exact h1,h2⟩
 | t :: u::ts,us,cs,x,r,hr,h=>by
  simp only[EE]at h;split at h
  ·rename_i y q hy;split at h
   ·rename_i z q' hz;simp only[aag,aaF]at h;obtain⟨rfl,rfl⟩:=h;obtain⟨v1,v2,e,h1,h2⟩:=Gh t us cs y q hr hy;obtain⟨v3,v4,e',h3,h4⟩:=zqb (u::ts) v2 q z q' h2 hz;exact⟨v1++v3,v4,by rw[e,e',abH],by simp only[eU];exact⟨v1,v3,rfl,h1,h3⟩,h4⟩
   ·cases h
  ·cases h
end
end
end Go.AM
namespace Go.AM
open Go.RowKit
section
variable {P:Program} {w:World} {G:GS}
def Good{X:Type}(P:Program)(B0:Nat)(w0:Wd)(G:GS)(w:World)(k:AV→H→Option X)(r:X)(res:Result Next):Prop:=
 ∃v w',(res = .ok (.value v) w'∨(res = .ok .skip w'∧v=undef))∧Ends B0 w0 G w k r v w'
theorem Good.v{X:Type}{B0:Nat}{w0:Wd}{h:H}{k:AV→H→Option X}{r:X}{s:Sem Value}{v:Value}{av:AV}(st:St B0 w0 G h w)(hs:s.run P w = .ok v w)(hv:af w G v av)(hk:k av h=some r) :
 Good P B0 w0 G w k r ((do pure (Next.value (←s)):Sem Next).run P w):=
 ⟨v,w,.inl (by simp[aao,hs]),Ends.same st hv hk⟩
theorem Good.v'{X:Type}{B0:Nat}{w0:Wd}{k:AV→H→Option X}{r:X}{s:Sem Value}{v:Value}{w':World}(hs:s.run P w = .ok v w')(he:Ends B0 w0 G w k r v w') :
 Good P B0 w0 G w k r ((do pure (Next.value (←s)):Sem Next).run P w):=
 ⟨v,w',.inl (by simp[aao,hs]),he⟩
theorem zj{v:Value}{k:IntKind}{n:Int}(h:af w G v (.int k n)):v = .int k n∧(k = .u8→0≤n∧n<256):=by cases h with|int k n h=>exact⟨rfl,h⟩
theorem n5{v:Value}{b:Bool}(h:af w G v (.bool b)):v = .bool b:=by cases h;rfl
theorem zq{v:Value}{l:List UInt8}(h:af w G v (.str l)):∃s:ByteArray,v = .string s∧s.data.toList=l∧l.length≤ai:=by cases h with|str s l h hl=>exact⟨s,rfl,h,hl⟩
theorem z0n(n:Int):0≤IntKind.wrap .u8 n∧IntKind.wrap .u8 n<256:=by simp only[IntKind.wrap,IntKind.signed,IntKind.bits];simp only[Bool.false_and,aaZ,if_false];exact⟨Int.emod_nonneg _ (by decide),Int.emod_lt_of_pos _ (by decide)⟩
theorem kD(k:IntKind)(n:Int):af w G (.int k (k.wrap n)) (.int k (k.wrap n)):=.int _ _ fun e=>by subst e;exact z0n n
theorem pc(s:ByteArray):s.toList=s.data.toList:=ByteArray.toList_eq s
theorem oD{t:TypeId}{d:TypeDesc}{x y:Value}{c:Bool}(ht:P.underlying t=some d)
 (h:(d = .bool∧∃a b,x = .bool a∧y = .bool b∧c=(a==b))∨((∃e,d = .pointer e)∧((∃a,x = .pointer (some a)∧y = .pointer none∧c=false)∨(x = .pointer none∧y = .pointer none∧c=true))) ∨
  ((∃ps rs v,d = .func ps rs v)∧((∃f a b,x = .func f a b∧y = .nilFunc∧c=false)∨(x = .nilFunc∧y = .nilFunc∧c=true)))) :
 (abe t x y).run P w = .ok c w:=by
 obtain⟨dd,e⟩:∃dd,Op.maxDepth=dd+1:=⟨9999,rfl⟩;unfold abe;rw[e];rcases h with⟨rfl,a,b,rfl,rfl,rfl⟩ |⟨⟨e',rfl⟩,h⟩ |⟨⟨ps,rs,v,rfl⟩,h⟩
 ·simp[abM,aao,run_underlying ht]
 ·rcases h with⟨a,rfl,rfl,rfl⟩ |⟨rfl,rfl,rfl⟩<;>simp[abM,aao,run_underlying ht]
 ·rcases h with⟨f,a,b,rfl,rfl,rfl⟩ |⟨rfl,rfl,rfl⟩<;>simp[abM,aao,run_underlying ht]
theorem zkl{tab:Nat→Option TI}(hT:fC P tab){t:TypeId}{x y:Value}{a b:AV}{c:Bool}(hx:af w G x a)(hy:af w G y b)
 (h:Lt (match tab t with|some ti=>ti.d|none => .other) a b=some c) :
 (aar .eql t x y).run P w = .ok (.bool c) w∧(aar .neq t x y).run P w = .ok (.bool (!c)) w∧∀(ox oy:Operand)(op:BinOp),(eqGuard op t ox oy x y).run P w = .ok () w:=by
 have g1:∀(x y:Value)(op:BinOp)(ox oy:Operand),(∀xs ys,¬(x = .agg xs∧y = .agg ys))→¬(x = .nilIface∧y = .nilIface)→(eqGuard op t ox oy x y).run P w = .ok () w:=by
  intro x y op ox oy h1 h2;unfold eqGuard;split
  ·simp only[Bool.not_true,aaZ,if_false];split
   ·exact absurd ⟨rfl,rfl⟩ h2
   ·exact absurd ⟨rfl,rfl⟩ (h1 _ _)
   ·rfl
  ·simp only[Bool.not_true,aaZ,if_false];split
   ·exact absurd ⟨rfl,rfl⟩ h2
   ·exact absurd ⟨rfl,rfl⟩ (h1 _ _)
   ·rfl
  ·rfl
 have key:∀(x y:Value)(c:Bool),aar .eql t x y=(do pure (.bool (←abe t x y)):Sem Value)→aar .neq t x y=(do pure (.bool (!(←abe t x y))):Sem Value) →
  (∀xs ys,¬(x = .agg xs∧y = .agg ys))→¬(x = .nilIface∧y = .nilIface)→(abe t x y).run P w = .ok c w →
  (aar .eql t x y).run P w = .ok (.bool c) w∧(aar .neq t x y).run P w = .ok (.bool (!c)) w∧∀(ox oy:Operand)(op:BinOp),(eqGuard op t ox oy x y).run P w = .ok () w:=by
  intro x y c e1 e2 h1 h2 hr;refine⟨by rw[e1];simp[hr],by rw[e2];simp[hr],fun ox oy op=>g1 x y op ox oy h1 h2⟩
 have g0:=g1 x y;have hd:∀ti,tab t=some ti→F_ P t ti.d:=fun ti gB=>(hT t ti gB).d;unfold Lt at h;split at h
 ·
  rename_i k p k' q;split at h
  ·rename_i hk;subst hk;obtain⟨rfl,_⟩:=zj hx;obtain⟨rfl,_⟩:=zj hy;simp only[aag]at h;subst h;refine⟨by simp[aar,abC],by simp[aar,abC,bne],fun ox oy op=>g0 op ox oy (by simp) (by simp)⟩
  ·cases h
 ·obtain⟨s1,rfl,h1,_⟩:=zq hx;obtain⟨s2,rfl,h2,_⟩:=zq hy;simp only[aag]at h;subst h;subst h1;subst h2;refine⟨by simp[aar,ab3,pc],by simp[aar,ab3,pc],fun ox oy op=>g0 op ox oy (by simp) (by simp)⟩
 ·rename_i p q;obtain rfl:=n5 hx;obtain rfl:=n5 hy;split at h
  ·rename_i g_;cases kE:tab t with
   |none=>rw[kE]at g_;cases g_
   |some ti =>rw[kE]at g_;have:=hd ti kE;simp only at g_;rw[g_]at this;simp only[aag]at h;subst h;have hr:=oD (w:=w) (x:=.bool p) (y:=.bool q) (c:=(p==q)) this (.inl ⟨rfl,_,_,rfl,rfl,rfl⟩);exact⟨by simp[aar,hr],by simp[aar,hr],fun ox oy op=>g0 op ox oy (by simp) (by simp)⟩
  ·cases h
 ·split at h
  ·rename_i g_;cases kE:tab t with
   |none=>rw[kE]at g_;cases g_
   |some ti =>rw[kE]at g_;have:=hd ti kE;simp only at g_;rw[g_]at this;simp only[aag]at h;subst h;obtain⟨e,he⟩:=this;cases hx;cases hy;refine key  _ _ _ rfl rfl (by simp) (by simp) (oD he (.inr (.inl ⟨⟨e,rfl⟩,.inl ⟨_,rfl,rfl,rfl⟩⟩)))
  ·cases h
 ·split at h
  ·rename_i g_;cases kE:tab t with
   |none=>rw[kE]at g_;cases g_
   |some ti =>rw[kE]at g_;have:=hd ti kE;simp only at g_;rw[g_]at this;simp only[aag]at h;subst h;obtain⟨e,he⟩:=this;cases hx;cases hy;refine key  _ _ _ rfl rfl (by simp) (by simp) (oD he (.inr (.inl ⟨⟨e,rfl⟩,.inl ⟨_,rfl,rfl,rfl⟩⟩)))
  ·cases h
 ·split at h
  ·rename_i g_;cases kE:tab t with
   |none=>rw[kE]at g_;cases g_
   |some ti =>rw[kE]at g_;have:=hd ti kE;simp only at g_;rw[g_]at this;simp only[aag]at h;subst h;obtain⟨e,he⟩:=this;cases hx;cases hy;refine key  _ _ _ rfl rfl (by simp) (by simp) (oD he (.inr (.inl ⟨⟨e,rfl⟩,.inr ⟨rfl,rfl,rfl⟩⟩)))
  ·cases h
 ·split at h
  ·rename_i g_;cases kE:tab t with
   |none=>rw[kE]at g_;cases g_
   |some ti =>rw[kE]at g_;have:=hd ti kE;simp only at g_;rw[g_]at this;simp only[aag]at h;subst h;obtain⟨ps,rs,vv,he⟩:=this;cases hx;cases hy;refine key  _ _ _ rfl rfl (by simp) (by simp) (oD he (.inr (.inr ⟨⟨ps,rs,vv,rfl⟩,.inl ⟨_,_,_,rfl,rfl,rfl⟩⟩)))
  ·cases h
 ·split at h
  ·rename_i g_;cases kE:tab t with
   |none=>rw[kE]at g_;cases g_
   |some ti =>rw[kE]at g_;have:=hd ti kE;simp only at g_;rw[g_]at this;simp only[aag]at h;subst h;obtain⟨ps,rs,vv,he⟩:=this;cases hx;cases hy;refine key  _ _ _ rfl rfl (by simp) (by simp) (oD he (.inr (.inr ⟨⟨ps,rs,vv,rfl⟩,.inl ⟨_,_,_,rfl,rfl,rfl⟩⟩)))
  ·cases h
 ·split at h
  ·rename_i g_;cases kE:tab t with
   |none=>rw[kE]at g_;cases g_
   |some ti =>rw[kE]at g_;have:=hd ti kE;simp only at g_;rw[g_]at this;simp only[aag]at h;subst h;obtain⟨ps,rs,vv,he⟩:=this;cases hx;cases hy;refine key  _ _ _ rfl rfl (by simp) (by simp) (oD he (.inr (.inr ⟨⟨ps,rs,vv,rfl⟩,.inr ⟨rfl,rfl,rfl⟩⟩)))
  ·cases h
 ·cases h
end
end Go.AM
namespace Go.AM
open Go.RowKit
section
variable {P:Program} {w:World} {G:GS}
theorem zti:(ai:Int)≤IntKind.max .i64:=by decide
theorem qe(s:ByteArray):s.size=s.data.toList.length:=by rw[abb];rfl
theorem zrk{X:Type}{tab:Nat→Option TI}(hT:fC P tab){t:TypeId}{op:BinOp}{x y:Value}{a b:AV}{k:AV→Option X}{r:X}(hx:af w G x a)(hy:af w G y b)
 (h:nH (match tab t with|some ti=>ti.d|none => .other) op a b k=some r) (ox oy:Operand) :
 ∃v av,(do eqGuard op t ox oy x y;aar op t x y:Sem Value).run P w = .ok v w∧af w G v av∧k av=some r:=by
 have fin:∀(v:Value)(av:AV),(op ≠ .eql∧op ≠ .neq)→(aar op t x y).run P w = .ok v w→af w G v av→k av=some r →
  ∃v av,(do eqGuard op t ox oy x y;aar op t x y:Sem Value).run P w = .ok v w∧af w G v av∧k av=some r:=by
  intro v av ho hr hv hk;refine⟨v,av,?_,hv,hk⟩;have:eqGuard op t ox oy x y=pure ():=by unfold eqGuard;cases op<;>first|rfl|exact absurd rfl ho.1|exact absurd rfl ho.2
  rw[this];exact hr
 unfold nH at h;split at h
 ·split at h
  ·rename_i c hc;obtain⟨h1,_,h3⟩:=zkl hT hx hy hc;exact⟨_,_,by simp[aao,h3,h1],.bool c,h⟩
  ·cases h
 ·split at h
  ·rename_i c hc;obtain⟨_,h2,h3⟩:=zkl hT hx hy hc;exact⟨_,_,by simp[aao,h3,h2],.bool (!c),h⟩
  ·cases h
 ·rename_i q p q' n;obtain⟨rfl,_⟩:=zj hx;obtain⟨rfl,_⟩:=zj hy;cases hc:decide (n<0)
  ·rw[hc]at h;simp only[decide_eq_false_iff_not]at hc;exact fin _ _ (by simp) (by simp[aar,Op.shift,hc,gk]) (kD _ _) h
  ·rw[hc]at h;cases h
 ·rename_i q p q' n;obtain⟨rfl,hp⟩:=zj hx;obtain⟨rfl,_⟩:=zj hy;cases hc:decide (n<0)
  ·rw[hc]at h;simp only[decide_eq_false_iff_not]at hc;refine fin (.int q (km q p n)) _ (by simp) (by simp[aar,Op.shift,hc,km]) (.int _ _ fun e => ?_) h;obtain⟨h0,h1⟩:=hp e;unfold km;have oA:(0:Int)<2 ^ min n.toNat q.bits:=Int.pow_pos (by decide);rw[Int.fdiv_eq_ediv_of_nonneg _ (Int.le_of_lt oA)];exact⟨Int.ediv_nonneg h0 (Int.le_of_lt oA),Int.lt_of_le_of_lt (Int.ediv_le_self _ h0) h1⟩
  ·rw[hc]at h;cases h
 ·rename_i q p q' n _ _ _ _;obtain⟨rfl,hp⟩:=zj hx;obtain⟨rfl,hn⟩:=zj hy;split at h
  ·rename_i hq;subst hq;split at h
   ·exact fin _ _ (by simp) (by simp[aar,ab4]) (kD _ _) h
   ·exact fin _ _ (by simp) (by simp[aar,ab4]) (kD _ _) h
   ·exact fin _ _ (by simp) (by simp[aar,ab4]) (kD _ _) h
   ·cases hc:(n==0)
    ·rw[hc]at h;have Ac:n≠0:=by simpa using hc
     exact fin _ _ (by simp) (by simp[aar,Op.intDiv,Ac]) (kD _ _) h
    ·rw[hc]at h;cases h
   ·cases hc:(n==0)
    ·rw[hc]at h;have Ac:n≠0:=by simpa using hc
     refine fin (.int q (p.tmod n)) _ (by simp) (by simp[aar,Op.intDiv,Ac]) (.int _ _ fun e => ?_) h;obtain⟨h0,h1⟩:=hp e;obtain⟨h2,h3⟩:=hn e;have:=Int.tmod_nonneg n h0;have h4:=Int.tmod_lt_of_pos p (show(0:Int)<n by omega);omega
    ·rw[hc]at h;cases h
   ·exact fin _ _ (by simp) (by simp[aar,abC]) (.bool _) h
   ·exact fin _ _ (by simp) (by simp[aar,abC]) (.bool _) h
   ·exact fin _ _ (by simp) (by simp[aar,abC]) (.bool _) h
   ·exact fin _ _ (by simp) (by simp[aar,abC]) (.bool _) h
   ·exact fin _ _ (by simp) (by simp[aar,abZ,bw]) (kD _ _) h
   ·exact fin _ _ (by simp) (by simp[aar,abZ,bw]) (kD _ _) h
   ·exact fin _ _ (by simp) (by simp[aar,abZ,bw]) (kD _ _) h
   ·exact fin _ _ (by simp) (by simp[aar,abZ,bw]) (kD _ _) h
   ·cases h
  ·cases h
 ·rename_i p q;obtain⟨s1,rfl,h1,_⟩:=zq hx;obtain⟨s2,rfl,h2,_⟩:=zq hy;obtain⟨hc,h⟩:=zf h;simp only[decide_eq_true_eq]at hc;have dz:¬(((s1.size+s2.size:Nat):Int)>IntKind.i64.max):=by have:=zti;rw[qe,qe,h1,h2];omega
  refine fin (.string (s1++s2)) _ (by simp) ?_ (.str _ _ ?_ (by simp;omega)) h
  ·simp only[aar,ab3];rw[if_neg dz];rfl
  ·subst h1;subst h2;simp
 all_goals first
  |cases h
  | (rename_i p q
     obtain⟨s1,rfl,h1,_⟩:=zq hx;obtain⟨s2,rfl,h2,_⟩:=zq hy;subst h1;subst h2;exact fin _ _ (by simp) (by simp[aar,ab3,pc]) (.bool _) h)
theorem ztj{X:Type}{op:UnOp}{x:Value}{a:AV}{k:AV→Option X}{r:X}(hx:af w G x a)(h:EF op a k=some r) :
 ∃v av,(Op.unary op x).run P w = .ok v w∧af w G v av∧k av=some r:=by
 unfold EF at h;split at h
 ·obtain⟨rfl,_⟩:=zj hx;exact⟨_,_,by simp[Op.unary,ab4],kD _ _,h⟩
 ·obtain⟨rfl,_⟩:=zj hx;exact⟨_,_,by simp[Op.unary,abZ,bw],kD _ _,h⟩
 ·obtain rfl:=n5 hx;exact⟨_,_,by simp[Op.unary],.bool _,h⟩
 ·cases h
end
end Go.AM
namespace Go.AM
open Go.RowKit
section
variable {P:Program} {w:World} {G:GS}
theorem Ve{α:Type}{l r:List α}{a b:Int}(h:sub l a b=some r):∃x y:Nat,a=x∧b=y∧x≤y∧y≤l.length∧r=(l.take y).drop x:=by
 unfold sub at h;split at h
 ·rename_i hc;obtain⟨h1,h2,h3⟩:=hc;refine⟨a.toNat,b.toNat,by omega,by omega,by omega,by omega,?_⟩;simp only[aag]at h;exact h.symm
 ·cases h
theorem LB{α:Type}{l:List α}{i:Int}{x:α}(h:idx l i=some x):∃n:Nat,i=n∧n<l.length∧l[n]? = some x:=by
 unfold idx at h;split at h
 ·rename_i h0;exact⟨i.toNat,by omega,(aaf.1 h).1,h⟩
 ·cases h
theorem Vf{o:Option Operand}{a:Act}{e:Env}{N:Nat}(he:eN w G N a.tmps e){x:Option Int}(h:Cu (o.map (ev e))=some x) :
 (o=none∧x=none)∨∃y q i,o=some y∧x=some i∧a.eval y = .int q i:=by
 cases o with
 |none=>simp[Cu]at h;exact .inl ⟨rfl,h.symm⟩
 |some y =>
  right;simp only[abc]at h;cases hv:ev e y with
  |int q i =>rw[hv]at h;simp only[Cu,aag]at h;have:=he.ev y;rw[hv]at this;exact⟨y,q,i,rfl,h.symm,(zj this).1⟩
  |_=>rw[hv]at h;simp[Cu]at h
theorem zu{q:IntKind}{n y:Nat}{code:BoundsCode}(h:n≤y):(Instr.sliceBound (.int q (n:Int)) y code).run P w = .ok n w:=by
 have:(0:Int)≤(n:Int)∧(n:Int)≤(y:Int):=by omega
 simp[Instr.sliceBound,asIntOf,this]
theorem al.slice{D:Nat→Nat→Prop}{τ:Ty}{l:List τ.den}{A:Option Addr}{cap:Nat}(h:al w D (.sl τ) l [.slice A l.length cap]){lo hi m:Nat}(h1:lo≤hi)(h2:hi≤l.length)(h3:hi≤m)(h4:m≤cap) :
 al w D (.sl τ) ((l.take hi).drop lo) [.slice (if m=lo then A else A.map (·.add (lo*τ.size))) (hi - lo) (m - lo)]:=by
 simp only[al]at h ⊢;obtain⟨hl,A',c',us,hv,hc,bX,fY⟩:=h;simp only[aaO,abn,and_true,true_and]at hv;obtain⟨rfl,rfl⟩:=hv;have hlen:((l.take hi).drop lo).length=hi - lo:=by simp;omega
 have BE:us.length=l.length*τ.size:=bf.length (fun x vs hx=>i_ hx) bX;refine⟨by rw[hlen];omega,_,m - lo,(us.take (hi*τ.size)).drop (lo*τ.size),by rw[hlen],by rw[hlen];omega,bf.sub (fun x vs hx=>i_ hx) bX lo hi h1 h2,fun h0 => ?_⟩;rw[hlen]at h0;obtain⟨b,o,rfl,hm⟩:=fY (by omega);refine⟨b,o+lo*τ.size,by rw[if_neg (by omega)];simp[mu],fun j u hj => ?_⟩;rw[abg,aaN]at hj;split at hj
 ·have:=hm _ u hj;rwa[←abE]at this
 ·cases hj
theorem CH{v:Value}{τ:Ty}{l:List τ.den}{c:Cap}(h:af w G v (.sl τ l c)):∃A cap,v = .slice A l.length cap∧l.length≤cap∧al w G.D (.sl τ) l [.slice A l.length cap]∧qA G v l.length τ.size c:=by
 cases h with
 |sl _ _ _ _ hr hc =>have fN:=hr;simp only[al]at hr;obtain⟨_,A,cap,us,hv,sE,_⟩:=hr;simp only[aaO,and_true]at hv;subst hv;exact⟨A,cap,rfl,sE,fN,hc⟩
theorem zfx {X:Type} {cx:Cx X} (hT:fC P cx.tab) {t:TypeId} {ti:TI} (ht:cx.tab t=some ti) {a:Act} {e:Env} {N:Nat} (he:eN w G N a.tmps e) {x:Operand} {xa:AV} (hxa:af w G (a.eval x) xa) {lo hi mx:Option Operand} {k:AV→Option X} {r:X}
 (h:lH cx ti.d xa (lo.map (ev e)) (hi.map (ev e)) (mx.map (ev e)) k=some r) :
 ∃v av,(abG t (a.eval x) (lo.map a.eval) (hi.map a.eval) (mx.map a.eval)).run P w = .ok v w∧af w G v av∧k av=some r:=by
 have gB:=(hT t ti ht).d;unfold lH at h;split at h
 ·rename_i lo' uV mx' Gi hhi tI;have Vg:=Vf he Gi;have Vh:=Vf he hhi;have Vi:=Vf he tI;split at h
  ·
   rename_i s hd;rw[hd]at gB;have l7:=hxa;obtain⟨bs,iN,LC,aBi⟩:=zq l7;split at h
   ·rcases Vi with⟨rfl,_⟩ |⟨y,q,i,_,hh,_⟩
    ·obtain⟨q,hq,hk⟩:=abj.1 h;obtain⟨n1,n2,e1,e2,wz,LD,rfl⟩:=Ve hq;have dz:bs.size=s.length:=by rw[qe,LC]
     have ew:(aat false bs.size bs.size (lo.map a.eval) (hi.map a.eval) none).run P w = .ok (n1,n2,bs.size) w:=by
      rcases Vg with⟨rfl,rfl⟩ |⟨y,q,i,rfl,rfl,hy⟩<;>rcases Vh with⟨rfl,rfl⟩ |⟨y',q',i',rfl,rfl,l8⟩
      ·simp only[aaK]at e1 e2;have:n1=0:=by omega
       subst this;have:n2=bs.size:=by rw[dz];omega
       subst this;simp[aat]
      ·simp only[aaK,aaL]at e1 e2;have:n1=0:=by omega
       subst this;subst e2;simp[aat,l8,zu (P:=P) (w:=w) (show n2≤bs.size by omega)]
      ·simp only[aaK,aaL]at e1 e2;have:n2=bs.size:=by rw[dz];omega
       subst this;subst e1;simp[aat,hy,zu (P:=P) (w:=w) wz]
      ·simp only[aaL]at e1 e2;subst e1;subst e2;simp[aat,hy,l8,zu (P:=P) (w:=w) (show n2≤bs.size by omega),zu (P:=P) (w:=w) wz]
     refine⟨.string (bs.extract n1 n2),.str ((s.take n2).drop n1),?_,.str _ _ ?_ ?_,hk⟩
     ·unfold abG;simp only[aao,run_underlying gB,aam];simp only[Instr.slice,aao,run_underlying gB,aam,iN];simp[ew]
     ·subst LC;simp[ab5];exact List.drop_take.symm
     ·simp;omega
    ·cases hh
   ·cases h
  ·
   rename_i et τ l c hd;rw[hd]at gB;split at h
   ·rename_i ei fP;obtain⟨dz,h⟩:=zf h;rw[b_]at dz;have tJ:=hT et ei fP;have l7:=hxa;obtain⟨A,cap,hx,sE,fG,_⟩:=CH l7;have fin:∀(n1 n2 m:Nat)(cc:Cap),n1≤n2→n2≤l.length→n2≤m→m≤cap→(aat true l.length cap (lo.map a.eval) (hi.map a.eval) (mx.map a.eval)).run P w = .ok (n1,n2,m) w →
     qA G (.slice (if m=n1 then A else A.map (·.add (n1*τ.size))) (n2 - n1) (m - n1)) (n2 - n1) τ.size cc→k (.sl τ ((l.take n2).drop n1) cc)=some r →
     ∃v av,(abG t (a.eval x) (lo.map a.eval) (hi.map a.eval) (mx.map a.eval)).run P w = .ok v w∧af w G v av∧k av=some r:=by
     intro n1 n2 m cc h1 h2 h3 h4 hb j7 hk;have hlen:((l.take n2).drop n1).length=n2 - n1:=by simp;omega
     refine⟨_,_,?_,.sl τ ((l.take n2).drop n1) cc _ (al.slice fG h1 h2 h3 h4) (by rw[hlen];exact j7),hk⟩;unfold abG;simp only[aao,run_underlying gB,aam];simp only[Instr.slice,aao,run_underlying gB,aam,hx];simp[hb,zw tJ,dz]
    split at h
    ·rcases Vi with⟨rfl,_⟩ |⟨y,q,i,_,hh,_⟩
     ·obtain⟨q,hq,hk⟩:=abj.1 h;obtain⟨n1,n2,e1,e2,wz,LD,rfl⟩:=Ve hq;refine fin n1 n2 cap .eY wz LD (by omega) (aaw _) ?_ trivial hk;rcases Vg with⟨rfl,rfl⟩ |⟨y,q,i,rfl,rfl,hy⟩<;>rcases Vh with⟨rfl,rfl⟩ |⟨y',q',i',rfl,rfl,l8⟩
      ·simp only[aaK]at e1 e2;have:n1=0:=by omega
       subst this;have:n2=l.length:=by omega
       subst this;simp[aat]
      ·simp only[aaK,aaL]at e1 e2;have:n1=0:=by omega
       subst this;subst e2;simp[aat,l8,zu (P:=P) (w:=w) (show n2≤cap by omega)]
      ·simp only[aaK,aaL]at e1 e2;have:n2=l.length:=by omega
       subst this;subst e1;simp[aat,hy,zu (P:=P) (w:=w) wz]
      ·simp only[aaL]at e1 e2;subst e1;subst e2;simp[aat,hy,l8,zu (P:=P) (w:=w) (show n2≤cap by omega),zu (P:=P) (w:=w) wz]
     ·cases hh
    ·rename_i m h0;rcases Vi with⟨_,hh⟩ |⟨ym,qm,im,rfl,hh,hym⟩
     ·cases hh
     ·obtain rfl:=aaj hh;split at h
      ·rename_i acw;rcases Vh with⟨_,Aa⟩ |⟨y',q',i',rfl,Aa,l8⟩
       ·cases Aa
       ·obtain rfl:=aaj Aa;obtain⟨wA,h2⟩:=zf h;obtain rfl:acw=m:=by simpa using wA
        obtain⟨q,hq,hk⟩:=abj.1 h2;obtain⟨n1,n2,e1,e2,wz,LD,rfl⟩:=Ve hq;subst e2;refine fin n1 n2 n2 .full wz LD (aaw _) (by omega) ?_ ⟨_,rfl⟩ hk;rcases Vg with⟨rfl,rfl⟩ |⟨y,q,i,rfl,rfl,hy⟩
        ·simp only[aaK]at e1;have:n1=0:=by omega
         subst this;simp[aat,l8,hym,zu (P:=P) (w:=w) (show n2≤cap by omega),zu (P:=P) (w:=w) (aaw n2)]
        ·simp only[aaL]at e1;subst e1;simp[aat,hy,l8,hym,zu (P:=P) (w:=w) (show n2≤cap by omega),zu (P:=P) (w:=w) (aaw n2),zu (P:=P) (w:=w) wz]
      ·cases h
   ·cases h
  ·cases h
 ·cases h
end
end Go.AM
namespace Go.AM
open Go.RowKit
section
variable {P:Program} {w:World} {G:GS}
theorem zio{vs:List Value}{cs:List AV}(h:∀w G,ak w G vs cs):nT cs=true:=by
 unfold nT;split
 ·rename_i r T q;have h0:=h default ⟨fun _ _=>False,[],[],[],[],rI⟩;have hl:0<vs.length:=by rw[h0.1];simp
  have hx:=h0.2 0 vs[0] (.ea r T) (by simp[hl]) rfl;generalize vs[0]=u at hx;cases hx with
  |ea _ _ b _ hb=>simp at hb
 ·rfl
theorem zo6{X:Type}{B0:Nat}{w0:Wd}{h:H}(s:St B0 w0 G h w){t:Nat}{ti:TI}(gB:nc P t ti)(hl:ti.zero.length=ti.size)(hp:0<ti.size){k:AV→H→Option X}{r:X}
 (hk:k (.ref h.bx.length 0) { h with bx:=h.bx++[ti.zero] }=some r):∃v w',(Instr.alloc t true (.tuple #[])).run P w = .ok v w'∧Ends B0 w0 G w k r v w':=by
 obtain⟨z,hz,hR⟩:=jJ (w:=w) gB (fun e=>by rw[e]at hl;simp at hl;omega);obtain⟨G',hx,gC,jc,hb⟩:=s.tE (hR w G) t (zio hR);refine⟨.pointer (some ⟨w.heap.size,0,none⟩),w.alloc (.cells z.cells t),?_,.ref h.bx.length 0,G',_,hx,gC,jc,.ref _ _ _ hb.1 hb.2,hk⟩;simp[Instr.alloc,hz,newVar,newRow]
theorem ztk{X:Type}{B0:Nat}{w0:Wd}{h:H}(s:St B0 w0 G h w){t:Nat}{v:Value}{a:AV}(hv:af w G v a)(hp:0<(cellsOf a).length)(hn:nT (cellsOf a)=true){k:AV→H→Option X}{r:X}
 (hk:k (.ref h.bx.length 0) { h with bx:=h.bx++[cellsOf a] }=some r):∃u w',(Instr.box t v).run P w = .ok u w'∧Ends B0 w0 G w k r u w':=by
 obtain⟨G',hx,gC,jc,hb⟩:=s.tE (wu hv (wv hp)) t hn;refine⟨.pointer (some ⟨w.heap.size,0,none⟩),w.alloc (.cells v.cells t),?_,.ref h.bx.length 0,G',_,hx,gC,jc,.ref _ _ _ hb.1 hb.2,hk⟩;simp[Instr.box,newVar,newRow]
theorem zhb:∀(fs:List Field),(∀f∈fs,∃i,P.info? f.type=some i)→∃pl,(fs.mapM fun f=>Prod.mk f.offset <$> sizeOf f.type).run P w = .ok pl w ∧
 ∀(i:Nat)(f:Field),fs[i]? = some f→∃ii,P.info? f.type=some ii∧pl[i]? = some (f.offset,ii.size)
 |[],_=>⟨[],by simp,by simp⟩
 |f::fs,h=>by
  obtain⟨i,hi⟩:=h f (by simp);obtain⟨pl,h1,h2⟩:=zhb fs (fun g hg=>h g (by simp[hg]));have hs:(sizeOf f.type).run P w = .ok i.size w:=by simp[sizeOf,typeInfo,hi]
  refine⟨(f.offset,i.size)::pl,by simp only[List.mapM_cons,aao,Sem.run_map,hs,h1,aam,aaA],fun j g hg => ?_⟩;cases j with
  |zero=>simp at hg;subst hg;exact⟨i,hi,rfl⟩
  |succ j=>simpa using h2 j g (by simpa using hg)
theorem zo7{X:Type}{cx:Cx X}(hT:fC P cx.tab){a:Act}{e:Env}{N:Nat}(he:eN w G N a.tmps e){t:Nat}{ti:TI}(ht:cx.tab t=some ti)(hl:ti.zero.length=ti.size)(hp:0<ti.size){parts:Array (Nat×Operand)} :
 (∀fs cs,ti.d = .struct fs→mG cx.tab fs e parts.toList ti.zero=some cs→∃v,(ab6 t (parts.map fun(i,x)=>(i,a.eval x))).run P w = .ok v w∧af w G v (.agg cs)) ∧
 (∀n et ei cs,ti.d = .arr n et→cx.tab et=some ei→mH ei e parts.toList ti.zero=some cs→∃v,(ab6 t (parts.map fun(i,x)=>(i,a.eval x))).run P w = .ok v w∧af w G v (.agg cs)):=by
 have gB:=hT t ti ht;obtain⟨z,hz,hR⟩:=jJ (w:=w) gB (fun e=>by rw[e]at hl;simp at hl;omega);have oE:(parts.map fun(i,x)=>(i,a.eval x)).toList=parts.toList.map fun p=>(p.1,a.eval p.2):=by simp
 have agg:∀(arr:Array Value)(cs:List AV),ak w G arr.toList cs→af w G (.agg arr) (.agg cs):=fun arr cs h =>.agg _ _ (by simpa using h.1) (fun i v c hv hc=>h.2 i v c (by simpa using hv) hc);constructor
 ·intro fs cs hd hb;have jK:=gB.d;rw[hd]at jK;obtain⟨fields,hu,Ah,acz⟩:=jK;obtain⟨pl,uU,acA⟩:=zhb (P:=P) (w:=w) fields.toList acz;obtain⟨arr,hf,hr⟩:=zg9 hT he Ah (places:=pl.toArray) (fun i f hf ti' acB=>by obtain⟨ii,h1,h2⟩:=acA i f (by simpa using hf);obtain⟨i2,h3,h4,_⟩:=(hT f.type ti' acB).info;rw[h1]at h3;obtain rfl:=aaj h3;simpa[h4]using h2) parts.toList z.cells ti.zero cs (hR w G) hb;refine⟨.agg arr,?_,agg arr cs hr⟩;simp only[ab6,aao,hz,aam,run_underlying hu];rw[Array.mapM_eq_mapM_toList];have e1:(fields.toList.mapM fun f=>(do pure (f.offset,←sizeOf f.type):Sem (Nat×Nat))).run P w = .ok pl w:=uU;simp only[Sem.run_map,e1,aam,oE,hf];rfl
 ·intro n et ei cs hd fP hb;have jK:=gB.d;rw[hd]at jK;obtain⟨arr,hf,hr⟩:=zha he (ei:=ei) parts.toList z.cells ti.zero cs (hR w G) hb;refine⟨.agg arr,?_,agg arr cs hr⟩;simp only[ab6,aao,hz,aam,run_underlying jK,zw (hT et ei fP),oE,hf];rfl
theorem Vj{a:Act}{e:Env}{N:Nat}(he:eN w G N a.tmps e){τ:Ty}(hp:0<τ.size):∀(parts:List (Nat×Operand))(n:Nat)(arr:Array Value)(l:List τ.den),ja τ e n parts=some l→(n+l.length)*τ.size≤arr.size →
 ∃(fk:Array Value)(us:List Value),aa2 (fun i=>some (i*τ.size,τ.size)) arr (parts.map fun p=>(p.1,a.eval p.2))=some fk∧bf (fun x us=>al w G.D τ x us) l us ∧
  fk.toList=arr.toList.take (n*τ.size)++us++arr.toList.drop ((n+l.length)*τ.size)
 |[],n,arr,l,h,_=>by simp only[ja,aag]at h;subst h;exact⟨arr,[],rfl,rfl,by simp⟩
 | (i, x) :: parts,n,arr,l,h,hlen=>by
  simp only[ja]at h;obtain⟨hi,h2⟩:=zf h;rw[b_]at hi;subst hi;replace h:=h2;clear h2;split at h
  ·rename_i v hv;split at h
   ·rename_i l' nD;obtain rfl:=aaj h;have fG:=iZ (he.ev x) (some τ);unfold DE at hv;split at hv
    ·rename_i y hy;obtain rfl:=aaj hv;have c_:kf (some τ) (ev e x) ≠ .any:=by intro e1;rw[e1]at hy;simp only[cellsOf]at hy;have hR0:ak w G [] []:=.nil;obtain⟨v1,v2,h1,h2,_⟩:=Gh τ [] [] y [] hR0 hy;have:=i_ h2;simp at h1;rw[h1.1]at this;simp at this;omega
     have hR:=wu fG c_;obtain⟨v1,v2,h1,h2,h3⟩:=Gh τ _ _ y [] hR hy;have:v2=[]:=aau (by simpa using h3.1);subst this;rw[aa1]at h1;have iz:(a.eval x).cells.toList.length=τ.size:=by rw[h1];exact i_ h2
     have xp:(a.eval x).cells.size=τ.size:=by simpa using iz
     simp only[aaR]at hlen;have Gj:n*τ.size+(a.eval x).cells.size≤arr.size:=by
      rw[xp];have:(n+(l'.length+1))*τ.size=n*τ.size+τ.size+l'.length*τ.size:=by rw[aaq,aaq];omega
      omega
     have e1:=Vc (a.eval x).cells arr (n*τ.size) Gj;generalize hA:((a.eval x).cells.zipIdx.foldl (fun(cs:Array Value) (p:Value×Nat)=>cs.setIfInBounds (n*τ.size+p.2) p.1) arr)=qE at e1;have Gk:qE.size=arr.size:=by have:=congrArg abB e1;simp at this;omega
     obtain⟨fk,us,hf,bX,e2⟩:=Vj he hp parts (n+1) qE l' nD (by rw[Gk];rw[show n+1+l'.length=n+(l'.length+1)from by omega];exact hlen);refine⟨fk,v1++us,?_,⟨v1,us,rfl,h2,bX⟩,?_⟩
     ·simp only[aaE,aa2,xp];rw[if_neg (by simp;omega)];have eT:(a.eval x).cells.zipIdx.foldl (fun(cs:Array Value) (y:Value×Nat)=>match y with|(c,j)=>cs.setIfInBounds (n*τ.size+j) c) arr=qE:=hA;rw[eT];exact hf
     ·rw[e2,e1,h1];have hm:(n+1)*τ.size=n*τ.size+τ.size:=by rw[aaq];omega
      have yF:v1.length=τ.size:=i_ h2;have xq:n*τ.size≤arr.toList.length:=by simp;omega
      have ht:List.take ((n+1)*τ.size) (arr.toList.take (n*τ.size)++v1++arr.toList.drop (n*τ.size+(a.eval x).cells.size))=arr.toList.take (n*τ.size)++v1:=by rw[aby (by simp;omega)];exact aaM (by simp;omega)
      have tK:List.drop ((n+1+l'.length)*τ.size) (arr.toList.take (n*τ.size)++v1++arr.toList.drop (n*τ.size+(a.eval x).cells.size))=arr.toList.drop ((n+(l'.length+1))*τ.size):=by
       have hx:(n+1+l'.length)*τ.size=(n*τ.size+τ.size)+l'.length*τ.size:=by rw[aaq,hm]
       rw[abp,aaD (by simp;omega),abx,abz];congr 1;simp only[aav,List.length_take,yF,ab1 xq,xp];have hy:(n+(l'.length+1))*τ.size=n*τ.size+τ.size+l'.length*τ.size:=by rw[aaq,aaq];omega
       omega
      rw[ht,tK];simp
    ·cases hv
   ·cases h
  ·cases h
end
end Go.AM
namespace Go.AM
open Go.RowKit
section
variable {P:Program} {w:World} {G:GS}
theorem St.acC{B0:Nat}{w0:Wd}{h:H}(s:St B0 w0 G h w){D':Nat→Nat→Prop}
 (hD:∀b o,G.D b o→D' b o) (Gc:∀b o,D' b o→G.D b o∨B0≤b) (Lz:∀(b o:Nat),D' b o→(∃u,w.cell? ⟨b,o,none⟩=some u)∧some b∉G.bx)
 (U9:∀(t:Nat)(g0:Tk),G.tk[t]? = some (some g0)→g0.n<g0.cap→∀b,g0.A=some b→∀i,g0.n*g0.sz≤i→i<g0.cap*g0.sz→¬D' b i) :
 St B0 w0 { G with D:=D' } h w∧Ext G.base G { G with D:=D' }:=by
 have hx:Ext G.base G { G with D:=D' }:=⟨hD,fun _ _ => .inl ⟨rfl,rfl⟩,(Ext.refl (cF.le_refl _)).tk,fun _ _=>rfl,rfl⟩;refine⟨?_,hx⟩;exact
 { below:=s.below
   b0:=s.b0
   eb:=s.eb
   box:=fun r b cs h1 h2=>by obtain⟨hB,ob,hh,hr⟩:=s.box r b cs h1 h2;exact⟨hB,ob,hh,hr.eJ hx (bg.refl _ _) rfl⟩
   fl:=s.fl
   inj:=s.inj
   ec:=Lz
   fo:=fun b o x=>(Gc b o x).elim (s.fo b o) .inr
   fO:=s.fO
   tok:=fun t g' jF=>by obtain⟨h1,h2⟩:=s.tok t g' jF;refine⟨h1,fun bo => ?_⟩;obtain⟨b,hA,hB,hn,cs,et,fr,hh,hc,je⟩:=h2 bo;exact⟨b,hA,hB,hn,cs,et,fr,hh,hc,fun i i1 i2=>⟨U9 t g' jF bo b hA i i1 i2,(je i i1 i2).2⟩⟩
   gA:=s.gA
   fU:=s.fU
   loop:=s.loop
   ie:=s.ie
   gu:=s.gu
   ig:=s.ig }
theorem St.xt{B0:Nat}{w0:Wd}{h:H}(s:St B0 w0 G h w){w1:World}{cells:Array Value}{et:TypeId}{fr:Nat×Nat}(nC:w.grownBy w1 none)(eM:w1.heap[w.heap.size]? = some (.cells cells et fr)){n:Nat}(hn:n≤cells.size) :
 ∃D':Nat→Nat→Prop,(∀o,o<n→D' w.heap.size o)∧Ext G.base G { G with D:=D' }∧bg G.D w w1∧St B0 w0 { G with D:=D' } h w1:=by
 have s':=s.gH nC;have eQ:bg G.D w w1:=bg.fB nC (fun b o x=>(s.ec b o x).1) (fun _ _ _=>by simp)
 have xo:some w.heap.size∉G.bx:=fun sH=>by
  obtain⟨q,hq⟩:=aba sH;have sI:q<h.bx.length:=by rw[s.eb];exact(aaf.1 hq).1
  obtain⟨_,_,hh,_⟩:=s.box q _ _ hq (aaB sI);have:=(aak.1 hh).1;omega
 have mL:∀(t:Nat)(g0:Tk),G.tk[t]? = some (some g0)→g0.n<g0.cap→g0.A≠some w.heap.size:=fun t g0 h0 bo e=>by obtain⟨b',eT,_,_,_,_,_,hh,_⟩:=(s.tok t g0 h0).2 bo;rw[eT]at e;simp at e;subst e;have:=(aak.1 hh).1;omega
 obtain⟨gQ,iT⟩:=s'.acC (D':=fun x o=>G.D x o∨(x=w.heap.size∧o<n)) (fun _ _ x => .inl x) (fun b o x=>x.imp id fun y=>by rw[y.1];exact s.b0)
  (fun x o ng=>by
   rcases ng with ng|⟨rfl,ng⟩
   ·exact s'.ec x o ng
   ·exact⟨⟨cells[o]'(by omega),by rw[zy eM];simp[show o<cells.size from by omega]⟩,xo⟩)
  (fun t g0 h0 bo x hA j j1 j2 hd=>by
   obtain⟨b',eT,_,_,_,_,_,_,_,Ag⟩:=(s'.tok t g0 h0).2 bo;rw[hA]at eT;obtain rfl:=aaj eT;rcases hd with hd|⟨rfl,hd⟩
   ·exact(Ag j j1 j2).1 hd
   ·exact mL t g0 h0 bo hA)
 exact⟨_,fun o ho => .inr ⟨rfl,ho⟩,iT,eQ,gQ⟩
theorem zh0{X:Type}{cx:Cx X}(hT:fC P cx.tab){a:Act}{e:Env}{N:Nat}(he:eN w G N a.tmps e){B0:Nat}{w0:Wd}{h:H}(s:St B0 w0 G h w){t et:Nat}{ti ei:TI}(ht:cx.tab t=some ti)(wB:ti.d = .slice et)
 (fP:cx.tab et=some ei) {τ:Ty} {len:Nat} {parts:Array (Nat×Operand)} {l:List τ.den} (hb:ja τ e 0 parts.toList=some l) (hl:l.length=len) (dz:ei.size=τ.size) (nK:len*ei.size≤16777216)
 (hz:ei.zero.length=ei.size) (hp:0<ei.size) {k:AV→H→Option X} {r:X} (hk:k (.sl τ l .full) h=some r) :
 ∃v w',(aaS t len (parts.map fun(i,x)=>(i,a.eval x))).run P w = .ok v w'∧Ends B0 w0 G w k r v w':=by
 have gB:=(hT t ti ht).d;rw[wB]at gB;have tJ:=hT et ei fP;obtain⟨z,pd,_⟩:=jJ (w:=w) tJ (fun e=>by rw[e]at hz;simp at hz;omega);obtain⟨zc,nZ,CI⟩:∃zc:Array Value,(len*ei.size=0→zc=#[])∧(¬len*ei.size=0→zc=z.cells):=by
  by_cases h0:len*ei.size=0
  ·exact⟨#[],fun _=>rfl,fun h=>absurd h0 h⟩
  ·exact⟨z.cells,fun h=>absurd h h0,fun _=>rfl⟩
 generalize hA:(Array.range (len*ei.size)).map (fun x=>zc[x % zc.size]!)=arr;have BF:arr.size=len*τ.size:=by rw[←hA];simp[dz]
 obtain⟨fk,us,hf,bX,e2⟩:=Vj (w:=w) (G:=G) he (by omega) parts.toList 0 arr l hb (by rw[aaH,hl,BF];exact aaw _);have pf:us.length=len*τ.size:=by rw[←hl];exact bf.length (fun x vs hx=>i_ hx) bX
 have rW:fk.toList=us:=by rw[e2];simp only[Nat.zero_mul,List.take_zero,abx,aaH];rw[aaD (by simp[BF,hl]),aa1]
 have oE:(parts.map fun(i,x)=>(i,a.eval x)).toList=parts.toList.map fun p=>(p.1,a.eval p.2):=by simp
 have ew:(aaS t len (parts.map fun(i,x)=>(i,a.eval x))).run P w = .ok (.slice (some ⟨w.heap.size,0,none⟩) len len) (w.alloc (.cells fk et)):=by
  unfold aaS;simp only[aao,run_underlying gB,aam,zw tJ];rw[if_neg (by omega)];by_cases h0:len*ei.size=0
  ·rw[if_pos h0];have:=nZ h0;subst this;simp only[aao,aam,aaA];rw[hA,oE];rw[dz,hf];simp[newRow]
  ·rw[if_neg h0];have:=CI h0;subst this;simp only[aao,pd,aam,aaA];rw[hA,oE];rw[dz,hf];simp[newRow]
 have nC:w.grownBy (w.alloc (.cells fk et)) none:=aaY w _ none;have eM:(w.alloc (.cells fk et)).heap[w.heap.size]? = some (.cells fk et (0,0)):=aaP w _;have Vk:fk.size=len*τ.size:=by have:=congrArg abB rW;simp at this;omega
 obtain⟨D',BG,iT,eQ,gQ⟩:=s.xt (n:=len*τ.size) nC eM (by omega);refine⟨_,_,ew,.sl τ l .full,_,h,iT,eQ,gQ,.sl τ l .full _ ?_ ⟨some ⟨w.heap.size,0,none⟩,by rw[hl]⟩,hk⟩;simp only[al];have Vl:l.length≤ai:=by
  have h1:l.length≤len*ei.size:=by rw[hl];exact Nat.le_mul_of_pos_right _ hp
  have h2:(16777216:Nat)≤ai:=by decide
  omega
 refine⟨Vl,some ⟨w.heap.size,0,none⟩,len,us,by rw[hl],by omega,bf.mono _ _ (fun x _ vs hx=>al.mono iT.D eQ τ x vs hx) bX,fun _=>⟨w.heap.size,0,rfl,fun j u hj => ?_⟩⟩;have sJ:=(aaf.1 hj).1;refine⟨BG _ (by omega),?_⟩;rw[aaH,zy eM,←aaz,rW];exact hj
theorem zmg{t:Nat}{ti:TI}(gB:nc P t ti){cs:Array Value}{aS:List AV}(hr:ak w G cs.toList aS){off:Nat}{bs:List AV}{v:AV}(hb:takeN ti.size (aS.drop off)=some bs)(hv:jD ti.agg bs=some v) :
 ∃u,(part t cs off).run P w = .ok u w∧af w G u v:=by
 obtain⟨e1,e2⟩:=EH _ _ _ hb;have hR:=(hr.drop off).take ti.size;rw[←e1]at hR;unfold part;simp only[aao,zim gB,aam];cases ha:ti.agg with
 |true =>
  rw[ha]at hv;simp only[jD,aag]at hv;subst hv;simp only[if_true,aao,zw gB,aam];have gU:(cs.extract off (off+ti.size)).toList=(cs.toList.drop off).take ti.size:=by rw[Array.toList_extract,List.extract_eq_take_drop];congr 1;omega
  refine⟨_,rfl,.agg _ _ ?_ fun i u c hu hc=>hR.2 i u c ?_ hc⟩
  ·have:=hR.1;rw[←gU]at this;rw[←this,abb]
  ·rw[←gU,aaz];exact hu
 | false =>
  rw[ha]at hv;cases bs with
  |nil=>simp[jD]at hv
  | cons c ij=>cases ij with
   |cons d ds=>simp[jD]at hv
   |nil =>
    simp only[jD,aag]at hv;subst hv;simp only[aaZ,if_false];have h1:((cs.toList.drop off).take ti.size).length=1:=by rw[hR.1];rfl
    have LF:ti.size=1:=by simpa using e2.symm
    rw[LF]at h1;have bo:off<cs.size:=by simp at h1;omega
    have:cs[off]? = some cs[off]:=by simp[bo]
    rw[this];refine⟨cs[off],rfl,hR.2 0 _ c ?_ rfl⟩;rw[LF];simp[bo]
theorem ziq{X:Type}{ei:TI}{et:Nat}(fP:nc P et ei){cs:Array Value}{i:Int}{k:AV→Option X}{r:X}:∀(n:Nat)(j:Nat)(aS:List AV),ak w G (cs.toList.drop (j*ei.size)) aS→pR ei.agg ei.size i n (j:Int) aS k=some r →
 ∃m:Nat,i=m∧m<j+n∧∃u v,(part et cs (m*ei.size)).run P w = .ok u w∧af w G u v∧k v=some r
 |0,j,aS,_,h=>by simp[pR]at h
 | n + 1,j,aS,hr,h=>by
  simp only[pR]at h;cases hc:(i==(j:Int))with
  | true =>
   rw[hc]at h;simp only[cond_true]at h;have BH:i=j:=by simpa using hc
   split at h
   ·rename_i bs hb;split at h
    ·rename_i v hv;have Gl:ak w G cs.toList ((List.replicate (j*ei.size) AV.any).take (min (j*ei.size) cs.size)++aS):=by
      have e:cs.toList=cs.toList.take (j*ei.size)++cs.toList.drop (j*ei.size):=(List.take_append_drop _ _).symm;rw[e];refine ak.append ⟨by simp,fun q u c hu qC => ?_⟩ hr;rw[aaN]at qC;split at qC
      ·rw[List.getElem?_replicate]at qC;split at qC
       ·obtain rfl:=aaj qC;exact .any _
       ·cases qC
      ·cases qC
     have aqg:((List.replicate (j*ei.size) AV.any).take (min (j*ei.size) cs.size)++aS).drop (j*ei.size)=aS∨True:=.inr trivial;by_cases hle:j*ei.size≤cs.size
     ·rw[ab1 hle,aaM (by simp)]at Gl;obtain⟨u,hu,fG⟩:=zmg (w:=w) (G:=G) fP Gl (off:=j*ei.size) (bs:=bs) (v:=v) (by rw[List.drop_left' (by simp)];exact hb) hv;exact⟨j,BH,by omega,u,v,hu,fG,h⟩
     ·have hlen:aS.length=0:=by have:=hr.1;simp at this;omega
      have:aS=[]:=aau hlen;subst this;obtain⟨e1,e2⟩:=EH _ _ _ hb;simp at e1;subst e1;simp at e2;have:j*ei.size=0:=by rw[←e2];simp
      omega
    ·cases h
   ·cases h
  |false =>
   rw[hc]at h;simp only[cond_false]at h;rw[rJ]at h;have fN:=hr.drop ei.size;rw[abz]at fN;have e:j*ei.size+ei.size=(j+1)*ei.size:=by rw[aaq];omega
   rw[e]at fN;have h':pR ei.agg ei.size i n ((j+1:Nat):Int) (aS.drop ei.size) k=some r:=h;obtain⟨m,h1,h2,h3⟩:=ziq fP n (j+1) (aS.drop ei.size) fN h';exact⟨m,h1,by omega,h3⟩
end
end Go.AM
namespace Go.AM
open Go.RowKit
section
variable {P:Program} {w:World} {G:GS}
theorem ztl{D:Nat→Nat→Prop}:∀{l:List UInt8}{us:List Value},bf (fun(x:UInt8) us=>al w D .u8 x us) l us→us=l.map fun b => .int .u8 (b.toNat:Int)
 |[],us,h=>h
 |b::l,us,h=>by obtain⟨v1,v2,rfl,h1,h2⟩:=h;simp only[al]at h1;rw[h1,ztl h2];rfl
theorem Vm{D:Nat→Nat→Prop}:∀(l:List UInt8),bf (fun(x:UInt8) us=>al w D .u8 x us) l (l.map fun b => .int .u8 (b.toNat:Int))
 |[]=>rfl
 |b::l=>⟨[.int .u8 b.toNat],_,rfl,by simp only[al],Vm l⟩
theorem zmi{src dst e:TypeId}{v:Value}{l:List UInt8}{c:Cap}(hs:P.underlying src=some (.slice e))(he:P.underlying e=some (.int .u8))(hd:P.underlying dst=some .string)(hv:af w G v (.sl .u8 l c)) :
 ∃u,(convert src dst v).run P w = .ok u w∧af w G u (.str l):=by
 obtain⟨A,cap,rfl,sE,fG,_⟩:=CH hv;simp only[al]at fG;obtain⟨hl,A',c',us,hv,_,bX,fY⟩:=fG;simp only[aaO,abn,and_true,true_and]at hv;obtain⟨rfl,rfl⟩:=hv;have pf:=ztl (w:=w) (D:=G.D) (by simpa only[al]using bX);by_cases h0:0<l.length
 ·obtain⟨b,o,rfl,hm⟩:=fY h0;refine⟨.string (strOfNums (l.map fun b=>(b.toNat:Int))),run_convert_bytes_arg w src e hs he b o l.length _ (l.map fun b=>(b.toNat:Int)) (by simp) (fun i hi => ?_) dst hd,.str _ _ ?_ hl⟩
  ·have hmi:=(hm i (.int .u8 (l[i].toNat:Int)) (by rw[pf];simp[hi])).2;rw[hmi];simp[List.getD,hi]
  ·rw[strOfNums_data,List.map_map]
   conv=>rhs;rw[←List.map_id l]
   apply List.map_congr_left;intro b _;simp
 ·have:l=[]:=aau (by omega);subst this;cases A with
  |none=>exact⟨_,run_convert_bytes_nil w src e hs he _ _ dst hd,.str _ _ rfl (by simp)⟩
  |some a =>refine⟨.string (strOfNums []),?_,.str _ _ rfl (by simp)⟩;obtain⟨b,o,sp⟩:=a;rw[run_convert_bytes_string w src dst e _ _ _ hs he hd];exact run_bytesToString w _ 0 _ [] (by simp[loadCells,loadCellsFrom])
theorem zmj{X:Type}{B0:Nat}{w0:Wd}{h:H}(st:St B0 w0 G h w){src dst e:TypeId}{v:Value}{l:List UInt8}(hs:P.underlying src=some .string)(he:P.underlying e=some (.int .u8))(hd:P.underlying dst=some (.slice e))(hv:af w G v (.str l))
 {k:AV→H→Option X} {r:X} (hk:k (.sl .u8 l (.own h.tk.length)) { h with tk:=h.tk++[some l.length] }=some r) :
 ∃u w',(convert src dst v).run P w = .ok u w'∧Ends B0 w0 G w k r u w':=by
 obtain⟨s,rfl,lN,hlm⟩:=zq hv;have dz:s.size=l.length:=by rw[qe,lN]
 refine⟨_,_,Lib.run_convert_string_bytes w src dst e s hs hd he,?_⟩;have gU:(abh w e s).toList=l.map (fun b=>Value.int .u8 (b.toNat:Int))++List.replicate (grownCap w s.size 0 e - s.size) (.int .u8 0):=by subst lN;simp[abh]
 have hge:s.size≤grownCap w s.size 0 e:=grownCap_ge w _ _ _;have dy:(abh w e s).size=grownCap w s.size 0 e:=by have:=congrArg abB gU;simp only[abb,aav,List.length_map,List.length_replicate]at this;omega
 have nC:w.grownBy (abA w e s) none:=⟨by unfold abA World.freeze;split<;>rfl,by unfold abA World.freeze;split<;>rfl,by unfold abA World.freeze;split<;>rfl,by rw[Lib.bytesWorld_size];omega,fun j hj _=>Lib.bytesWorld_at_old w e s j hj⟩;have eM:=Lib.bytesWorld_at_new w e s;obtain⟨D',BG,aqk,eQ,aBj⟩:=st.xt (n:=l.length) nC eM (by omega)
 have xu:some w.heap.size∉G.bx:=fun sH=>by
  obtain⟨q,hq⟩:=aba sH;have sI:q<h.bx.length:=by rw[st.eb];exact(aaf.1 hq).1
  obtain⟨_,_,hh,_⟩:=st.box q _ _ hq (aaB sI);have:=(aak.1 hh).1;omega
 let D2:Nat→Nat→Prop:=fun x o=>G.D x o∨(x=w.heap.size∧o<l.length)
 have s':=st.gH nC;have mL:∀(t:Nat)(g0:Tk),G.tk[t]? = some (some g0)→g0.n<g0.cap→g0.A≠some w.heap.size:=fun t g0 h0 bo e=>by obtain⟨b',eT,_,_,_,_,_,hh,_⟩:=(st.tok t g0 h0).2 bo;rw[eT]at e;simp at e;subst e;have:=(aak.1 hh).1;omega
 obtain⟨gQ,iT⟩:=s'.tH (D':=D2) (kC.push G.tk ⟨l.length,some w.heap.size,grownCap w s.size 0 e,1⟩) (fun _ _ x => .inl x) (fun b o x=>x.imp id fun y=>by rw[y.1];exact st.b0)
  (fun x o ng=>by
   rcases ng with ng|⟨rfl,ng⟩
   ·exact s'.ec x o ng
   ·exact⟨⟨(abh w e s)[o]'(by omega),by rw[zy eM];simp[show o<(abh w e s).size from by omega]⟩,xu⟩)
  (fun t g0 _ h0 bo x hA j j1 j2 hd=>by
   obtain⟨b',eT,_,_,_,_,_,_,_,Ag⟩:=(s'.tok t g0 h0).2 bo;rw[hA]at eT;obtain rfl:=aaj eT;rcases hd with hd|⟨rfl,hd⟩
   ·exact(Ag j j1 j2).1 hd
   ·exact mL t g0 h0 bo hA)
  ⟨by simp only;omega,fun bo=>⟨w.heap.size,rfl,st.b0,xu,_,_,_,eM,by simp only;omega,fun j j1 j2=>by
   simp only[Nat.mul_one]at j1 j2;refine⟨fun hd => ?_,?_⟩
   ·rcases hd with hd|⟨_,hd⟩
    ·obtain⟨u,hu⟩:=(st.ec _ _ hd).1;have:=aay w _ hu;simp at this
    ·omega
   ·unfold aaI;simp only[eM];simp;omega⟩⟩
  (fun t g0 _ h0 bo _=>mL t g0 h0 bo)
 have EK:h.tk.length=G.tk.length:=by rw[st.fO];simp
 refine⟨_,_,_,iT,eQ,gQ,.sl .u8 l (.own G.tk.length) _ ?_ ?_,?_⟩
 ·simp only[al];refine⟨hlm,some ⟨w.heap.size,0,none⟩,grownCap w s.size 0 e,l.map (fun b=>Value.int .u8 (b.toNat:Int)),by rw[dz],by omega,by simpa only[al]using Vm (w:=w) (D:=G.D) l,fun _=>⟨w.heap.size,0,rfl,fun j u hj => ?_⟩⟩;have sJ:=(aaf.1 hj).1;simp only[List.length_map]at sJ;refine⟨.inr ⟨rfl,by omega⟩,?_⟩;rw[aaH,zy eM,←aaz,gU,aai (by simpa using sJ)];exact hj
 ·refine⟨_,(kC.push G.tk _).here,fun g hg => ?_⟩;obtain rfl:=aaj hg;exact⟨aaw _,fun _=>⟨rfl,some ⟨w.heap.size,0,none⟩,by rw[dz],fun _=>⟨_,rfl,rfl⟩⟩⟩
 ·rw[EK]at hk;simp only[abv,aaE,abw,←st.fO]at hk ⊢;simpa using hk
theorem zrl{X:Type}{cx:Cx X}(hT:fC P cx.tab){B0:Nat}{w0:Wd}{h:H}(st:St B0 w0 G h w){t et:Nat}(wB:P.underlying t=some (.slice et)){ei:TI}(fP:cx.tab et=some ei){τ:Ty}(dz:ei.size=τ.size)(hp:0<ei.size)
 (hz:ei.zero.length=ei.size) {b:Int} (h1:0≤b) (h2:(ei.bytes:Int)*b≤281474976710656) (h3:b≤281474976710656) {k:AV→H→Option X} {r:X} (hk:k (.sl τ [] (.own h.tk.length)) { h with tk:=h.tk++[some 0] }=some r) :
 ∃u w',(Instr.makeSlice t (.int .i64 0) (.int .i64 b)).run P w = .ok u w'∧Ends B0 w0 G w k r u w':=by
 obtain⟨i,hi,hs,hby,pd⟩:=(hT et ei fP).info;obtain⟨z,CI,_⟩:=pd (fun e=>by rw[e]at hz;simp at hz;omega);obtain⟨c,rfl⟩:∃c:Nat,b=(c:Int):=⟨b.toNat,by omega⟩;have ew:=run_make (P:=P) w t et i z wB hi CI .i64 .i64 0 (c:Int) (Int.le_refl _) h1 (by rw[hby];exact h2) (by omega);simp only[Int.toNat_zero,Int.toNat_natCast]at ew;refine⟨_,_,ew,?_⟩;have nC:w.grownBy (w.alloc (.cells (madeCells z.cells (c*i.size)) et)) none:=aaY w _ none;have eM:(w.alloc (.cells (madeCells z.cells (c*i.size)) et)).heap[w.heap.size]? = some (.cells (madeCells z.cells (c*i.size)) et (0,0)):=by show(w.heap.push _)[w.heap.size]? = _;simp
 have dy:(madeCells z.cells (c*i.size)).size=c*τ.size:=by rw[size_madeCells,hs,dz]
 have eQ:bg G.D w (w.alloc (.cells (madeCells z.cells (c*i.size)) et)):=bg.fB nC (fun b o x=>(st.ec b o x).1) (fun _ _ _=>by simp)
 have xu:some w.heap.size∉G.bx:=fun sH=>by
  obtain⟨q,hq⟩:=aba sH;have sI:q<h.bx.length:=by rw[st.eb];exact(aaf.1 hq).1
  obtain⟨_,_,hh,_⟩:=st.box q _ _ hq (aaB sI);have:=(aak.1 hh).1;omega
 have s':=st.gH nC;have mL:∀(t:Nat)(g0:Tk),G.tk[t]? = some (some g0)→g0.n<g0.cap→g0.A≠some w.heap.size:=fun t g0 h0 bo e=>by obtain⟨b',eT,_,_,_,_,_,hh,_⟩:=(st.tok t g0 h0).2 bo;rw[eT]at e;simp at e;subst e;have:=(aak.1 hh).1;omega
 obtain⟨gQ,iT⟩:=s'.tH (D':=G.D) (kC.push G.tk ⟨0,some w.heap.size,c,τ.size⟩) (fun _ _ x=>x) (fun b o x => .inl x)
  (fun x o ng=>s'.ec x o ng)
  (fun t g0 _ h0 bo x hA j j1 j2 hd=>by obtain⟨b',eT,_,_,_,_,_,_,_,Ag⟩:=(s'.tok t g0 h0).2 bo;rw[hA]at eT;obtain rfl:=aaj eT;exact(Ag j j1 j2).1 hd)
  ⟨by simp only;omega,fun bo=>⟨w.heap.size,rfl,st.b0,xu,_,_,_,eM,by simp only;omega,fun j j1 j2=>by
   refine⟨fun hd => ?_,?_⟩
   ·obtain⟨u,hu⟩:=(st.ec _ _ hd).1;have:=aay w _ hu;simp at this
   ·unfold aaI;simp only[eM];simp⟩⟩
  (fun t g0 _ h0 bo _=>mL t g0 h0 bo)
 have EK:h.tk.length=G.tk.length:=by rw[st.fO];simp
 refine⟨_,_,_,iT,eQ,gQ,.sl τ [] (.own G.tk.length) _ ?_ ?_,?_⟩
 ·simp only[al];exact⟨by simp,some ⟨w.heap.size,0,none⟩,c,[],rfl,by simp,rfl,fun bo=>absurd bo (by simp)⟩
 ·refine⟨_,(kC.push G.tk _).here,fun g hg => ?_⟩;obtain rfl:=aaj hg;exact⟨aaw _,fun _=>⟨rfl,some ⟨w.heap.size,0,none⟩,rfl,fun _=>⟨_,rfl,rfl⟩⟩⟩
 ·rw[EK]at hk;simp only[abv,aaE,abw,←st.fO]at hk ⊢;simpa using hk
theorem Gm{X:Type}(cx:Cx X){a:Act}{e:Env}{N:Nat}(he:eN w G N a.tmps e):∀(ts:List Nat)(xs:List Operand),ak w G (xs.map a.eval) (lY cx e ts xs)
 |ts,[]=>by simp only[abw,lY];exact .nil
 |[],x::xs=>by simp only[aaE,lY];exact .cons (he.ev x) (Gm cx he [] xs)
 |t::ts,x::xs=>by simp only[aaE,lY];exact .cons (zwp (he.ev x) _) (Gm cx he ts xs)
theorem ak.two{vs:List Value}{a b:AV}(h:ak w G vs [a,b]):∃u v,vs=[u,v]∧af w G u a∧af w G v b:=by
 match vs,h with
 |[u,v],h=>exact⟨u,v,rfl,h.2 0 u a rfl rfl,h.2 1 v b rfl rfl⟩
 |[],h=>have:=h.1;simp at this
 |[_],h=>have:=h.1;simp at this
 |_::_::_::_,h=>have:=h.1;simp at this
theorem ak.one{vs:List Value}{a:AV}(h:ak w G vs [a]):∃u,vs=[u]∧af w G u a:=by
 match vs,h with
 |[u],h=>exact⟨u,rfl,h.2 0 u a rfl rfl⟩
 |[],h=>have:=h.1;simp at this
 |_::_::_,h=>have:=h.1;simp at this
theorem zkm{τ:Ty}{m:List τ.den}{c:Cap}{xv:Value}(h:af w G xv (.sl τ m c)){size:Nat}(hs:size=τ.size):∃news,uT P w G size τ m xv news:=by subst hs;obtain⟨A,cap,rfl,sE,fG,_⟩:=CH h;simp only[al]at fG;obtain⟨hl,A',c',us,hv,_,bX,fY⟩:=fG;simp only[aaO,abn,and_true,true_and]at hv;obtain⟨rfl,rfl⟩:=hv;have pf:us.length=m.length*τ.size:=bf.length (fun x vs hx=>i_ hx) bX;exact⟨us,bX,fun wx=>rfl,fun wx hc=>Ad pf fun h0=>by obtain⟨b,o,e,hm⟩:=fY h0;exact⟨b,o,e,fun j u hj=>(hc _).trans (hm j u hj).2⟩⟩
theorem Vn{m:List UInt8}{xv:Value}(h:af w G xv (.str m)):∃news,uT P w G 1 .u8 m xv news:=by
 obtain⟨s,rfl,lN,hlm⟩:=zq h;refine⟨_,Vm m,fun wx => ?_,fun wx _ => ?_⟩
 ·simp only[abF,aaA];rw[qe,lN]
 ·have hm:m.length=s.size:=by rw[qe,lN]
  have:(s.extract 0 m.length).data=s.data:=by rw[hm,ab5];exact Array.extract_size
  simp only[aaC,this,aaA];subst lN;exact congrArg (Result.ok · wx) (Array.ext' (by simp))
theorem zfy{X:Type}{cx:Cx X}(hT:fC P cx.tab){B0:Nat}{w0:Wd}{h:H}(s:St B0 w0 G h w){t t2 ty:Nat}{LG:TI}(kZ:cx.tab t2=some LG)(nY:(∃e,LG.d = .slice e)∨LG.d = .str){sv xv:Value}{sa xa:AV}(hs:af w G sv sa)(hx:af w G xv xa)
 {k:AV→H→Option X} {r:X} (hk:kq cx t sa xa h k=some r):∃v w',(aaG #[t,t2] ty #[sv,xv]).run P w = .ok v w'∧Ends B0 w0 G w k r v w':=by
 have Vo:∃d2,P.underlying t2=some d2∧∀q,d2 ≠ .int q:=by
  have hd:=(hT t2 LG kZ).d;rcases nY with⟨e,he⟩ |he
  ·rw[he]at hd;exact⟨_,hd,fun q=>by simp⟩
  ·rw[he]at hd;exact⟨_,hd,fun q=>by simp⟩
 obtain⟨d2,NG,NH⟩:=Vo;unfold kq at hk;split at hk
 ·rename_i et _ _ _ _ _ _ kE;have wB:=(hT t _ kE).d;split at hk
  ·rename_i ei fP;have tJ:=hT et ei fP;obtain⟨i,hi,his,EM,LH⟩:=tJ.info;have jc:=iZ hs (ei.ty.map .sl);have n9:=iZ hx (ei.ty.map .sl);split at hk
   ·rename_i τ l c τ' m c' e1 e2;split at hk
    ·rename_i m' Ai;obtain⟨hc,hk⟩:=zf hk;simp only[aax,b_,eV]at hc;obtain⟨⟨dz,Gn⟩,oA⟩:=hc;obtain⟨z,nZ,pd⟩:=LH (fun e=>by rw[e]at Gn;simp at Gn;omega);rw[e1]at jc;rw[e2]at n9;unfold gW at Ai;split at Ai
     ·rename_i hb;obtain rfl:=Ty.beq_eq _ _ hb;simp only[aag]at Ai;subst Ai;obtain⟨news,mw⟩:=zkm (P:=P) n9 (size:=i.size) (by rw[his,dz]);have Ae:z.cells.size=i.size:=by have:=(pd w G).1;simp at this;omega
      exact zin s wB NG NH hi nZ Ae (by omega) (by omega) jc mw (by rw[EM];exact hk)
     ·cases Ai
    ·cases hk
   ·rename_i l c m e1 e2;obtain⟨hc,hk⟩:=zf hk;simp only[aax,b_]at hc;obtain⟨dz,Gn⟩:=hc;obtain⟨z,nZ,pd⟩:=LH (fun e=>by rw[e]at Gn;simp at Gn;omega);rw[e1]at jc;rw[e2]at n9;obtain⟨news,mw⟩:=Vn (P:=P) n9;have Ae:z.cells.size=i.size:=by have:=(pd w G).1;simp at this;omega
    have h1:i.size=1:=by omega
    exact zin s wB NG NH hi nZ Ae (by omega) (by rw[h1];rfl) jc (by rw[h1];exact mw) (by rw[EM];exact hk)
   ·cases hk
  ·cases hk
 ·cases hk
end
end Go.AM
namespace Go.AM
open Go.RowKit
section
variable {P:Program} {w:World} {G:GS}
theorem zmk{a:Act}{e:Env}{N:Nat}(he:eN w G N a.tmps e){ti:TI}(hp:0<ti.size):∀(parts:List (Nat×Operand))(n:Nat)(arr:Array Value)(l:List AV),ko ti e n parts=some l→(n+parts.length)*ti.size≤arr.size →
 ∃(fk:Array Value)(us:List Value),aa2 (fun i=>some (i*ti.size,ti.size)) arr (parts.map fun p=>(p.1,a.eval p.2))=some fk∧ak w G us l∧us.length=parts.length*ti.size ∧
  fk.toList=arr.toList.take (n*ti.size)++us++arr.toList.drop ((n+parts.length)*ti.size)
 |[],n,arr,l,h,_=>by simp only[ko,aag]at h;subst h;exact⟨arr,[],rfl,.nil,by simp,by simp⟩
 | (i,x)::parts,n,arr,l,h,hlen=>by
  simp only[ko]at h;obtain⟨hi,h2⟩:=zf h;simp only[aax,b_]at hi;obtain⟨⟨hi,gU⟩,tF⟩:=hi;subst hi;replace h:=h2;clear h2;split at h
  ·rename_i l' nD;obtain rfl:=aaj h;have fG:=he.ev x;have c_:ev e x ≠ .any:=wv (by omega);have hR:=wu fG c_;have iz:(a.eval x).cells.toList.length=ti.size:=by rw[hR.1,gU]
   have xp:(a.eval x).cells.size=ti.size:=by simpa using iz
   simp only[aaR]at hlen;have Gj:n*ti.size+(a.eval x).cells.size≤arr.size:=by
    rw[xp];have:(n+(parts.length+1))*ti.size=n*ti.size+ti.size+parts.length*ti.size:=by rw[aaq,aaq];omega
    omega
   have e1:=Vc (a.eval x).cells arr (n*ti.size) Gj;generalize hA:((a.eval x).cells.zipIdx.foldl (fun(cs:Array Value) (p:Value×Nat)=>cs.setIfInBounds (n*ti.size+p.2) p.1) arr)=qE at e1;have Gk:qE.size=arr.size:=by have:=congrArg abB e1;simp at this;omega
   obtain⟨fk,us,hf,bX,LI,e2⟩:=zmk he hp parts (n+1) qE l' nD (by rw[Gk];rw[show n+1+parts.length=n+(parts.length+1)from by omega];exact hlen);refine⟨fk,(a.eval x).cells.toList++us,?_,hR.append bX,?_,?_⟩
   ·simp only[aaE,aa2,xp];rw[if_neg (by simp;omega)];have eT:(a.eval x).cells.zipIdx.foldl (fun(cs:Array Value) (y:Value×Nat)=>match y with|(c,j)=>cs.setIfInBounds (n*ti.size+j) c) arr=qE:=hA;rw[eT];exact hf
   ·rw[aav,iz,LI,aaR,aaq];omega
   ·rw[e2,e1];generalize (a.eval x).cells.toList=v1 at iz;have hm:(n+1)*ti.size=n*ti.size+ti.size:=by rw[aaq];omega
    have xq:n*ti.size≤arr.toList.length:=by simp;omega
    have ht:List.take ((n+1)*ti.size) (arr.toList.take (n*ti.size)++v1++arr.toList.drop (n*ti.size+(a.eval x).cells.size))=arr.toList.take (n*ti.size)++v1:=by rw[aby (by simp;omega)];exact aaM (by simp;omega)
    have tK:List.drop ((n+1+parts.length)*ti.size) (arr.toList.take (n*ti.size)++v1++arr.toList.drop (n*ti.size+(a.eval x).cells.size))=arr.toList.drop ((n+(parts.length+1))*ti.size):=by
     have hx:(n+1+parts.length)*ti.size=(n*ti.size+ti.size)+parts.length*ti.size:=by rw[aaq,hm]
     rw[abp,aaD (by simp;omega),abx,abz];congr 1;simp only[aav,List.length_take,iz,ab1 xq,xp];have hy:(n+(parts.length+1))*ti.size=n*ti.size+ti.size+parts.length*ti.size:=by rw[aaq,aaq];omega
     omega
    rw[ht,aaR,tK];simp
  ·cases h
theorem zl2{X:Type}{cx:Cx X}(hT:fC P cx.tab){a:Act}{e:Env}{N:Nat}(he:eN w G N a.tmps e){B0:Nat}{w0:Wd}{h:H}(s:St B0 w0 G h w){t et:Nat}{ti ei:TI}(ht:cx.tab t=some ti)(wB:ti.d = .slice et)
 (fP:cx.tab et=some ei) {len:Nat} {parts:Array (Nat×Operand)} {l:List AV} (hb:ko ei e 0 parts.toList=some l) (hl:parts.toList.length=len) (nK:len*ei.size≤16777216)
 (hz:ei.zero.length=ei.size) (hp:0<ei.size) (hlen:0<len) {k:AV→H→Option X} {r:X} (hk:k (.gp len l) h=some r) :
 ∃v w',(aaS t len (parts.map fun(i,x)=>(i,a.eval x))).run P w = .ok v w'∧Ends B0 w0 G w k r v w':=by
 have gB:=(hT t ti ht).d;rw[wB]at gB;have tJ:=hT et ei fP;obtain⟨z,pd,_⟩:=jJ (w:=w) tJ (fun e=>by rw[e]at hz;simp at hz;omega);obtain⟨zc,nZ,CI⟩:∃zc:Array Value,(len*ei.size=0→zc=#[])∧(¬len*ei.size=0→zc=z.cells):=by
  by_cases h0:len*ei.size=0
  ·exact⟨#[],fun _=>rfl,fun h=>absurd h0 h⟩
  ·exact⟨z.cells,fun h=>absurd h h0,fun _=>rfl⟩
 generalize hA:(Array.range (len*ei.size)).map (fun x=>zc[x % zc.size]!)=arr;have BF:arr.size=len*ei.size:=by rw[←hA];simp
 obtain⟨fk,us,hf,bX,pf,e2⟩:=zmk (w:=w) (G:=G) he hp parts.toList 0 arr l hb (by rw[aaH,hl,BF];exact aaw _);rw[hl]at pf;have rW:fk.toList=us:=by rw[e2];simp only[Nat.zero_mul,List.take_zero,abx,aaH];rw[aaD (by simp only[abb,BF,hl];exact aaw _),aa1]
 have oE:(parts.map fun(i,x)=>(i,a.eval x)).toList=parts.toList.map fun p=>(p.1,a.eval p.2):=by simp
 have ew:(aaS t len (parts.map fun(i,x)=>(i,a.eval x))).run P w = .ok (.slice (some ⟨w.heap.size,0,none⟩) len len) (w.alloc (.cells fk et)):=by
  unfold aaS;simp only[aao,run_underlying gB,aam,zw tJ];rw[if_neg (by omega)];by_cases h0:len*ei.size=0
  ·rw[if_pos h0];have:=nZ h0;subst this;simp only[aao,aam,aaA];rw[hA,oE];rw[hf];simp[newRow]
  ·rw[if_neg h0];have:=CI h0;subst this;simp only[aao,pd,aam,aaA];rw[hA,oE];rw[hf];simp[newRow]
 have nC:w.grownBy (w.alloc (.cells fk et)) none:=aaY w _ none;have eM:(w.alloc (.cells fk et)).heap[w.heap.size]? = some (.cells fk et (0,0)):=aaP w _;have Vk:fk.size=len*ei.size:=by have:=congrArg abB rW;simp at this;omega
 obtain⟨D',BG,iT,eQ,gQ⟩:=s.xt (n:=len*ei.size) nC eM (by omega);have Vp:=bX.mono iT eQ;refine⟨_,_,ew,.gp len l,_,h,iT,eQ,gQ,.gp len w.heap.size 0 len us l hlen (aaw _) bX.1 (fun j u hj => ?_) Vp.2,hk⟩;have sJ:=(aaf.1 hj).1;refine⟨BG _ (by omega),?_⟩;rw[aaH,zy eM,←aaz,rW];exact hj
theorem zkn{X:Type}{sz:Nat}{i:Int}{k:AV→Option X}{r:X}:∀(n:Nat)(j:Nat)(cs:List AV),rU sz i n (j:Int) cs k=some r→∃m:Nat,i=((j+m:Nat):Int)∧m<n∧k (.iM (cs.drop (m*sz)))=some r
 |0,j,cs,h=>by simp[rU]at h
 |n + 1,j,cs,h=>by
  simp only[rU]at h;cases hb:(i==(j:Int))with
  |true =>rw[hb]at h;exact⟨0,by simpa using hb,by omega,by simpa using h⟩
  |false =>rw[hb,cond_false,show((j:Int)+1)=((j+1:Nat):Int)from by omega]at h;obtain⟨m,h1,h2,h3⟩:=zkn n (j+1) _ h;refine⟨m+1,by rw[h1];omega,by omega,?_⟩;rw[rJ,abz]at h3;rw[show(m+1)*sz=sz+m*sz from by rw[aaq];omega];exact h3
theorem zrm{t et:Nat}{ei:TI}(hu:P.underlying t=some (.slice et))(fP:nc P et ei){n:Nat}{cs:List AV}{x:Value}(hx:af w G x (.gp n cs)){q:IntKind}{m:Nat}(hm:m<n) :
 ∃v,(Instr.indexAt t x (.int q (m:Int))).run P w = .ok v w∧af w G v (.iM (cs.drop (m*ei.size))):=by
 cases hx with
 | gp _ b o c us _ h0 hc hl yE hr =>
  have dz:=zw (w:=w) fP;refine⟨.pointer (some ⟨b,o+m*ei.size,none⟩),?_,?_⟩
  ·simp[Instr.indexAt,asIntOf,aao,run_underlying hu,dz,mu,hm]
  ·refine .iM b _ (us.drop (m*ei.size)) _ (by simp[hl]) (fun j u hj => ?_) (fun j u c hj BI => ?_)
   ·rw[abg]at hj;have:=yE _ u hj;rw[abE];exact this
   ·rw[abg]at hj BI;exact hr _ u c hj BI
theorem z3r{t et:Nat}(hu:P.underlying t=some (.slice et)){τ:Ty}{l:List τ.den}{c:Cap}{x:Value}(hx:af w G x (.sl τ l c)) :
 ∃b:Bool,(abe t x (.slice none 0 0)).run P w = .ok b w∧(0<l.length→b=false)∧∃A n m,x = .slice A n m:=by
 obtain⟨A,cap,rfl,sE,fG,_⟩:=CH hx;obtain⟨dd,ee⟩:∃dd,Op.maxDepth=dd+1:=⟨9999,rfl⟩;cases A with
 |none =>
  refine⟨true,?_,fun h0 => ?_,none,_,_,rfl⟩
  ·unfold abe;rw[ee];simp[abM,aao,run_underlying hu]
  ·simp only[al]at fG;obtain⟨_,A',c',us,hv,_,_,hm⟩:=fG;obtain⟨b,o,e,_⟩:=hm h0;simp at hv;rw[←hv.1]at e;cases e
 |some p =>refine⟨false,?_,fun _=>rfl,_,_,_,rfl⟩;unfold abe;rw[ee];simp[abM,aao,run_underlying hu]
end
end Go.AM
namespace Go.AM
open Go.MapKept Go.RowKit
theorem zqc(a:Int):∀(l:List (Int×Nat))(n j:Nat),∃o,Instr.findNow (.int .i64) (.int .i64 a) (BB n l) j=some o∧o.map (·.2)=(l.find? fun p=>a==p.1).map fun p=>Value.func (.func p.2) #[] #[]
 |[],n,j=>⟨none,rfl,rfl⟩
 |(x,f)::l,n,j=>by
  simp only[BB,Instr.findNow,Instr.sameNow,if_true,List.find?_cons];cases h:(a==x)
  ·simpa using zqc a l (n+1) (j+1)
  ·exact⟨some (j,_),rfl,rfl⟩
theorem zo8{P:Program}{w:World}{G:GS}{t k e:TypeId}(ht:P.underlying t=some (.map k e))(hk:P.underlying k=some (.int .i64)){z:Value}(hz:(zeroValue e).run P w = .ok z w){b:Nat}{l:List (Int×Nat)}{c:Nat}(hb:w.heap[b]? = some (.map (nI l) c))(a:Int) :
 ∃v,(Instr.lookup t (.map (some b)) (.int .i64 a) true).run P w = .ok v w∧af w G v (match(l.find? fun p=>a==p.1).map (·.2)with|some f => .cr [.fn f [] [],.bool true] |none => .cr [.any,.bool false]):=by
 obtain⟨o,h1,h2⟩:=zqc a l 0 0;have hc:∀b' w',(Instr.checkKey b' 10000 k (.int .i64 a)).run P w' = .ok () w':=fun b' w'=>run_checkKey hk (by simp[IsKey]) b' 9999;have he:(nI l).toList=BB 0 l:=by simp[nI]
 have tL:(Instr.findKey k (.int .i64 a) (nI l).toList).run P w = .ok o w:=by simp only[Instr.findKey,aao,run_underlying hk,aam,he,h1];rfl
 have cr:∀(x:Value)(y:Bool)(ax:AV),af w G x ax→af w G (.tuple #[x,.bool y]) (.cr [ax,.bool y]):=fun x y ax hx=>by
  refine .cr _ _ rfl (fun i v c hv hc => ?_)
  match i,hv,hc with
  |0,hv,hc=>simp at hv hc;subst hv hc;exact hx
  |1,hv,hc=>simp at hv hc;subst hv hc;exact .bool _
  |i+2,hv,hc=>simp at hc
 cases o with
 | none =>
  have h3:(l.find? fun p=>a==p.1)=none:=by
   cases hf:(l.find? fun p=>a==p.1)with
   |none=>rfl
   |some p=>rw[hf]at h2;simp at h2
  rw[h3];refine⟨.tuple #[z,.bool false],?_,cr _ _ _ (.any _)⟩;simp only[Instr.lookup,aao,run_underlying ht,aam,ab0 hb,hc,tL,aaA,if_true,hz]
 | some q =>
  obtain⟨i,v⟩:=q
  obtain⟨p,hp,hv⟩:∃p,(l.find? fun p=>a==p.1)=some p∧v=Value.func (.func p.2) #[] #[]:=by
   cases hf:(l.find? fun p=>a==p.1)with
   |none=>rw[hf]at h2;simp at h2
   |some p=>rw[hf]at h2;simp at h2;exact⟨p,rfl,h2⟩
  rw[hp];refine⟨.tuple #[v,.bool true],?_,cr _ _ _ ?_⟩
  ·simp only[Instr.lookup,aao,run_underlying ht,aam,ab0 hb,hc,tL,aaA,if_true]
  ·subst hv;exact .fn _ _ _ _ _ rfl (fun i v c hv hc=>by simp at hc) rfl (fun i v c hv hc=>by simp at hc)
end Go.AM
