/- Part 1 of the proof that a law of this seat (the one that GOCLAIM.json names) returns true for every argument; nothing is assumed. -/
import Derived.Calls
import Derived.Orders
import Derived.Laws.Cells
import Derived.Laws.World
import Derived.Laws.Entries
import Derived.Laws.Sem
import Derived.Laws.Rows
import Derived.Laws.Slices
import Derived.Laws.Small
import Derived.Laws.Strings
import Derived.WalkSpells
import Derived.Laws.StructEq
import Derived.Laws.Tables
import Derived.LoopN
import Derived.Still
import Derived.StillTail
set_option linter.unusedSimpArgs false
set_option linter.unusedVariables false
set_option linter.all false
namespace Go.Ev
open Go
inductive AV where
 | bool (b:Bool)
 | int (k:IntKind) (n:Int)
 | flt (k:FloatKind) (bits:Nat)
 | str (s:ByteArray)
 | nilptr
 | ptr (id off:Nat)
 | fptr (cs:List AV) (off:Nat)
 | nilsl
 | sl (id off k len:Nat) (full:Bool)
 | fz (k len:Nat) (cs:List AV) (full:Bool)
 | nilmap
 | map (id:Nat)
 | fn (f:Nat) (cap:List AV)
 | nilfn
 | ifc (t:Nat) (v:AV)
 | nilifc
 | agg (cs:List AV)
 | tup (vs:List AV)
 deriving Inhabited
inductive HObj where
 | cells (cs:List AV) (p:Nat)
 | map (es:List (AV × AV))
 | iter (s:ByteArray) (pos:Nat)
 deriving Inhabited
structure H where
 n:Nat
 get:Nat→Option HObj
def H.alloc (h:H) (o:HObj):H:=⟨h.n+1,fun i=>if i=h.n then some o else h.get i⟩
def H.set (h:H) (i:Nat) (o:HObj):H:=⟨h.n,fun j=>if j=i then some o else h.get j⟩
def H.kill (h:H) (i:Nat):H:=⟨h.n,fun j=>if j=i then none else h.get j⟩
abbrev Env:=List (Nat × AV)
def Env.get:Env→Nat→Option AV
 | [],_=>none
 | (k,v)::r,i=>if i=k then some v else Env.get r i
def Env.set (e:Env) (i:Nat) (v:AV):Env:=(i,v)::e
def Env.put (e:Env) (d:Option Nat) (v:AV):Env:=match d with | some i=>e.set i v | none=>e
def Env.keep (e:Env):List Nat→Env
 | []=>[]
 | i::r=>match e.get i with | some v=>(i,v)::e.keep r | none=>e.keep r
def AV.undef:AV:=.tup []
def AV.cells:AV→List AV
 | .agg cs=>cs
 | v=>[v]
def AV.one:AV→Bool
 | .agg _ | .tup _=>false
 | _=>true
def As (n:Int):AV:=.int .i64 n
inductive Opd where
 | t (n:Nat)
 | c (v:AV)
 deriving Inhabited
def Opd.ev (e:Env):Opd→Option AV
 | .t n=>e.get n
 | .c v=>some v
def KG (e:Env):List Opd→Option (List AV)
 | []=>some []
 | x::r=>match x.ev e,KG e r with | some v,some vs=>some (v::vs) | _,_=>none
def AL (cs:List AV) (off:Nat) (vs:List AV):List AV:=cs.take off++vs++cs.drop (off+vs.length)
def rep (z:List AV):Nat→List AV
 | 0=>[]
 | n+1=>z++rep z n
inductive IOp where
 | mov (x:Opd)
 | pick (c a b:Opd)
 | alloc (z:List AV)
 | box (x:Opd)
 | build (z:List AV) (parts:List (Nat × Nat × Opd))
 | bslice (k:Nat) (z:List AV) (len:Nat) (parts:List (Nat × Nat × Opd))
 | ld (agg:Bool) (n:Nat) (a:Opd)
 | st (n:Nat) (a v:Opd)
 | nilc (x:Opd)
 | bin (op:BinOp) (x y:Opd)
 | eqb (neg:Bool) (x y:Opd)
 | eqn (kd:Nat) (neg:Bool) (x:Opd)
 | eqa (ks:List Nat) (neg:Bool) (x y:Opd)
 | un (op:UnOp) (x:Opd)
 | cint (k:IntKind) (x:Opd)
 | cstr (x:Opd)
 | cbs (x:Opd)
 | csb (x:Opd)
 | mkif (t:Nat) (x:Opd)
 | mkfn (f:Nat) (caps:List Opd)
 | mksl (k bytes:Nat) (z:List AV) (l c:Opd)
 | slc (k:Nat) (x:Opd) (lo hi mx:Option Opd)
 | slcs (x:Opd) (lo hi:Option Opd)
 | slarr (n k:Nat) (x:Opd) (lo hi:Option Opd)
 | fadr (off:Nat) (x:Opd)
 | fld (agg:Bool) (off n:Nat) (x:Opd)
 | iadr (k:Nat) (x i:Opd)
 | iadrA (len k:Nat) (x i:Opd)
 | idxs (x i:Opd)
 | idxA (agg:Bool) (len k:Nat) (x i:Opd)
 | ext (x:Opd) (i:Nat)
 | len (x:Opd)
 | lens (x:Opd)
 | cap (x:Opd)
 | app (k bytes:Nat) (s x:Opd)
 | appz (k bytes:Nat) (z:List AV) (s x:Opd)
 | cpy (k:Nat) (d s:Opd)
 | mm (isMax:Bool) (x y:Opd)
 | rng (x:Opd)
 | next (x:Opd)
 | tas (t:Nat) (zero:AV) (x:Opd)
 | call (f:Opd) (args:List Opd)
 | bad
 deriving Inhabited
def Af (z:List AV):List (Nat × Nat × AV)→Option (List AV)
 | []=>some z
 | (off,n,v)::r=>if v.cells.length=n∧off+n≤z.length∧v.cells.all AV.one then Af (AL z off v.cells) r else none
def AX (e:Env):List (Nat × Nat × Opd)→Option (List (Nat × Nat × AV))
 | []=>some []
 | (off,n,x)::r=>match x.ev e,AX e r with | some v,some vs=>some ((off,n,v)::vs) | _,_=>none
def Bs (agg:Bool) (n:Nat) (cs:List AV) (off:Nat):Option AV :=
 if agg then (if off+n≤cs.length then some (.agg ((cs.drop off).take n)) else none) else cs[off]?
def Nl (op:BinOp) (k:IntKind) (a b:Int):Option AV :=
 match op with
 | .add=>some (.int k (k.wrap (a+b)))
 | .sub=>some (.int k (k.wrap (a - b)))
 | .mul=>some (.int k (k.wrap (a*b)))
 | .quo=>if b=0 then none else some (.int k (k.wrap (a.tdiv b)))
 | .rem=>if b=0 then none else some (.int k (a.tmod b))
 | .and=>some (.int k (k.wrap (BitVec.ofInt k.bits a &&& BitVec.ofInt k.bits b).toNat))
 | .or=>some (.int k (k.wrap (BitVec.ofInt k.bits a ||| BitVec.ofInt k.bits b).toNat))
 | .xor=>some (.int k (k.wrap (BitVec.ofInt k.bits a ^^^ BitVec.ofInt k.bits b).toNat))
 | .andNot=>some (.int k (k.wrap (BitVec.ofInt k.bits a &&& ~~~ BitVec.ofInt k.bits b).toNat))
 | .eql=>some (.bool (a == b))
 | .neq=>some (.bool (a != b))
 | .lss=>some (.bool (a<b))
 | .leq=>some (.bool (a≤b))
 | .gtr=>some (.bool (a > b))
 | .geq=>some (.bool (a ≥ b))
 | _=>none
def HA (op:BinOp) (k:IntKind) (a b:Int):Option AV :=
 if b<0 then none else
 match op with
 | .shl=>some (.int k (k.wrap (a*2 ^ (min b.toNat k.bits))))
 | .shr=>some (.int k (a.fdiv (2 ^ (min b.toNat k.bits))))
 | _=>none
def Dp (op:BinOp) (x y:ByteArray):Option AV :=
 match op with
 | .add=>if x.size+y.size≤9223372036854775807 then some (.str (x++y)) else none
 | .eql=>some (.bool (x.toList == y.toList))
 | .neq=>some (.bool !(x.toList == y.toList))
 | .lss=>some (.bool (Op.bytesLess x.toList y.toList))
 | .leq=>some (.bool (Op.bytesLess x.toList y.toList||(x.toList == y.toList)))
 | .gtr=>some (.bool !(Op.bytesLess x.toList y.toList||(x.toList == y.toList)))
 | .geq=>some (.bool !(Op.bytesLess x.toList y.toList))
 | _=>none
def Lj (op:BinOp) (x y:AV):Option AV :=
 match x,y with
 | .int k a,.int k' b =>
  match op with
  | .shl | .shr=>HA op k a b
  | _=>if k=k' then Nl op k a b else none
 | .str a,.str b=>match op with | .shl | .shr=>none | _=>Dp op a b
 | _,_=>none
def AG:AV→Option Bool
 | .nilptr | .nilsl | .nilfn | .nilifc | .nilmap=>some true
 | .ptr _ _ | .fptr _ _ | .sl .. | .fz .. | .fn .. | .ifc .. | .map _=>some false
 | _=>none
def Bg:Nat→AV→Option Bool
 | 0,.nilptr=>some true
 | 0,.ptr _ _=>some false
 | 0,.fptr _ _=>some false
 | 1,.nilsl=>some true
 | 1,.sl ..=>some false
 | 1,.fz ..=>some false
 | 2,.nilifc=>some true
 | 2,.ifc ..=>some false
 | _,_=>none
def MU:Nat→AV→AV→Option Bool
 | 0,.int k a,.int k' b=>if k=k' then some (a == b) else none
 | 1,.bool a,.bool b=>some (a == b)
 | 2,.str a,.str b=>some (a.toList == b.toList)
 | _,_,_=>none
def Dy:List Nat→List AV→List AV→Option Bool
 | [],_,_=>some true
 | k::ks,a::r,b::s=>match MU k a b with | some true=>Dy ks r s | some false=>some false | none=>none
 | _,_,_=>none
def Xd (op:UnOp) (x:AV):Option AV :=
 match op,x with
 | .neg,.int k n=>some (.int k (k.wrap (0 - n)))
 | .xor,.int k n=>Nl .xor k (if k.signed then -1 else k.max) n
 | .not,.bool b=>some (.bool !b)
 | _,_=>none
def source (k:Nat) (h:H):AV→Option (Nat × List AV)
 | .nilsl=>some (0,[])
 | .str s=>if k=1 then some (s.size,s.data.toList.map fun b=>.int .u8 b.toNat) else none
 | .sl id off k' len _=>if k=k' then match h.get id with
  | some (.cells cs _)=>if off+len*k≤cs.length then some (len,(cs.drop off).take (len*k)) else none
  | _=>none else none
 | .fz k' len cs _=>if k=k'∧cs.length=len*k then some (len,cs) else none
 | _=>none
def Ch (bar k bytes : Nat) (h : H) (s : AV) (n : Nat) (xs : List AV) : Option (AV × H) :=
  match s with
  | .nilsl => if n = 0 then some (.nilsl, h) else
    if n * bytes ≤ 140737488355328 ∧ n ≤ 9223372036854775807 then some (.sl h.n 0 k n false, h.alloc (.cells xs 0)) else none
  | .fz k' len cs full => if k' = k ∧ cs.length = len * k then (if n = 0 then some (s, h) else
    if full ∧ (len + n) * bytes ≤ 140737488355328 ∧ len + n ≤ 9223372036854775807 then some (.sl h.n 0 k (len + n) false, h.alloc (.cells (cs ++ xs) 0)) else none) else none
  | .sl id off k' len full => if k' = k then (if n = 0 then some (s, h) else
    match h.get id with
    | some (.cells cs p) =>
      if off + len * k ≤ cs.length ∧ (len + n) * bytes ≤ 140737488355328 ∧ len + n ≤ 9223372036854775807 then
        (if full then some (.sl h.n 0 k (len + n) false, h.alloc (.cells ((cs.drop off).take (len * k) ++ xs) 0)) else
         if bar ≤ id ∧ p ≤ off + len * k then some (.sl h.n 0 k (len + n) false, (h.kill id).alloc (.cells ((cs.drop off).take (len * k) ++ xs) (p - off))) else none)
      else none
    | _ => none) else none
  | _ => none
def BL (x:AV):Option Nat:=match x with | .int _ n=>if 0≤n then some n.toNat else none | _=>none
def Ap (e:Env):Option Opd→Option (Option AV)
 | none=>some none
 | some x=>match x.ev e with | some v=>some (some v) | none=>none
def AY (d:Nat):Option AV→Option Nat
 | none=>some d
 | some v=>BL v
def BY (s:ByteArray) (lo hi:Option AV):Option AV :=
 match AY 0 lo,AY s.size hi with
 | some l,some u=>if l≤u∧u≤s.size then some (.str (s.extract l u)) else none
 | _,_=>none
def BI (k:Nat) (x:AV) (lo hi mx:Option AV):Option AV :=
 match x with
 | .nilsl=>match AY 0 lo,AY 0 hi,AY 0 mx with
  | some 0,some 0,some 0=>if mx.isSome&&hi.isNone then none else some .nilsl
  | _,_,_=>none
 | .sl id off k' len full=>match AY 0 lo,AY len hi,mx with
  | some l,some u,none=>if k=k'∧l≤u∧u≤len then some (.sl id (off+l*k) k (u - l) (full&&decide (u=len))) else none
  | some l,some u,some m=>match BL m,hi with
   | some m,some _=>if k=k'∧l≤u∧u≤m∧m≤len then some (.sl id (off+l*k) k (u - l) (decide (u=m))) else none
   | _,_=>none
  | _,_,_=>none
 | .fz k' len cs full=>match AY 0 lo,AY len hi,mx with
  | some l,some u,none=>if k=k'∧cs.length=len*k∧l≤u∧u≤len then some (.fz k (u - l) ((cs.drop (l*k)).take ((u - l)*k)) (full&&decide (u=len))) else none
  | some l,some u,some m=>match BL m,hi with
   | some m,some _=>if k=k'∧cs.length=len*k∧l≤u∧u≤m∧m≤len then some (.fz k (u - l) ((cs.drop (l*k)).take ((u - l)*k)) (decide (u=m))) else none
   | _,_=>none
  | _,_,_=>none
 | _=>none
def AJ (i:AV) (len:Nat):Option Nat:=match i with | .int _ n=>if 0≤n∧n<len then some n.toNat else none | _=>none
def Hk (bar:Nat) (h:H) (id off:Nat) (vs:List AV):Option H :=
 match h.get id with
 | some (.cells cs p)=>if bar≤id∧off+vs.length≤cs.length∧p≤off∧vs.all AV.one then some (h.set id (.cells (AL cs off vs) p)) else none
 | _=>none
def Qj (bar k:Nat) (h:H) (d:AV) (m:Nat) (xs:List AV):Option (AV × H) :=
 match d with
 | .nilsl=>some (As 0,h)
 | .sl id off k' len full=>if k=k' then (Hk bar h id off (xs.take (min m len*k))).map (As (min m len:Nat),·) else none
 | _=>none
def Ks:AV→Option UInt8
 | .int .u8 n=>some (UInt8.ofNat n.toNat)
 | _=>none
def Eg:List AV→Option (List UInt8)
 | []=>some []
 | c::r=>match Ks c,Eg r with | some b,some l=>some (b::l) | _,_=>none
def BH (bar:Nat) (e:Env) (h:H):IOp→Option (AV × H)
 | .mov x=>(x.ev e).map (·,h)
 | .pick c a b=>match c.ev e,a.ev e,b.ev e with | some (.bool t),some u,some v=>some (if t then u else v,h) | _,_,_=>none
 | .alloc z=>if z.all AV.one then some (.ptr h.n 0,h.alloc (.cells z 0)) else none
 | .box x=>match x.ev e with | some v=>if v.cells.all AV.one then some (.ptr h.n 0,h.alloc (.cells v.cells 0)) else none | none=>none
 | .build z ps=>match AX e ps with | some vs=>(Af z vs).map fun cs=>(.agg cs,h) | none=>none
 | .bslice k z len ps=>match AX e ps with
  | some vs=>match Af z vs with
   | some cs=>if z.all AV.one∧z.length=len*k∧0<k then some (.sl h.n 0 k len true,h.alloc (.cells cs 0)) else none
   | none=>none
  | none=>none
 | .ld agg n a=>match a.ev e with
  | some (.ptr id off)=>match h.get id with | some (.cells cs _)=>(Bs agg n cs off).map (·,h) | _=>none
  | some (.fptr cs off)=>(Bs agg n cs off).map (·,h)
  | _=>none
 | .st n a v=>match a.ev e,v.ev e with
  | some (.ptr id off),some v=>if v.cells.length=n then (Hk bar h id off v.cells).map (.undef,·) else none
  | _,_=>none
 | .nilc x=>match x.ev e with
  | some v=>if AG v=some false then some (v,h) else none
  | none=>none
 | .bin op x y=>match x.ev e,y.ev e with | some a,some b=>(Lj op a b).map (·,h) | _,_=>none
 | .eqb neg x y=>match x.ev e,y.ev e with | some (.bool a),some (.bool b)=>some (.bool (if neg then !(a == b) else a == b),h) | _,_=>none
 | .eqn kd neg x=>match x.ev e with | some a=>(Bg kd a).map fun t=>(.bool (if neg then !t else t),h) | _=>none
 | .eqa ks neg x y=>match x.ev e,y.ev e with | some (.agg a),some (.agg b)=>(Dy ks a b).map fun t=>(.bool (if neg then !t else t),h) | _,_=>none
 | .un op x=>match x.ev e with | some a=>(Xd op a).map (·,h) | _=>none
 | .cint k x=>match x.ev e with | some (.int _ n)=>some (.int k (k.wrap n),h) | _=>none
 | .cstr x=>match x.ev e with | some (.int _ n)=>some (.str (Utf8.encode n),h) | some (.str s)=>some (.str s,h) | _=>none
 | .cbs x=>match x.ev e with
  | some v=>match source 1 h v with
   | some (_,cs)=>match Eg cs with
    | some bs=>match v with | .str _=>none | _=>some (.str ⟨bs.toArray⟩,h)
    | none=>none
   | none=>none
  | none=>none
 | .csb x=>match x.ev e with
  | some (.str s)=>some (.sl h.n 0 1 s.size false,h.alloc (.cells (s.data.toList.map fun b=>.int .u8 b.toNat) 0))
  | _=>none
 | .mkif t x=>match x.ev e with | some v=>some (.ifc t v,h) | none=>none
 | .mkfn f caps=>match KG e caps with | some vs=>some (.fn f vs,h) | none=>none
 | .mksl k bytes z l c=>match l.ev e,c.ev e with
  | some (.int .i64 l),some (.int .i64 c) =>
   if 0≤l∧l≤c∧c*bytes≤140737488355328∧c≤9223372036854775807∧z.length=k∧0<k∧z.all AV.one then
    some (.sl h.n 0 k l.toNat (decide (l=c)),h.alloc (.cells (rep z l.toNat) 0)) else none
  | _,_=>none
 | .slc k x lo hi mx=>match x.ev e,Ap e lo,Ap e hi,Ap e mx with | some v,some a,some b,some c=>(BI k v a b c).map (·,h) | _,_,_,_=>none
 | .slcs x lo hi=>match x.ev e,Ap e lo,Ap e hi with | some (.str s),some a,some b=>(BY s a b).map (·,h) | _,_,_=>none
 | .slarr n k x lo hi=>match x.ev e,Ap e lo,Ap e hi with
  | some (.ptr id off),some a,some b=>match AY 0 a,AY n b,h.get id with
   | some l,some u,some (.cells cs _)=>if l≤u∧u≤n∧off+n*k≤cs.length then some (.sl id (off+l*k) k (u - l) (decide (u=n)),h) else none
   | _,_,_=>none
  | _,_,_=>none
 | .fadr off x=>match x.ev e with
  | some (.ptr id o)=>some (.ptr id (o+off),h)
  | some (.fptr cs o)=>some (.fptr cs (o+off),h)
  | _=>none
 | .fld agg off n x=>match x.ev e with | some (.agg cs)=>(Bs agg n cs off).map (·,h) | _=>none
 | .iadr k x i=>match x.ev e,i.ev e with
  | some (.sl id off k' len _),some i=>if k=k' then (AJ i len).map fun j=>(.ptr id (off+j*k),h) else none
  | some (.fz k' len cs _),some i=>if k=k'∧cs.length=len*k then (AJ i len).map fun j=>(.fptr cs (j*k),h) else none
  | _,_=>none
 | .iadrA len k x i=>match x.ev e,i.ev e with
  | some (.ptr id off),some i=>(AJ i len).map fun j=>(.ptr id (off+j*k),h)
  | some (.fptr cs off),some i=>(AJ i len).map fun j=>(.fptr cs (off+j*k),h)
  | _,_=>none
 | .idxs x i=>match x.ev e,i.ev e with
  | some (.str s),some i=>match AJ i s.size with | some j=>(s.data.toList[j]?).map fun b=>(.int .u8 b.toNat,h) | none=>none
  | _,_=>none
 | .idxA agg len k x i=>match x.ev e,i.ev e with
  | some (.agg cs),some i=>match AJ i len with | some j=>(Bs agg k cs (j*k)).map (·,h) | none=>none
  | _,_=>none
 | .ext x i=>match x.ev e with | some (.tup vs)=>(vs[i]?).map (·,h) | _=>none
 | .lens x=>match x.ev e with
  | some (.str s)=>some (As s.size,h)
  | _=>none
 | .len x=>match x.ev e with
  | some .nilsl=>some (As 0,h)
  | some (.sl _ _ _ n _)=>some (As n,h)
  | some (.fz _ n _ _)=>some (As n,h)
  | _=>none
 | .cap x=>match x.ev e with
  | some .nilsl=>some (As 0,h)
  | some (.sl _ _ _ n true)=>some (As n,h)
  | some (.fz _ n _ true)=>some (As n,h)
  | _=>none
 | .app k bytes s x=>match s.ev e,x.ev e with
  | some s,some x=>match source k h x with | some (n,xs)=>if 0<k then Ch bar k bytes h s n xs else none | none=>none
  | _,_=>none
 | .appz k bytes z s x=>match s.ev e,x.ev e with
  | some s,some (.int .i64 n)=>if 0<k∧0≤n∧n≤9223372036854775807∧z.length=k∧z.all AV.one then Ch bar k bytes h s n.toNat (rep z n.toNat) else none
  | _,_=>none
 | .cpy k d s=>match d.ev e,s.ev e with
  | some d,some s=>match source k h s with
   | some (m,xs)=>Qj bar k h d m xs
   | none=>none
  | _,_=>none
 | .mm isMax x y=>match x.ev e,y.ev e with
  | some (.int k a),some (.int k' b)=>if k=k' then some (.int k (if isMax then (if b > a then b else a) else (if b<a then b else a)),h) else none
  | _,_=>none
 | .rng x=>match x.ev e with | some (.str s)=>some (.ptr h.n 0,h.alloc (.iter s 0)) | _=>none
 | .next x=>match x.ev e with
  | some (.ptr id 0)=>match h.get id with
   | some (.iter s pos)=>if bar≤id then (if pos<s.size then some (.tup [.bool true,As pos,.int .i32 (Utf8.decode s pos).1],h.set id (.iter s (pos+(Utf8.decode s pos).2))) else some (.tup [.bool false],h)) else none
   | _=>none
  | _=>none
 | .tas t zero x=>match x.ev e with
  | some (.ifc t' v)=>if t'=t then some (.tup [v,.bool true],h) else some (.tup [zero,.bool false],h)
  | some .nilifc=>some (.tup [zero,.bool false],h)
  | _=>none
 | .call _ _=>none
 | .bad=>none
structure IOper where
 dst:Option Nat
 op:IOp
 guard:Option (Nat × Bool)
 deriving Inhabited
inductive IC where
 | skip
 | reg (ops:List IOper)
 | regW (ops:List IOper) (chk:List (Nat × Nat))
 | seq (a b:IC)
 | cond (c:Opd) (a b:IC)
 | block (id:Nat) (b:IC)
 | loop (b:IC)
 | loopK (l:List Nat) (b:IC)
 | scope (b:IC)
 | exit (id:Nat)
 | ret
 | keep (l:List Nat) (b:IC)
 | frz (l:List Nat) (b:IC)
 | bad
 deriving Inhabited
inductive Ex where
 | normal
 | exit (id:Nat)
 | ret
 deriving DecidableEq,Inhabited
abbrev Oracle:=Nat→List AV→Nat→H→Option (AV × H)
def Ae (o:Oracle) (bar:Nat) (e:Env) (h:H):IOp→Option (AV × H)
 | .call f args=>match f.ev e,KG e args with
  | some (.fn f caps),some vs=>o f (vs++caps) bar h
  | _,_=>none
 | op=>BH bar e h op
def EJ (e:Env):Option (Nat × Bool)→Option Bool
 | none=>some true
 | some (s,want)=>match e.get s with
  | some (.bool b)=>some (b == want)
  | some (.tup [])=>some false
  | _=>none
def BQ (o:Oracle) (bar:Nat):List IOper→Env→H→Option (Env × H)
 | [],e,h=>some (e,h)
 | x::r,e,h=>match EJ e x.guard with
  | some true=>match Ae o bar e h x.op with
   | some (v,h')=>BQ o bar r (e.put x.dst v) h'
   | none=>none
  | some false=>BQ o bar r (e.put x.dst .undef) h
  | none=>none
def Bm {S R:Type} (f:S→Option (S ⊕ R)):Nat→S→Option R
 | 0,_=>none
 | n+1,s=>match f s with
  | some (.inl s')=>Bm f n s'
  | some (.inr r)=>some r
  | none=>none
open Classical in
noncomputable def ER {S R:Type} (f:S→Option (S ⊕ R)) (s:S):Option R :=
 if h:∃ r n,Bm f n s=some r then some (Classical.choose h) else none
def AV.free:AV→Bool
 | .ptr _ _ | .sl .. | .map _=>false
 | .fn _ cs=>freeL cs
 | .ifc _ v=>v.free
 | .agg cs=>freeL cs
 | .tup vs=>freeL vs
 | _=>true
where
 freeL:List AV→Bool
 | []=>true
 | v::r=>v.free&&freeL r
mutual
def AC (bar:Nat):Nat→H→AV→Option (AV × H)
 | 0,_,_=>none
 | d+1,h,.sl id off k len full=>match h.get id with
  | some (.cells cs p) =>
   if bar≤id∧off+len*k≤cs.length then
    match AD bar d (h.set id (.cells cs (max p (off+len*k)))) ((cs.drop off).take (len*k)) with
    | some (xs,h')=>if xs.all AV.free∧xs.all AV.one then some (.fz k len xs full,h') else none
    | none=>none
   else none
  | _=>none
 | d+1,h,.agg cs=>match AD bar d h cs with | some (xs,h')=>some (.agg xs,h') | none=>none
 | _+1,h,v=>some (v,h)
termination_by d _ _=>(d,0)
def AD (bar:Nat):Nat→H→List AV→Option (List AV × H)
 | _,h,[]=>some ([],h)
 | d,h,v::r=>match AC bar d h v with
  | some (v',h')=>match AD bar d h' r with | some (r',h'')=>some (v'::r',h'') | none=>none
  | none=>none
termination_by d _ l=>(d,l.length+1)
end
def IM (bar:Nat):List Nat→Env→H→Option (Env × H)
 | [],e,h=>some (e,h)
 | i::r,e,h=>match e.get i with
  | some v=>match AC bar 4 h v with | some (v',h')=>IM bar r (e.set i v') h' | none=>none
  | none=>none
def IY:IOp→Bool
 | .bslice ..=>true
 | _=>false
def KY (o:Oracle) (bar:Nat) (il:List IOper) (e:Env) (h:H) (p:Nat × Nat):Prop :=
 ∃ y e1 h1 h2 e2,il[p.1]? = some y∧BQ o bar (il.take p.1) e h=some (e1,h1)∧BQ o bar (il.take p.2) e h=some (e2,h2) ∧
  (EJ e1 y.guard=some false∨∃ v h3,Ae o bar e1 h1 y.op=some (v,h3)∧if IY y.op=true then (∀ cs q,h3.get h1.n=some (.cells cs q)→cs.all AV.free=true) else ∃ h4,Ae o bar e1 h2 y.op=some (v,h4))
open Classical in
noncomputable def BE (o:Oracle) (bar:Nat):IC→Env→H→Option (Ex × Env × H)
 | .skip,e,h=>some (.normal,e,h)
 | .reg ops,e,h=>match BQ o bar ops e h with | some (e',h')=>some (.normal,e',h') | none=>none
 | .regW ops chk,e,h=>match BQ o bar ops e h with | some (e',h')=>if ∀ p ∈ chk,KY o bar ops e h p then some (.normal,e',h') else none | none=>none
 | .seq a b,e,h=>match BE o bar a e h with
  | some (.normal,e',h')=>BE o bar b e' h'
  | r=>r
 | .cond c a b,e,h=>match c.ev e with
  | some (.bool t)=>if t then BE o bar a e h else BE o bar b e h
  | _=>none
 | .block id b,e,h=>match BE o bar b e h with
  | some (.exit j,e',h')=>if j=id then some (.normal,e',h') else some (.exit j,e',h')
  | r=>r
 | .loop b,e,h=>ER (fun s:Env × H=>match BE o bar b s.1 s.2 with
  | some (.normal,e',h')=>some (.inl (e',h'))
  | some r=>some (.inr r)
  | none=>none) (e,h)
 | .loopK l b,e,h=>ER (fun s:Env × H=>match BE o bar b s.1 s.2 with
  | some (.normal,e',h')=>some (.inl (e'.keep l,h'))
  | some r=>some (.inr r)
  | none=>none) (e.keep l,h)
 | .scope b,e,h=>BE o bar b e h
 | .exit id,e,h=>some (.exit id,e,h)
 | .ret,e,h=>some (.ret,e,h)
 | .keep l b,e,h=>BE o bar b (e.keep l) h
 | .frz l b,e,h=>match IM bar l e h with | some (e',h')=>BE o bar b e' h' | none=>none
 | .bad,_,_=>none
inductive RV where
 | tmp (t:Nat)
 | cell (a:Nat) (agg:Bool) (n:Nat)
 deriving Inhabited
structure IFun where
 nargs:Nat
 results:List RV
 body:IC
 pure:Bool
 frz:Bool
 drop:List Nat
 deriving Inhabited
def AE (e:Env) (h:H):RV→Option AV
 | .tmp t=>e.get t
 | .cell a agg n=>match e.get a with
  | some (.ptr id off)=>match h.get id with | some (.cells cs _)=>Bs agg n cs off | _=>none
  | some (.fptr cs off)=>Bs agg n cs off
  | _=>none
def AA (e:Env) (h:H):List RV→Option (List AV)
 | []=>some []
 | r::rs=>match AE e h r,AA e h rs with | some v,some vs=>some (v::vs) | _,_=>none
def AH (bar:Nat) (e:Env):List Nat→H→H
 | [],h=>h
 | i::r,h=>AH bar e r (match e.get i with | some (.ptr id _)=>if bar≤id then h.kill id else h | _=>h)
def AF (vs:List AV):AV:=match vs with | [v]=>v | vs=>.tup vs
def AO (args:List AV):Env:=(args.zipIdx).map fun x=>(x.2,x.1)
noncomputable def BK (o:Oracle) (F:IFun) (args:List AV) (bar:Nat) (h:H):Option (AV × H) :=
 if args.length=F.nargs then
  let b:=if F.pure then h.n else bar
  match BE o b F.body (AO args) h with
  | some (x,e,h1)=>match x with
   | .exit _=>none
   | _=>match AA e h1 F.results with
    | none=>none
    | some vs=>match (if F.frz then AD b 4 h1 vs else some (vs,h1)) with
     | none=>none
     | some (vs,h2)=>if F.pure then (if AV.free.freeL vs then some (AF vs,h) else none) else some (AF vs,AH b e F.drop h2)
  | none=>none
 else none
end Go.Ev
namespace Go.Ev
open Go
abbrev Phi:=Nat→Option (Nat × Nat × Nat)
abbrev Imm:=Nat→Nat→Option Value
inductive VR (φ:Phi) (I:Imm):AV→Value→Prop
 | bool (b:Bool):VR φ I (.bool b) (.bool b)
 | int (k:IntKind) (n:Int):VR φ I (.int k n) (.int k n)
 | flt (k:FloatKind) (n:Nat):VR φ I (.flt k n) (.float k n)
 | str (s:ByteArray):VR φ I (.str s) (.string s)
 | nilptr:VR φ I .nilptr (.pointer none)
 | ptr (id off b o sz:Nat) (h:φ id=some (b,o,sz)):VR φ I (.ptr id off) (.pointer (some ⟨b,o+off,none⟩))
 | fptr (cs:List AV) (off b o:Nat) (vs:Nat→Value) (h1:∀ i c,cs[i]? = some c→I b (o+i)=some (vs i)) (h2:∀ i c,cs[i]? = some c→VR φ I c (vs i))
   (h3:∀ (i:Nat) (c:AV),cs[i]? = some c→c.free=true∧c.one=true):VR φ I (.fptr cs off) (.pointer (some ⟨b,o+off,none⟩))
 | nilsl:VR φ I .nilsl (.slice none 0 0)
 | sl (id off k len:Nat) (full:Bool) (b o sz cap:Nat) (h:φ id=some (b,o,sz)) (h1:len≤cap) (h2:o+off+cap*k≤sz) (h3:full=true→cap=len) :
   VR φ I (.sl id off k len full) (.slice (some ⟨b,o+off,none⟩) len cap)
 | sl0 (id off k:Nat) (full:Bool) (a:Addr) (x:Nat × Nat × Nat) (h:φ id=some x):VR φ I (.sl id off k 0 full) (.slice (some a) 0 0)
 | fz (k len:Nat) (cs:List AV) (full:Bool) (b o cap:Nat) (vs:Nat→Value) (h1:∀ i c,cs[i]? = some c→I b (o+i)=some (vs i)) (h2:∀ i c,cs[i]? = some c→VR φ I c (vs i))
   (h3:∀ (i:Nat) (c:AV),cs[i]? = some c→c.free=true∧c.one=true) (h4:len≤cap) (h5:full=true→cap=len) (h6:cs.length=len*k):VR φ I (.fz k len cs full) (.slice (some ⟨b,o,none⟩) len cap)
 | fz0 (k:Nat) (full:Bool) (a:Addr) (cap:Nat) (h5:full=true→cap=0):VR φ I (.fz k 0 [] full) (.slice (some a) 0 cap)
 | nilmap:VR φ I .nilmap (.map none)
 | map (id b o sz:Nat) (h:φ id=some (b,o,sz)):VR φ I (.map id) (.map (some b))
 | fn (f:Nat) (cs:List AV) (vs:Array Value) (h1:cs.length=vs.size) (h2:∀ (i:Nat) (c:AV) (v:Value),cs[i]? = some c→vs[i]? = some v→VR φ I c v) :
   VR φ I (.fn f cs) (.func (.func f) #[] vs)
 | nilfn:VR φ I .nilfn .nilFunc
 | ifc (t:Nat) (c:AV) (v:Value) (h:VR φ I c v):VR φ I (.ifc t c) (.iface t v)
 | nilifc:VR φ I .nilifc .nilIface
 | agg (cs:List AV) (vs:Array Value) (h1:cs.length=vs.size) (h2:∀ (i:Nat) (c:AV) (v:Value),cs[i]? = some c→vs[i]? = some v→VR φ I c v):VR φ I (.agg cs) (.agg vs)
 | tup (cs:List AV) (vs:Array Value) (h1:cs.length=vs.size) (h2:∀ (i:Nat) (c:AV) (v:Value),cs[i]? = some c→vs[i]? = some v→VR φ I c v):VR φ I (.tup cs) (.tuple vs)
def Phi.le (φ φ':Phi):Prop:=∀ i x,φ i=some x→φ' i=some x
def Imm.le (I I':Imm):Prop:=∀ b j v,I b j=some v→I' b j=some v
theorem Phi.le.refl (φ:Phi):φ.le φ:=fun _ _ h=>h
theorem Imm.le.refl (I:Imm):I.le I:=fun _ _ _ h=>h
theorem Phi.le.trans {a b c:Phi} (h:a.le b) (h':b.le c):a.le c:=fun i x e=>h' i x (h i x e)
theorem Imm.le.trans {a b c:Imm} (h:a.le b) (h':b.le c):a.le c:=fun i j x e=>h' i j x (h i j x e)
theorem VR.mono {φ φ':Phi} {I I':Imm} (hp:φ.le φ') (hi:I.le I') {c:AV} {v:Value} (h:VR φ I c v):VR φ' I' c v:=by
 induction h with
 | bool=>exact .bool _
 | int=>exact .int _ _
 | flt=>exact .flt _ _
 | str=>exact .str _
 | nilptr=>exact .nilptr
 | ptr id off b o sz h=>exact .ptr id off b o sz (hp _ _ h)
 | fptr cs off b o vs h1 _ h3 ih=>exact .fptr cs off b o vs (fun i c hc=>hi _ _ _ (h1 i c hc)) ih h3
 | nilsl=>exact .nilsl
 | sl id off k len full b o sz cap h h1 h2 h3=>exact .sl id off k len full b o sz cap (hp _ _ h) h1 h2 h3
 | sl0 id off k full a x h=>exact .sl0 id off k full a x (hp _ _ h)
 | fz k len cs full b o cap vs h1 _ h3 h4 h5 h6 ih=>exact .fz k len cs full b o cap vs (fun i c hc=>hi _ _ _ (h1 i c hc)) ih h3 h4 h5 h6
 | fz0 k full a cap h5=>exact .fz0 k full a cap h5
 | nilmap=>exact .nilmap
 | map id b o sz h=>exact .map id b o sz (hp _ _ h)
 | fn f cs vs h1 _ ih=>exact .fn f cs vs h1 ih
 | nilfn=>exact .nilfn
 | ifc t c v _ ih=>exact .ifc t c v ih
 | nilifc=>exact .nilifc
 | agg cs vs h1 _ ih=>exact .agg cs vs h1 ih
 | tup cs vs h1 _ ih=>exact .tup cs vs h1 ih
theorem VR.one {φ:Phi} {I:Imm} {c:AV} {v:Value} (h:VR φ I c v) (h1:c.one=true):v.oneCell'=true:=by
 cases h<;>first | rfl | simp [AV.one] at h1
def VRL (φ:Phi) (I:Imm) (cs:List AV) (vs:List Value):Prop:=cs.length=vs.length∧∀ (i:Nat) (c:AV) (v:Value),cs[i]? = some c→vs[i]? = some v→VR φ I c v
theorem VRL.mono {φ φ':Phi} {I I':Imm} (hp:φ.le φ') (hi:I.le I') {cs:List AV} {vs:List Value} (h:VRL φ I cs vs):VRL φ' I' cs vs :=
 ⟨h.1,fun i c v h1 h2=>(h.2 i c v h1 h2).mono hp hi⟩
theorem VRL.nil {φ:Phi} {I:Imm}:VRL φ I [] []:=⟨rfl,fun i c v h=>by simp at h⟩
theorem VRL.cons {φ:Phi} {I:Imm} {c:AV} {v:Value} {cs:List AV} {vs:List Value} (h:VR φ I c v) (ht:VRL φ I cs vs):VRL φ I (c::cs) (v::vs):=by
 refine ⟨by simp [ht.1],fun i c' v' h1 h2=>?_⟩
 cases i with
 | zero=>simp at h1 h2;subst h1;subst h2;exact h
 | succ i=>exact ht.2 i c' v' (by simpa using h1) (by simpa using h2)
theorem VRL.append {φ:Phi} {I:Imm} {cs cs':List AV} {vs vs':List Value} (h:VRL φ I cs vs) (h':VRL φ I cs' vs'):VRL φ I (cs++cs') (vs++vs'):=by
 refine ⟨by simp [h.1,h'.1],fun i c v h1 h2=>?_⟩
 have hl:=h.1
 by_cases hi:i<cs.length
 ·rw [List.getElem?_append_left hi] at h1
  rw [List.getElem?_append_left (hl ▸ hi)] at h2
  exact h.2 i c v h1 h2
 ·rw [List.getElem?_append_right (Nat.le_of_not_lt hi)] at h1
  rw [List.getElem?_append_right (hl ▸ Nat.le_of_not_lt hi),← hl] at h2
  exact h'.2 _ c v h1 h2
theorem VRL.get {φ:Phi} {I:Imm} {cs:List AV} {vs:List Value} (h:VRL φ I cs vs) {i:Nat} {c:AV} (hc:cs[i]? = some c):∃ v,vs[i]? = some v∧VR φ I c v:=by
 have hlt:i<cs.length:=(List.getElem?_eq_some_iff.1 hc).1
 have hlt':i<vs.length:=h.1 ▸ hlt
 exact ⟨vs[i],List.getElem?_eq_getElem hlt',h.2 i c _ hc (List.getElem?_eq_getElem hlt')⟩
theorem VRL.drop {φ:Phi} {I:Imm} {cs:List AV} {vs:List Value} (h:VRL φ I cs vs) (n:Nat):VRL φ I (cs.drop n) (vs.drop n) :=
 ⟨by simp [h.1],fun i c v h1 h2=>h.2 (n+i) c v (by simpa using h1) (by simpa using h2)⟩
theorem VRL.take {φ:Phi} {I:Imm} {cs:List AV} {vs:List Value} (h:VRL φ I cs vs) (n:Nat):VRL φ I (cs.take n) (vs.take n):=by
 refine ⟨by simp [h.1],fun i c v h1 h2=>?_⟩
 rw [List.getElem?_take] at h1 h2
 split at h1
 ·rename_i hi
  simp only [hi,if_true] at h2
  exact h.2 i c v h1 h2
 ·cases h1
theorem VR.cells {φ:Phi} {I:Imm} {c:AV} {v:Value} (h:VR φ I c v):VRL φ I c.cells v.cells.toList:=by
 cases h with
 | agg cs vs h1 h2=>exact ⟨by simpa [AV.cells,Value.cells] using h1,fun i c v e1 e2=>h2 i c v e1 (by simpa [Value.cells] using e2)⟩
 | _=>exact .cons (by constructor<;>assumption) .nil
def frz (fr:Nat × Nat) (j:Nat):Prop:=fr.1≤j∧j<fr.2
def ObjR (φ:Phi) (I:Imm) (w:World) (i:Nat):HObj→Prop
 | .cells cs p=>∃ b o rc el fr,φ i=some (b,o,rc.size)∧w.heap[b]? = some (.cells rc el fr)∧o+cs.length≤rc.size ∧
   (∀ j c,cs[j]? = some c→c.one=true∧∃ v,rc[o+j]? = some v∧VR φ I c v)∧(∀ j,o+p≤j→j<rc.size→¬ frz fr j)∧(∀ j v,I b j=some v→j<o+p)
 | .map _=>False
 | .iter s pos=>∃ b,φ i=some (b,0,0)∧w.heap[b]? = some (.stringIter s pos)
structure R (φ:Phi) (I:Imm) (h:H) (w:World):Prop where
 wf:∀ i,h.n≤i→h.get i=none
 dom:∀ i,h.n≤i→φ i=none
 obj:∀ i x,h.get i=some x→ObjR φ I w i x
 inj:∀ i j x y b s t s' t',h.get i=some x→h.get j=some y→φ i=some (b,s,t)→φ j=some (b,s',t')→i=j
 imm:∀ b j v,I b j=some v→w.cell? ⟨b,j,none⟩=some v
structure Stp (bar:Nat) (φ:Phi) (I:Imm) (h:H) (w:World) (φ':Phi) (I':Imm) (h':H) (w':World):Prop where
 phi:φ.le φ'
 imm:I.le I'
 size:w.heap.size≤w'.heap.size
 frame:∀ b,b<w.heap.size→(∀ i,bar≤i→h.get i≠none→∀ x,φ i=some x→x.1≠b)→w'.heap[b]? = w.heap[b]?
 terr:∀ i x,bar≤i→h'.get i≠none→φ' i=some x→w.heap.size≤x.1∨∃ j y,bar≤j∧h.get j≠none∧φ j=some y∧y.1=x.1
 old:∀ i,i<bar→h'.get i=h.get i
 n:h.n≤h'.n
 os:w'.os=w.os
 output:w'.output=w.output
 immT:∀ b j v,I' b j=some v→I b j=some v∨w.heap.size≤b∨∃ i x,bar≤i∧h.get i≠none∧φ i=some x∧x.1=b
theorem Stp.refl (bar:Nat) (φ:Phi) (I:Imm) (h:H) (w:World):Stp bar φ I h w φ I h w :=
 ⟨.refl _,.refl _,Nat.le_refl _,fun _ _ _=>rfl,fun i x hb hl hp=>.inr ⟨i,x,hb,hl,hp,rfl⟩,fun _ _=>rfl,Nat.le_refl _,rfl,rfl,fun _ _ _ hv=>.inl hv⟩
theorem Stp.trans {bar:Nat} {φ φ' φ'':Phi} {I I' I'':Imm} {h h' h'':H} {w w' w'':World} (a:Stp bar φ I h w φ' I' h' w') (b:Stp bar φ' I' h' w' φ'' I'' h'' w'') :
  Stp bar φ I h w φ'' I'' h'' w'' where
 phi:=a.phi.trans b.phi
 imm:=a.imm.trans b.imm
 size:=Nat.le_trans a.size b.size
 frame:=fun k hk hf=>by
  rw [b.frame k (Nat.lt_of_lt_of_le hk a.size) ?_,a.frame k hk hf]
  intro i hi hl x hx he
  rcases a.terr i x hi hl hx with h1 | ⟨j,y,hj,hlj,hy,he'⟩
  ·omega
  ·exact hf j hj hlj y hy (he' ▸ he)
 terr:=fun i x hi hl hx=>by
  rcases b.terr i x hi hl hx with h1 | ⟨j,y,hj,hlj,hy,he⟩
  ·exact .inl (Nat.le_trans a.size h1)
  ·rcases a.terr j y hj hlj hy with h2 | ⟨k,z,hk,hlk,hz,he'⟩
   ·exact .inl (he ▸ h2)
   ·exact .inr ⟨k,z,hk,hlk,hz,he' ▸ he⟩
 old:=fun i hi=>(b.old i hi).trans (a.old i hi)
 n:=Nat.le_trans a.n b.n
 os:=b.os.trans a.os
 output:=b.output.trans a.output
 immT:=fun k j v hv=>by
  rcases b.immT k j v hv with h1 | h1 | ⟨i,x,hi,hl,hx,he⟩
  ·exact a.immT k j v h1
  ·exact .inr (.inl (Nat.le_trans a.size h1))
  ·rcases a.terr i x hi hl hx with h2 | ⟨q,y,hq,hlq,hy,he'⟩
   ·exact .inr (.inl (he ▸ h2))
   ·exact .inr (.inr ⟨q,y,hq,hlq,hy,he' ▸ he⟩)
theorem R.of_heap {φ:Phi} {I:Imm} {h:H} {w w':World} (r:R φ I h w) (e:w'.heap=w.heap):R φ I h w' where
 wf:=r.wf
 dom:=r.dom
 obj:=fun i x hx=>by
  have:=r.obj i x hx
  cases x with
  | cells cs p=>simp only [ObjR,e] at this ⊢;exact this
  | map es=>exact this.elim
  | iter s pos=>simp only [ObjR,e] at this ⊢;exact this
 inj:=r.inj
 imm:=fun b j v hv=>by have:=r.imm b j v hv;simpa only [World.cell?,e] using this
theorem Stp.of_heap {bar:Nat} {φ:Phi} {I:Imm} {h:H} {w w':World} (e:w'.heap=w.heap) (e1:w'.os=w.os) (e2:w'.output=w.output):Stp bar φ I h w φ I h w' :=
 ⟨.refl _,.refl _,by rw [e];exact Nat.le_refl _,fun _ _ _=>by rw [e],fun i x hb hl hp=>.inr ⟨i,x,hb,hl,hp,rfl⟩,fun _ _=>rfl,Nat.le_refl _,e1,e2,fun _ _ _ hv=>.inl hv⟩
theorem R.sub {φ:Phi} {I:Imm} {h h':H} {w:World} (r:R φ I h w) (hn:h'.n=h.n) (hs:∀ i x,h'.get i=some x→h.get i=some x):R φ I h' w where
 wf:=fun i hi=>by
  cases e:h'.get i with
  | none=>rfl
  | some x=>have:=hs i x e;rw [r.wf i (hn ▸ hi)] at this;cases this
 dom:=fun i hi=>r.dom i (hn ▸ hi)
 obj:=fun i x hx=>r.obj i x (hs i x hx)
 inj:=fun i j x y b s t s' t' hx hy=>r.inj i j x y b s t s' t' (hs i x hx) (hs j y hy)
 imm:=r.imm
theorem Gg {w:World} {b j:Nat} {rc:Array Value} {el:TypeId} {fr:Nat × Nat} (h:w.heap[b]? = some (.cells rc el fr)):w.cell? ⟨b,j,none⟩=rc[j]?:=by
 simp [World.cell?,h]
theorem ObjR.block {φ:Phi} {I:Imm} {w:World} {i:Nat} {x:HObj} (h:ObjR φ I w i x):∃ b s t,φ i=some (b,s,t)∧b<w.heap.size:=by
 cases x with
 | cells cs p =>
  obtain ⟨b,o,rc,el,fr,h1,h2,_⟩:=h
  exact ⟨b,o,rc.size,h1,(Array.getElem?_eq_some_iff.1 h2).1⟩
 | map=>exact h.elim
 | iter s pos =>
  obtain ⟨b,h1,h2⟩:=h
  exact ⟨b,0,0,h1,(Array.getElem?_eq_some_iff.1 h2).1⟩
theorem ObjR.keep {φ φ':Phi} {I I':Imm} {w w':World} {i:Nat} {x:HObj} (hp:φ.le φ') (hi:I.le I') (h:ObjR φ I w i x)
  (hw:∀ b s t,φ i=some (b,s,t)→w'.heap[b]? = w.heap[b]?) (hI:∀ b s t,φ i=some (b,s,t)→∀ j v,I' b j=some v→I b j=some v):ObjR φ' I' w' i x:=by
 cases x with
 | cells cs p =>
  obtain ⟨b,o,rc,el,fr,h1,h2,h3,h4,h5,h6⟩:=h
  exact ⟨b,o,rc,el,fr,hp _ _ h1,by rw [hw _ _ _ h1];exact h2,h3,fun j c hc=>⟨(h4 j c hc).1,let ⟨v,hv,hr⟩:=(h4 j c hc).2;⟨v,hv,hr.mono hp hi⟩⟩,h5,fun j v hv=>h6 j v (hI _ _ _ h1 j v hv)⟩
 | map=>exact h.elim
 | iter s pos =>
  obtain ⟨b,h1,h2⟩:=h
  exact ⟨b,hp _ _ h1,by rw [hw _ _ _ h1];exact h2⟩
end Go.Ev
namespace Go.Ev
open Go
theorem Dq (b x n:Nat):(⟨b,x,none⟩:Addr).add n=⟨b,x+n,none⟩:=by
 unfold Addr.add;split<;>simp_all
theorem R.put {φ φ':Phi} {I:Imm} {h h':H} {w w':World} (r:R φ I h w) (i b o:Nat) (rc:Array Value) (el:TypeId) (fr:Nat × Nat) (cs:List AV) (p:Nat)
  (hle:φ.le φ') (hi:φ' i=some (b,o,rc.size)) (hdom:∀ j,h'.n≤j→φ' j=none) (hwf:∀ j,h'.n≤j→h'.get j=none)
  (hget:∀ j x,h'.get j=some x→(j=i∧x=.cells cs p)∨(j≠i∧h.get j=some x))
  (hoth:∀ j x y,j≠i→h'.get j=some x→φ j=some y→y.1≠b)
  (hw:∀ k,k≠b→w'.heap[k]? = w.heap[k]?) (hb:w'.heap[b]? = some (.cells rc el fr))
  (hsz:o+cs.length≤rc.size) (hcs:∀ j c,cs[j]? = some c→c.one=true∧∃ v,rc[o+j]? = some v∧VR φ' I c v)
  (hfr:∀ j,o+p≤j→j<rc.size→¬ frz fr j) (himm:∀ j v,I b j=some v→j<o+p∧rc[j]? = some v):R φ' I h' w' where
 wf:=hwf
 dom:=hdom
 obj:=fun j x hx=>by
  rcases hget j x hx with ⟨rfl,rfl⟩ | ⟨hne,hx'⟩
  ·exact ⟨b,o,rc,el,fr,hi,hb,hsz,hcs,hfr,fun j v hv=>(himm j v hv).1⟩
  ·refine (r.obj j x hx').keep hle (.refl _) (fun k s t hk=>hw k ?_) (fun _ _ _ _ _ _ hv=>hv)
   exact hoth j x _ hne hx hk
 inj:=fun j k x y c s t s' t' hx hy hj hk=>by
  rcases hget j x hx with ⟨rfl,rfl⟩ | ⟨hj',hx'⟩<;>rcases hget k y hy with ⟨rfl,rfl⟩ | ⟨hk',hy'⟩
  ·rfl
  ·obtain ⟨c',s'',t'',hc',_⟩:=(r.obj k y hy').block
   have e:=hle _ _ hc'
   rw [hk] at e
   rw [hi] at hj
   cases e;cases hj
   exact absurd rfl (hoth k y _ hk' hy hc')
  ·obtain ⟨c',s'',t'',hc',_⟩:=(r.obj j x hx').block
   have e:=hle _ _ hc'
   rw [hj] at e
   rw [hi] at hk
   cases e;cases hk
   exact absurd rfl (hoth j x _ hj' hx hc')
  ·obtain ⟨c1,s1,t1,h1,_⟩:=(r.obj j x hx').block
   obtain ⟨c2,s2,t2,h2,_⟩:=(r.obj k y hy').block
   have e1:=hle _ _ h1
   have e2:=hle _ _ h2
   rw [hj] at e1;rw [hk] at e2
   cases e1;cases e2
   exact r.inj j k x y _ _ _ _ _ hx' hy' h1 h2
 imm:=fun k j v hv=>by
  by_cases hk:k=b
  ·subst hk;rw [Gg hb];exact (himm j v hv).2
  ·have:=r.imm k j v hv
   unfold World.cell? at this ⊢
   rw [hw k hk];exact this
theorem R.allocF {φ:Phi} {I:Imm} {h:H} {w:World} (r:R φ I h w) (bar:Nat) (hbar:bar≤h.n) (rc:Array Value) (el:TypeId) (fr:Nat × Nat) (hfr:∀ j,j<rc.size→¬ frz fr j) (cs:List AV) (p:Nat)
  (hsz:cs.length≤rc.size) (hcs:∀ (j:Nat) (c:AV),cs[j]? = some c→c.one=true∧∃ v,rc[j]? = some v∧VR φ I c v) (w':World) (hw0:∀ k,k≠w.heap.size→w'.heap[k]? = w.heap[k]?) (hw1:w'.heap[w.heap.size]? = some (.cells rc el fr)) (hw2:w.heap.size≤w'.heap.size)
  (e1:w'.os=w.os) (e2:w'.output=w.output) :
  ∃ φ',φ' h.n=some (w.heap.size,0,rc.size)∧R φ' I (h.alloc (.cells cs p)) w'∧Stp bar φ I h w φ' I (h.alloc (.cells cs p)) w':=by
 have hI:∀ j v,I w.heap.size j≠some v:=fun j v hv=>by
  have:=r.imm _ _ _ hv
  simp [World.cell?] at this
 have hle:Phi.le φ (fun j=>if j=h.n then some (w.heap.size,0,rc.size) else φ j):=fun j x hx=>by
  by_cases hj:j=h.n
  ·subst hj;rw [r.dom _ (Nat.le_refl _)] at hx;cases hx
  ·simp [hj,hx]
 have hblk:∀ j x y,h.get j=some x→φ j=some y→y.1≠w.heap.size:=fun j x y hx hy=>by
  obtain ⟨b,s,t,h1,h2⟩:=(r.obj j x hx).block
  rw [hy] at h1;cases h1
  exact Nat.ne_of_lt h2
 refine ⟨fun j=>if j=h.n then some (w.heap.size,0,rc.size) else φ j,by simp,?_,?_⟩
 ·refine r.put h.n w.heap.size 0 rc el fr cs p hle (by simp) ?_ ?_ ?_ ?_ ?_ ?_ (by simpa using hsz) ?_ ?_ ?_
  ·intro j hj
   simp only [H.alloc] at hj
   have:j≠h.n:=by omega
   simp [this,r.dom j (by omega)]
  ·intro j hj
   simp only [H.alloc] at hj ⊢
   have:j≠h.n:=by omega
   simp [this,r.wf j (by omega)]
  ·intro j x hx
   simp only [H.alloc] at hx
   by_cases hj:j=h.n
   ·simp only [hj,if_true,Option.some.injEq] at hx;exact .inl ⟨hj,hx.symm⟩
   ·simp only [hj,if_false] at hx;exact .inr ⟨hj,hx⟩
  ·intro j x y hj hx hy
   simp only [H.alloc,hj,if_false] at hx
   exact hblk j x y hx hy
  ·exact hw0
  ·exact hw1
  ·intro j c hc
   obtain ⟨h1,v,h2,h3⟩:=hcs j c hc
   exact ⟨h1,v,by simpa using h2,h3.mono hle (.refl _)⟩
  ·intro j _ hj
   exact hfr j hj
  ·intro j v hv;exact absurd hv (hI j v)
 ·refine ⟨hle,.refl _,hw2,fun b hb _=>hw0 b (Nat.ne_of_lt hb),fun i x hi hl hx=>?_,fun i hi=>?_,by simp [H.alloc],e1,e2,fun _ _ _ hv=>.inl hv⟩
  ·by_cases hj:i=h.n
   ·simp only [hj,if_true,Option.some.injEq] at hx;subst hx;exact .inl (Nat.le_refl _)
   ·simp only [H.alloc,hj,if_false] at hl hx
    exact .inr ⟨i,x,hi,hl,hx,rfl⟩
  ·have:i≠h.n:=by omega
   simp [H.alloc,this]
theorem R.alloc {φ:Phi} {I:Imm} {h:H} {w:World} (r:R φ I h w) (bar:Nat) (hbar:bar≤h.n) (rc:Array Value) (el:TypeId) (cs:List AV) (p:Nat)
  (hsz:cs.length≤rc.size) (hcs:∀ (j:Nat) (c:AV),cs[j]? = some c→c.one=true∧∃ v,rc[j]? = some v∧VR φ I c v) (w':World) (hw':w'.heap=w.heap.push (.cells rc el (0,0)))
  (e1:w'.os=w.os) (e2:w'.output=w.output) :
  ∃ φ',φ' h.n=some (w.heap.size,0,rc.size)∧R φ' I (h.alloc (.cells cs p)) w'∧Stp bar φ I h w φ' I (h.alloc (.cells cs p)) w' :=
 r.allocF bar hbar rc el (0,0) (fun j _ hf=>by unfold frz at hf;omega) cs p hsz hcs w' (fun k hk=>by rw [hw',Array.getElem?_push];simp [hk]) (by rw [hw',Array.getElem?_push];simp) (by rw [hw'];simp) e1 e2
def FX:TypeDesc→Bool
 | .struct _ | .array _ _=>true
 | _=>false
theorem QQ {P:Program} {w:World} {t:TypeId} {d:TypeDesc} {i:TypeInfo} {b off:Nat} (hd:P.underlying t=some d) (hi:P.info? t=some i)
  (hagg:FX d=true) (vs:List Value) (hl:vs.length=i.size) (h:∀ j v,vs[j]? = some v→w.cell? ⟨b,off+j,none⟩=some v) :
  (loadVar t ⟨b,off,none⟩).run P w=.ok (.agg vs.toArray) w:=by
 have h1:(loadCells ⟨b,off,none⟩ vs.length).run P w=.ok vs.toArray w:=run_loadCells_list w _ vs (fun j v hv=>by rw [Dq];exact h j v hv)
 cases d<;>simp [FX] at hagg<;>simp [loadVar,isAgg,run_underlying hd,sizeOf,typeInfo,hi,← hl,h1]
theorem QR {P:Program} {w:World} {t:TypeId} {d:TypeDesc} {b off:Nat} {v:Value} (hd:P.underlying t=some d)
  (hagg:FX d=false) (h:w.cell? ⟨b,off,none⟩=some v) :
  (loadVar t ⟨b,off,none⟩).run P w=.ok v w:=by
 cases d<;>simp [FX] at hagg<;>simp [loadVar,isAgg,run_underlying hd,h,run_load]
def Gt (rc:Array Value) (off:Nat):List Value→Array Value
 | []=>rc
 | v::r=>Gt (rc.setIfInBounds off v) (off+1) r
theorem Ge (vs:List Value):∀ (rc:Array Value) (off:Nat),(Gt rc off vs).size=rc.size:=by
 induction vs with
 | nil=>intro rc off;rfl
 | cons v r ih=>intro rc off;simp [Gt,ih]
theorem Jk (vs:List Value):∀ (rc:Array Value) (off j:Nat),(Gt rc off vs)[j]? = if off≤j∧j<off+vs.length∧j<rc.size then vs[j - off]? else rc[j]?:=by
 induction vs with
 | nil=>intro rc off j;simp [Gt];omega
 | cons v r ih =>
  intro rc off j
  rw [Gt,ih]
  simp only [Array.size_setIfInBounds,List.length_cons]
  by_cases h1:off+1≤j∧j<off+1+r.length∧j<rc.size
  ·rw [if_pos h1,if_pos ⟨by omega,by omega,h1.2.2⟩]
   rw [show j - off=(j - (off+1))+1 by omega,List.getElem?_cons_succ]
  ·rw [if_neg h1]
   by_cases h2:off=j
   ·subst h2
    by_cases h3:off<rc.size
    ·rw [if_pos ⟨by omega,by omega,h3⟩];simp [h3]
    ·rw [if_neg (fun h=>h3 h.2.2)];simp [h3]
   ·rw [if_neg (fun h=>h1 ⟨by omega,by omega,h.2.2⟩),Array.getElem?_setIfInBounds_ne h2]
theorem LR {P:Program} (b off:Nat) (el:TypeId) (fr:Nat × Nat):∀ (vs:List Value) (i:Nat) (w:World) (rc:Array Value),w.heap[b]? = some (.cells rc el fr) →
  off+i+vs.length≤rc.size→(∀ j,off+i≤j→j<off+i+vs.length→¬ frz fr j)→(∀ v ∈ vs,v.oneCell'=true) →
  ∃ w',(storeCells ⟨b,off,none⟩ vs i).run P w=.ok () w'∧w'.heap[b]? = some (.cells (Gt rc (off+i) vs) el fr)∧(∀ k,k≠b→w'.heap[k]? = w.heap[k]?) ∧
   w'.heap.size=w.heap.size∧w'.os=w.os∧w'.output=w.output∧w'.tape=w.tape∧w'.drawn=w.drawn:=by
 intro vs
 induction vs with
 | nil=>intro i w rc h _ _ _;exact ⟨w,by simp [storeCells],by simpa [Gt] using h,fun _ _=>rfl,rfl,rfl,rfl,rfl,rfl⟩
 | cons v r ih =>
  intro i w rc h hsz hfr h1
  have hlt:off+i<rc.size:=by simp only [List.length_cons] at hsz;omega
  have hc:w.cell? ⟨b,off+i,none⟩=some rc[off+i]:=by rw [Gg h];exact Array.getElem?_eq_getElem hlt
  have hf:w.frozen? ⟨b,off+i,none⟩=false:=by
   have:=hfr (off+i) (Nat.le_refl _) (by simp)
   simp only [World.frozen?,h]
   simp only [frz] at this
   simp only [Bool.and_eq_false_iff,decide_eq_false_iff_not]
   omega
  have hnew:(w.setCell ⟨b,off+i,none⟩ v).heap[b]? = some (.cells (rc.setIfInBounds (off+i) v) el fr):=by
   simp [World.setCell,h,Array.getElem?_modify]
  obtain ⟨w',e1,e2,e3,e4,e5,e6,e7,e8⟩:=ih (i+1) (w.setCell ⟨b,off+i,none⟩ v) (rc.setIfInBounds (off+i) v) hnew (by simp only [List.length_cons] at hsz;simp;omega)
   (fun j h1 h2=>hfr j (by omega) (by simp only [List.length_cons];omega)) (fun u hu=>h1 u (by simp [hu]))
  refine ⟨w',?_,by rw [e2,Gt,Nat.add_assoc],fun k hk=>by rw [e3 k hk,heap_setCell_other];exact hk,by rw [e4];simp,e5,e6,e7,e8⟩
  simp only [storeCells,Dq,Sem.run_bind]
  rw [run_store P w _ v .plain (h1 v (by simp)),hc]
  simp only [hf,Bool.false_eq_true,if_false,Result.andThen_ok]
  exact e1
end Go.Ev
namespace Go.Ev
open Go
mutual
def Fi:Value→Option AV
 | .bool b=>some (.bool b)
 | .int k n=>some (.int k n)
 | .float k n=>some (.flt k n)
 | .string s=>some (.str s)
 | .pointer none=>some .nilptr
 | .slice none 0 0=>some .nilsl
 | .map none=>some .nilmap
 | .nilFunc=>some .nilfn
 | .nilIface=>some .nilifc
 | .agg ⟨cs⟩=>match Gr cs with | some l=>some (.agg l) | none=>none
 | .tuple ⟨[]⟩=>some (.tup [])
 | _=>none
def Gr:List Value→Option (List AV)
 | []=>some []
 | v::r=>match Fi v,Gr r with | some c,some l=>some (c::l) | _,_=>none
end
mutual
theorem KL {φ:Phi} {I:Imm}:∀ (v:Value) (c:AV),Fi v=some c→VR φ I c v
 | .bool b,c,h=>by simp only [Fi,Option.some.injEq] at h;subst h;exact .bool b
 | .int k n,c,h=>by simp only [Fi,Option.some.injEq] at h;subst h;exact .int k n
 | .float k n,c,h=>by simp only [Fi,Option.some.injEq] at h;subst h;exact .flt k n
 | .string s,c,h=>by simp only [Fi,Option.some.injEq] at h;subst h;exact .str s
 | .pointer none,c,h=>by simp only [Fi,Option.some.injEq] at h;subst h;exact .nilptr
 | .slice none 0 0,c,h=>by simp only [Fi,Option.some.injEq] at h;subst h;exact .nilsl
 | .map none,c,h=>by simp only [Fi,Option.some.injEq] at h;subst h;exact .nilmap
 | .nilFunc,c,h=>by simp only [Fi,Option.some.injEq] at h;subst h;exact .nilfn
 | .nilIface,c,h=>by simp only [Fi,Option.some.injEq] at h;subst h;exact .nilifc
 | .agg ⟨cs⟩,c,h=>by
  simp only [Fi] at h
  split at h
  ·rename_i l hl
   simp only [Option.some.injEq] at h;subst h
   have:=FN (φ:=φ) (I:=I) cs l hl
   exact .agg l ⟨cs⟩ (by simpa using this.1) (fun i c v h1 h2=>this.2 i c v h1 (by simpa using h2))
  ·cases h
 | .tuple ⟨[]⟩,c,h=>by simp only [Fi,Option.some.injEq] at h;subst h;exact .tup [] #[] rfl (fun i c v h=>by simp at h)
 | .tuple ⟨_::_⟩,c,h=>by simp [Fi] at h
 | .complex _ _ _,c,h=>by simp [Fi] at h
 | .pointer (some _),c,h=>by simp [Fi] at h
 | .slice (some _) _ _,c,h=>by simp [Fi] at h
 | .slice none (_+1) _,c,h=>by simp [Fi] at h
 | .slice none 0 (_+1),c,h=>by simp [Fi] at h
 | .map (some _),c,h=>by simp [Fi] at h
 | .chan _,c,h=>by simp [Fi] at h
 | .func _ _ _,c,h=>by simp [Fi] at h
 | .iface _ _,c,h=>by simp [Fi] at h
theorem FN {φ:Phi} {I:Imm}:∀ (vs:List Value) (cs:List AV),Gr vs=some cs→VRL φ I cs vs
 | [],cs,h=>by simp only [Gr,Option.some.injEq] at h;subst h;exact .nil
 | v::r,cs,h=>by
  simp only [Gr] at h
  split at h
  ·rename_i c l hc hl
   simp only [Option.some.injEq] at h;subst h
   exact .cons (KL v c hc) (FN r l hl)
  ·cases h
end
abbrev Glob:=Nat→Option (List AV)
def GR (G:Glob) (I:Imm):Prop:=∀ g cs,G g=some cs→VR (fun _=>none) I (.fptr cs 0) (.pointer (some ⟨g,0,none⟩))
theorem GR.mono {G:Glob} {I I':Imm} (h:GR G I) (hi:I.le I'):GR G I':=fun g cs e=>(h g cs e).mono (.refl _) hi
def Ac (G:Glob):Operand→Option Opd
 | .tmp t=>some (.t t)
 | .const v=>(Fi v).map .c
 | .global g=>(G g).map fun cs=>.c (.fptr cs 0)
 | .func f=>some (.c (.fn f []))
def EnvR (φ:Phi) (I:Imm) (e:Env) (tmps:Array Value):Prop:=∀ t v,e.get t=some v→t<tmps.size∧VR φ I v (tmps.getD t undef)
theorem EnvR.mono {φ φ':Phi} {I I':Imm} {e:Env} {tmps:Array Value} (h:EnvR φ I e tmps) (hp:φ.le φ') (hi:I.le I'):EnvR φ' I' e tmps :=
 fun t v hv=>⟨(h t v hv).1,(h t v hv).2.mono hp hi⟩
theorem VR.undef {φ:Phi} {I:Imm}:VR φ I .undef Go.undef:=.tup [] #[] rfl (fun i c v h=>by simp at h)
theorem EnvR.put {φ:Phi} {I:Imm} {e:Env} {a:Act} {d:Option Nat} {v:AV} {x:Value} (h:EnvR φ I e a.tmps) (hd:∀ i,d=some i→i<a.tmps.size) (hv:VR φ I v x) :
  EnvR φ I (e.put d v) (a.put d x).tmps:=by
 cases d with
 | none=>exact h
 | some i =>
  have hi:=hd i rfl
  intro t u hu
  simp only [Env.put,Env.set,Env.get] at hu
  simp only [Act.put]
  by_cases ht:t=i
  ·subst ht
   simp only [if_true,Option.some.injEq] at hu
   subst hu
   exact ⟨by simpa using hi,by simpa [hi] using hv⟩
  ·simp only [ht,if_false] at hu
   have:=h t u hu
   exact ⟨by simpa using this.1,by simpa [Array.getElem?_setIfInBounds_ne (Ne.symm ht)] using this.2⟩
section
variable {P:Program} {G:Glob} {φ:Phi} {I:Imm} {e:Env} {h:H} {w:World} {a:Act} {bar:Nat}
theorem If (hE:EnvR φ I e a.tmps) (hG:GR G I) {x:Operand} {x':Opd} {v:AV} (hx:Ac G x=some x') (hv:x'.ev e=some v):VR φ I v (a.eval x):=by
 cases x with
 | tmp t =>
  simp only [Ac,Option.some.injEq] at hx;subst hx
  exact (hE t v hv).2
 | const c =>
  simp only [Ac,Option.map_eq_some_iff] at hx
  obtain ⟨u,hu,rfl⟩:=hx
  simp only [Opd.ev,Option.some.injEq] at hv;subst hv
  exact KL c u hu
 | global g =>
  simp only [Ac,Option.map_eq_some_iff] at hx
  obtain ⟨u,hu,rfl⟩:=hx
  simp only [Opd.ev,Option.some.injEq] at hv;subst hv
  exact (hG g u hu).mono (fun _ _ h=>by cases h) (.refl _)
 | func f =>
  simp only [Ac,Option.some.injEq] at hx;subst hx
  simp only [Opd.ev,Option.some.injEq] at hv;subst hv
  exact .fn f [] #[] rfl (fun i c v h=>by simp at h)
def KF (G:Glob):List Operand→Option (List Opd)
 | []=>some []
 | x::r=>match Ac G x,KF G r with | some y,some l=>some (y::l) | _,_=>none
theorem MQ (hE:EnvR φ I e a.tmps) (hG:GR G I):∀ (xs:List Operand) (ys:List Opd) (vs:List AV),KF G xs=some ys→KG e ys=some vs→VRL φ I vs (xs.map a.eval)
 | [],ys,vs,h1,h2=>by
  simp only [KF,Option.some.injEq] at h1;subst h1
  simp only [KG,Option.some.injEq] at h2;subst h2;exact .nil
 | x::r,ys,vs,h1,h2=>by
  simp only [KF] at h1
  split at h1
  ·rename_i y l hy hl
   simp only [Option.some.injEq] at h1;subst h1
   simp only [KG] at h2
   split at h2
   ·rename_i v vs' hv hvs
    simp only [Option.some.injEq] at h2;subst h2
    exact .cons (If hE hG hy hv) (MQ hE hG r l vs' hl hvs)
   ·cases h2
  ·cases h1
def OpOk (P:Program) (ρ:Operand→Value) (o:Oper) (bar:Nat) (φ:Phi) (I:Imm) (h:H) (w:World) (v:AV) (h':H):Prop :=
 ∃ x w' φ' I',((execOp ρ o).run P w=.ok (.value x) w'∨((execOp ρ o).run P w=.ok .skip w'∧x=Go.undef))∧R φ' I' h' w'∧VR φ' I' v x∧Stp bar φ I h w φ' I' h' w'
theorem OpOk.same {o:Oper} {ρ:Operand→Value} {v:AV} {x:Value} (hR:R φ I h w) (hr:(execOp ρ o).run P w=.ok (.value x) w) (hv:VR φ I v x):OpOk P ρ o bar φ I h w v h :=
 ⟨x,w,φ,I,.inl hr,hR,hv,.refl _ _ _ _ _⟩
theorem OpOk.of {o:Oper} {ρ:Operand→Value} {v:AV} {x:Value} {s:Sem Value} (hR:R φ I h w) (he:execOp ρ o=(do pure (Next.value (← s)):Sem Next)) (hr:s.run P w=.ok x w)
  (hv:VR φ I v x):OpOk P ρ o bar φ I h w v h:=.same hR (by rw [he];simp [hr]) hv
theorem RP (hR:R φ I h w) {id off:Nat} {cs:List AV} {p:Nat} (hg:h.get id=some (.cells cs p)) {x:Value} (hx:VR φ I (.ptr id off) x) :
  ∃ b o,x=.pointer (some ⟨b,o+off,none⟩)∧(∃ s,φ id=some (b,o,s))∧∀ j c,cs[j]? = some c→∃ v,w.cell? ⟨b,o+j,none⟩=some v∧VR φ I c v:=by
 obtain ⟨b,o,rc,el,fr,h1,h2,h3,h4,h5,h6⟩:=hR.obj id _ hg
 cases hx with
 | ptr _ _ b' o' sz hφ =>
  rw [h1] at hφ;cases hφ
  refine ⟨b,o,rfl,⟨_,h1⟩,fun j c hc=>?_⟩
  obtain ⟨_,v,hv,hr⟩:=h4 j c hc
  exact ⟨v,by rw [Gg h2];exact hv,hr⟩
theorem RO (hR:R φ I h w) {off:Nat} {cs:List AV} {x:Value} (hx:VR φ I (.fptr cs off) x) :
  ∃ b o,x=.pointer (some ⟨b,o+off,none⟩)∧∀ j c,cs[j]? = some c→∃ v,w.cell? ⟨b,o+j,none⟩=some v∧VR φ I c v:=by
 cases hx with
 | fptr _ _ b o vs h1 h2 h3=>exact ⟨b,o,rfl,fun j c hc=>⟨vs j,hR.imm _ _ _ (h1 j c hc),h2 j c hc⟩⟩
theorem HK {t:TypeId} {d:TypeDesc} {i:TypeInfo} (hd:P.underlying t=some d) (hi:P.info? t=some i) {b o off:Nat} {cs:List AV} {v:AV}
  (hc:∀ j c,cs[j]? = some c→∃ v,w.cell? ⟨b,o+j,none⟩=some v∧VR φ I c v) (hv:Bs (FX d) i.size cs off=some v) :
  ∃ x,(loadVar t ⟨b,o+off,none⟩).run P w=.ok x w∧VR φ I v x:=by
 by_cases ha:FX d=true
 ·simp only [Bs,ha,if_true] at hv
  split at hv
  ·rename_i hle
   simp only [Option.some.injEq] at hv;subst hv
   have hex:∀ j,∃ u:Value,∀ c,cs[j]? = some c→w.cell? ⟨b,o+j,none⟩=some u∧VR φ I c u:=fun j=>by
    cases hj:cs[j]? with
    | none=>exact ⟨Go.undef,fun c hc'=>by cases hc'⟩
    | some c=>obtain ⟨u,h1,h2⟩:=hc j c hj;exact ⟨u,fun c' hc'=>by cases hc';exact ⟨h1,h2⟩⟩
   let f:Nat→Value:=fun j=>Classical.choose (hex (off+j))
   have hf:∀ j c,cs[off+j]? = some c→w.cell? ⟨b,o+(off+j),none⟩=some (f j)∧VR φ I c (f j):=fun j c=>Classical.choose_spec (hex (off+j)) c
   refine ⟨.agg ((List.range i.size).map f).toArray,?_,?_⟩
   ·refine QQ hd hi (by simpa using ha) _ (by simp) (fun j v hj=>?_)
    have hlt:j<i.size:=by simpa using (List.getElem?_eq_some_iff.1 hj).1
    simp [hlt] at hj
    subst hj
    have:=(hf j _ (List.getElem?_eq_getElem (by omega))).1
    rw [Nat.add_assoc];exact this
   ·refine .agg _ _ (by simp;omega) (fun j c v h1 h2=>?_)
    rw [List.getElem?_take] at h1
    split at h1
    ·rename_i hlt
     rw [List.getElem?_drop] at h1
     simp [hlt] at h2
     subst h2
     exact (hf j c h1).2
    ·cases h1
  ·cases hv
 ·simp only [Bs,ha] at hv
  obtain ⟨u,h1,h2⟩:=hc off v (by simpa using hv)
  exact ⟨u,QR hd (by simpa using ha) h1,h2⟩
theorem dO (hR:R φ I h w) {ρ:Operand→Value} {o:Oper} {t:TypeId} {ad:Operand} (ho:o.op=.load t ad) {d:TypeDesc} {i:TypeInfo} (hd:P.underlying t=some d) (hi:P.info? t=some i)
  {x:AV} (hx:VR φ I x (ρ ad)) {v:AV} {h':H} {y:Opd} (hy:y.ev e=some x) (hev:BH bar e h (.ld (FX d) i.size y)=some (v,h')):OpOk P ρ o bar φ I h w v h':=by
 have he:execOp ρ o=(do pure (Next.value (← Instr.loadAt t (ρ ad))):Sem Next):=by simp only [execOp,ho]
 simp only [BH,hy] at hev
 split at hev
 ·rename_i id off hp
  cases hp
  split at hev
  ·rename_i cs p hg
   simp only [Option.map_eq_some_iff,Prod.mk.injEq] at hev
   obtain ⟨u,hu,rfl,rfl⟩:=hev
   obtain ⟨b,o',hρ,_,hc⟩:=RP hR hg hx
   obtain ⟨x',hr,hv⟩:=HK hd hi hc hu
   exact .of hR he (by rw [hρ];simp [Instr.loadAt,Instr.sureAddr,hr]) hv
  ·cases hev
 ·rename_i cs off hp
  cases hp
  simp only [Option.map_eq_some_iff,Prod.mk.injEq] at hev
  obtain ⟨u,hu,rfl,rfl⟩:=hev
  obtain ⟨b,o',hρ,hc⟩:=RO hR hx
  obtain ⟨x',hr,hv⟩:=HK hd hi hc hu
  exact .of hR he (by rw [hρ];simp [Instr.loadAt,Instr.sureAddr,hr]) hv
 ·cases hev
end
end Go.Ev
namespace Go.Ev
open Go
def XW (P:Program) (fs:Array Field):Nat→Option (Nat × Nat):=fun i=>match fs[i]? with
 | some f=>(P.info? f.type).map fun x=>(f.offset,x.size)
 | none=>none
def Eb (G:Glob) (place:Nat→Option (Nat × Nat)):List (Nat × Operand)→Option (List (Nat × Nat × Opd))
 | []=>some []
 | (i,x)::r=>match place i,Ac G x,Eb G place r with
  | some (off,n),some y,some l=>some ((off,n,y)::l)
  | _,_,_=>none
def Fx (G:Glob):Option Operand→Option (Option Opd)
 | none=>some none
 | some x=>(Ac G x).map some
def MC:TypeDesc→Operand→Option Nat
 | .pointer _,.const (.pointer none)=>some 0
 | .slice _,.const (.slice none 0 0)=>some 1
 | .interface _,.const .nilIface=>some 2
 | _,_=>none
def VN (op:BinOp) (kd:Nat) (a:Opd):Option IOp :=
 match op with
 | .eql=>some (.eqn kd false a)
 | .neq=>some (.eqn kd true a)
 | _=>none
def Pr (P:Program) (t:TypeId):Option Nat:=match P.underlying t with
 | some (.int _)=>some 0
 | some .bool=>some 1
 | some .string=>some 2
 | _=>none
def Ib (P:Program):Nat→List Field→Option (List Nat)
 | _,[]=>some []
 | j,f::r=>match Pr P f.type,Ib P (j+1) r with
  | some k,some ks=>if f.name ≠ "_" ∧ f.offset=j then some (k::ks) else none
  | _,_=>none
def Qq (P:Program):TypeDesc→Option (List Nat)
 | .struct fs=>Ib P 0 fs.toList
 | _=>none
def VM (op:BinOp) (ks:List Nat) (a b:Opd):Option IOp :=
 match op with
 | .eql=>some (.eqa ks false a b)
 | .neq=>some (.eqa ks true a b)
 | _=>none
def Sp (P:Program) (G:Glob) (op:BinOp) (xt:TypeId) (x y:Operand) (d:TypeDesc):Option IOp :=
 match MC d y with
 | some kd=>match Ac G x with | some a=>VN op kd a | none=>none
 | none=>match Ac G x,Ac G y,Qq P d with
  | some a,some b,some ks=>if P.eqGuardType P.depth xt=false∧P.stoodInHeld xt=false then VM op ks a b else none
  | _,_,_=>none
theorem UC {op:BinOp} {kd:Nat} {a:Opd} {iop:IOp} (h:VN op kd a=some iop):∃ neg,op=(if neg then BinOp.neq else .eql)∧iop=.eqn kd neg a:=by
 unfold VN at h
 split at h<;>cases h
 ·exact ⟨false,rfl,rfl⟩
 ·exact ⟨true,rfl,rfl⟩
theorem UB {op:BinOp} {ks:List Nat} {a b:Opd} {iop:IOp} (h:VM op ks a b=some iop):∃ neg,op=(if neg then BinOp.neq else .eql)∧iop=.eqa ks neg a b:=by
 unfold VM at h
 split at h<;>cases h
 ·exact ⟨false,rfl,rfl⟩
 ·exact ⟨true,rfl,rfl⟩
def Bn (P:Program) (G:Glob) (o:Op):Option IOp :=
 match o with
 | .move x | .assign x=>(Ac G x).map .mov
 | .pick c a b=>do some (.pick (← Ac G c) (← Ac G a) (← Ac G b))
 | .alloc t=>do
  let i ← P.info? t
  let z ← i.zero
  some (.alloc (← Gr z.cells.toList))
 | .box _ x=>(Ac G x).map .box
 | .build t ps=>do
  let i ← P.info? t
  let z ← i.zero
  let zc ← Gr z.cells.toList
  match ← P.underlying t with
  | .struct fs=>if fs.toList.all fun f=>(P.info? f.type).isSome then some (.build zc (← Eb G (XW P fs) ps.toList)) else none
  | .array _ e=>do
   let j ← P.info? e
   some (.build zc (← Eb G (fun k=>some (k*j.size,j.size)) ps.toList))
  | _=>none
 | .buildSlice t len ps=>do
  match ← P.underlying t with
  | .slice e=>do
   let j ← P.info? e
   if len*j.size≤16777216∧0<j.size then
    let z ← j.zero
    let zc ← Gr z.cells.toList
    if zc.length=j.size then some (.bslice j.size (rep zc len) len (← Eb G (fun k=>some (k*j.size,j.size)) ps.toList)) else none
   else none
  | _=>none
 | .load t x=>do
  let i ← P.info? t
  let d ← P.underlying t
  some (.ld (FX d) i.size (← Ac G x))
 | .store t x y=>do
  let i ← P.info? t
  some (.st i.size (← Ac G x) (← Ac G y))
 | .nilCheck x=>(Ac G x).map .nilc
 | .binOp op xt x y _=>do
  match ← P.underlying xt with
  | .int _ | .string=>some (.bin op (← Ac G x) (← Ac G y))
  | .bool=>match op with
   | .eql=>some (.eqb false (← Ac G x) (← Ac G y))
   | .neq=>some (.eqb true (← Ac G x) (← Ac G y))
   | _=>none
  | d=>Sp P G op xt x y d
 | .unOp op _ x=>do some (.un op (← Ac G x))
 | .convert s d x=>do
  let ds ← P.underlying s
  match ← P.underlying d with
  | .int k=>some (.cint k (← Ac G x))
  | .string=>match ds with
   | .slice e=>match ← P.underlying e with
    | .int .u8=>some (.cbs (← Ac G x))
    | _=>none
   | _=>some (.cstr (← Ac G x))
  | .slice e=>match ← P.underlying e with
   | .int .u8=>some (.csb (← Ac G x))
   | _=>none
  | _=>none
 | .makeInterface t x=>do
  match ← P.underlying t with
  | .interface _=>none
  | _=>some (.mkif t (← Ac G x))
 | .makeFunc (.func f) ⟨[]⟩ caps=>do some (.mkfn f (← KF G caps.toList))
 | .makeSlice t l c=>do
  match ← P.underlying t with
  | .slice e=>do
   let j ← P.info? e
   let z ← j.zero
   let zc ← Gr z.cells.toList
   if zc.length=j.size∧0<j.size then some (.mksl j.size j.bytes zc (← Ac G l) (← Ac G c)) else none
  | _=>none
 | .slice t x lo hi mx=>do
  match ← P.underlying t with
  | .string=>match mx with
   | none=>some (.slcs (← Ac G x) (← Fx G lo) (← Fx G hi))
   | some _=>none
  | .slice e=>do
   let j ← P.info? e
   some (.slc j.size (← Ac G x) (← Fx G lo) (← Fx G hi) (← Fx G mx))
  | .array n e=>match mx with
   | none=>do
    let j ← P.info? e
    some (.slarr n j.size (← Ac G x) (← Fx G lo) (← Fx G hi))
   | some _=>none
  | _=>none
 | .fieldAddr t x f=>do
  match ← P.underlying t with
  | .struct fs=>do
   let fd ← fs[f]?
   let i ← P.info? fd.type
   if i.size=0 then none else some (.fadr fd.offset (← Ac G x))
  | _=>none
 | .field t x f=>do
  match ← P.underlying t with
  | .struct fs=>do
   let fd ← fs[f]?
   let i ← P.info? fd.type
   let d ← P.underlying fd.type
   some (.fld (FX d) fd.offset i.size (← Ac G x))
  | _=>none
 | .indexAddr t x i=>do
  match ← P.underlying t with
  | .array len e=>do
   let j ← P.info? e
   some (.iadrA len j.size (← Ac G x) (← Ac G i))
  | .slice e=>do
   let j ← P.info? e
   some (.iadr j.size (← Ac G x) (← Ac G i))
  | _=>none
 | .index t x i=>do
  match ← P.underlying t with
  | .array len e=>do
   let j ← P.info? e
   let d ← P.underlying e
   some (.idxA (FX d) len j.size (← Ac G x) (← Ac G i))
  | .string=>some (.idxs (← Ac G x) (← Ac G i))
  | _=>none
 | .extract x i=>do some (.ext (← Ac G x) i)
 | .range t x=>do
  match ← P.underlying t with
  | .string=>some (.rng (← Ac G x))
  | _=>none
 | .next x true=>do some (.next (← Ac G x))
 | .typeAssert x _ t true=>do
  match ← P.underlying t with
  | .interface _=>none
  | _=>do
   let i ← P.info? t
   let z ← i.zero
   some (.tas t (← Fi z) (← Ac G x))
 | .call { callee:=.value f,args,.. }=>do some (.call (← Ac G f) (← KF G args.toList))
 | .call { callee:=.builtin .len,args:=⟨[x]⟩,argTypes:=⟨[t]⟩ }=>do
  match ← P.underlying t with
  | .string=>some (.lens (← Ac G x))
  | .slice _=>some (.len (← Ac G x))
  | _=>none
 | .call { callee:=.builtin .cap,args:=⟨[x]⟩,argTypes:=⟨[t]⟩ }=>do
  match ← P.underlying t with
  | .slice _=>some (.cap (← Ac G x))
  | _=>none
 | .call { callee:=.builtin .max,args:=⟨[x,y]⟩,.. }=>do some (.mm true (← Ac G x) (← Ac G y))
 | .call { callee:=.builtin .min,args:=⟨[x,y]⟩,.. }=>do some (.mm false (← Ac G x) (← Ac G y))
 | .call { callee:=.builtin .append,args:=⟨[s,x]⟩,argTypes:=⟨[t,u]⟩ }=>do
  match ← P.underlying t with
  | .slice e=>do
   let j ← P.info? e
   let z ← j.zero
   let zc ← Gr z.cells.toList
   if zc.length=j.size∧0<j.bytes then
    match ← P.underlying u with
    | .int _=>some (.appz j.size j.bytes zc (← Ac G s) (← Ac G x))
    | _=>some (.app j.size j.bytes (← Ac G s) (← Ac G x))
   else none
  | _=>none
 | .call { callee:=.builtin .copy,args:=⟨[s,x]⟩,argTypes:=⟨[t,_]⟩ }=>do
  match ← P.underlying t with
  | .slice e=>do
   let j ← P.info? e
   some (.cpy j.size (← Ac G s) (← Ac G x))
  | _=>none
 | _=>none
section
variable {P:Program} {G:Glob} {φ:Phi} {I:Imm} {e:Env} {h:H} {w:World} {ρ:Operand→Value} {bar:Nat} {o:Oper}
theorem Wz (hR:R φ I h w) {x:Operand} (ho:o.op=.move x∨o.op=.assign x) {v:AV} (hx:VR φ I v (ρ x)):OpOk P ρ o bar φ I h w v h:=by
 rcases ho with ho | ho<;>exact .same hR (by simp only [execOp,ho];rfl) hx
theorem aA (hR:R φ I h w) {c x y:Operand} (ho:o.op=.pick c x y) {t:Bool} {u v:AV} (hc:VR φ I (.bool t) (ρ c)) (hx:VR φ I u (ρ x)) (hy:VR φ I v (ρ y)) :
  OpOk P ρ o bar φ I h w (if t then u else v) h:=by
 generalize hρ:ρ c=z at hc
 cases hc
 exact .same hR (by simp only [execOp,ho,hρ];simp [asBool];rfl) (by cases t<;>simpa)
theorem UD {v:AV} {x:Value} {t:Bool} (hv:VR φ I v x) (hn:AG v=some t) :
  (t=true∧(x=.pointer none∨x=.slice none 0 0∨x=.nilFunc∨x=.nilIface∨x=.map none)) ∨
  (t=false∧((∃ a,x=.pointer (some a))∨(∃ a l c,x=.slice (some a) l c)∨(∃ f cs,x=.func (.func f) #[] cs)∨(∃ t v,x=.iface t v)∨(∃ r,x=.map (some r)))):=by
 cases hv<;>simp [AG] at hn<;>simp [← hn]
theorem Zz (hR:R φ I h w) {x:Operand} (ho:o.op=.nilCheck x) {v:AV} (hx:VR φ I v (ρ x)) (hn:AG v=some false):OpOk P ρ o bar φ I h w v h:=by
 refine .same hR (x:=ρ x) ?_ hx
 rcases UD hx hn with ⟨h1,_⟩ | ⟨_,h2⟩
 ·cases h1
 ·rcases h2 with ⟨a,h⟩ | ⟨a,l,c,h⟩ | ⟨f,cs,h⟩ | ⟨t,v,h⟩ | ⟨r,h⟩<;>(simp only [execOp,ho,h];try rfl)
theorem bf (hR : R φ I h w) {op : BinOp} {xt yt : TypeId} {x y : Operand} (ho : o.op = .binOp op xt x y yt) {u v r : AV} (hx : VR φ I u (ρ x)) (hy : VR φ I v (ρ y))
    (hr : Lj op u v = some r) : OpOk P ρ o bar φ I h w r h := by
  generalize h1 : ρ x = a at hx
  generalize h2 : ρ y = b at hy
  have he : execOp ρ o = (do pure (Next.value (← (do eqGuard op xt x y a b; binOp op xt a b))) : Sem Next) := by simp only [execOp, ho, h1, h2]
  cases hx <;> try (simp [Lj] at hr; done)
  · rename_i k n
    cases hy <;> try (simp [Lj] at hr; done)
    rename_i k' m
    have hg : (eqGuard op xt x y (.int k n) (.int k' m)).run P w = .ok () w := by unfold eqGuard; split <;> simp
    cases op <;> simp only [Lj, HA, Nl] at hr
    all_goals first
      | (split at hr
         · cases hr
         · simp only [Option.some.injEq] at hr; subst hr
           refine .of hR he (x := .int _ _) ?_ (by constructor)
           simp only [Sem.run_bind, hg, Result.andThen_ok, binOp]
           simp [Op.shift, *]; done)
      | (split at hr
         · rename_i hk; subst hk
           first
            | (simp only [Option.some.injEq] at hr; subst hr
               refine .of hR he ?_ (by constructor)
               simp only [Sem.run_bind, hg, Result.andThen_ok, binOp]
               simp [Op.intArith, Op.intBits, Op.intCmp]; done)
            | (split at hr
               · cases hr
               · simp only [Option.some.injEq] at hr; subst hr
                 refine .of hR he ?_ (by constructor)
                 simp only [Sem.run_bind, hg, Result.andThen_ok, binOp]
                 simp [Op.intDiv, *]; done)
         · cases hr)
  · rename_i s
    cases hy <;> try (simp [Lj] at hr; done)
    rename_i s'
    have hg : (eqGuard op xt x y (.string s) (.string s')).run P w = .ok () w := by unfold eqGuard; split <;> simp
    cases op <;> simp only [Lj, Dp] at hr
    all_goals first
      | (cases hr; done)
      | (simp only [Option.some.injEq] at hr; subst hr
         refine .of hR he ?_ (by constructor)
         simp only [Sem.run_bind, hg, Result.andThen_ok, binOp]
         simp [Op.stringOp]; done)
      | (split at hr
         · rename_i hle
           simp only [Option.some.injEq] at hr; subst hr
           refine .of hR he ?_ (by constructor)
           simp only [Sem.run_bind, hg, Result.andThen_ok, binOp]
           have : ¬ (((s.size + s'.size : Nat) : Int) > IntKind.i64.max) := by
             have : IntKind.i64.max = 9223372036854775807 := by decide
             omega
           simp only [Op.stringOp, if_neg this]; rfl
         · cases hr)
end
end Go.Ev
namespace Go.Ev
open Go
section
variable {P:Program} {G:Glob} {φ:Phi} {I:Imm} {e:Env} {h:H} {w:World} {ρ:Operand→Value} {bar:Nat} {o:Oper}
theorem Ou (op:BinOp) (xt:TypeId) (x y:Operand) (a b:Value) (h:(∀ cs,a≠.agg cs)∧a≠.nilIface):(eqGuard op xt x y a b).run P w=.ok () w:=by
 cases a<;>first
  | exact absurd rfl h.2
  | exact absurd rfl (h.1 _)
  | (cases op<;>rfl)
theorem Wd (op:BinOp) (xt:TypeId) (x:Operand) (c:Value):(eqGuard op xt x (.const c) .nilIface .nilIface).run P w=.ok () w:=by
 cases op<;>cases x<;>rfl
theorem bm (hR:R φ I h w) {op:BinOp} {xt yt:TypeId} {x y:Operand} (ho:o.op=.binOp op xt x y yt) (hd:P.underlying xt=some .bool) {a b neg:Bool}
  (hop:op=if neg then .neq else .eql) (hx:VR φ I (.bool a) (ρ x)) (hy:VR φ I (.bool b) (ρ y)):OpOk P ρ o bar φ I h w (.bool (if neg then !(a == b) else a == b)) h:=by
 generalize h1:ρ x=u at hx
 generalize h2:ρ y=v at hy
 cases hx;cases hy
 have he:execOp ρ o=(do pure (Next.value (← (do eqGuard op xt x y (.bool a) (.bool b);binOp op xt (.bool a) (.bool b)))):Sem Next):=by simp only [execOp,ho,h1,h2]
 refine .of hR he ?_ (by constructor)
 simp only [Sem.run_bind,Ou op xt x y (.bool a) (.bool b) (by simp),Result.andThen_ok]
 subst hop
 cases neg
 ·exact run_eql_bool w xt a b hd
 ·exact run_neq_bool w xt a b hd
theorem Tg {xt t':TypeId} (hd:P.underlying xt=some (.pointer t')) (p:Option Addr) (n:Nat):(Op.equalIn (n+1) xt (.pointer p) (.pointer none)).run P w=.ok p.isNone w:=by
 cases p<;>simp [Op.equalIn,run_underlying hd]
theorem Vm {xt t':TypeId} (hd:P.underlying xt=some (.pointer t')) (p:Option Addr):(Op.equal xt (.pointer p) (.pointer none)).run P w=.ok p.isNone w:=Tg hd p 9999
theorem Th {xt t':TypeId} (hd:P.underlying xt=some (.slice t')) (p:Option Addr) (l c n:Nat):(Op.equalIn (n+1) xt (.slice p l c) (.slice none 0 0)).run P w=.ok p.isNone w:=by
 cases p<;>simp [Op.equalIn,run_underlying hd]
theorem Vn {xt t':TypeId} (hd:P.underlying xt=some (.slice t')) (p:Option Addr) (l c:Nat):(Op.equal xt (.slice p l c) (.slice none 0 0)).run P w=.ok p.isNone w:=Th hd p l c 9999
theorem Ti {xt:TypeId} {ms:Array (String × TypeId)} (hd:P.underlying xt=some (.interface ms)) (n:Nat):(Op.equalIn (n+1) xt .nilIface .nilIface).run P w=.ok true w:=by
 simp [Op.equalIn,run_underlying hd]
theorem Vo {xt:TypeId} {ms:Array (String × TypeId)} (hd:P.underlying xt=some (.interface ms)):(Op.equal xt .nilIface .nilIface).run P w=.ok true w:=Ti hd 9999
theorem Tj {xt:TypeId} {ms:Array (String × TypeId)} (hd:P.underlying xt=some (.interface ms)) (t:TypeId) (v:Value) (n:Nat):(Op.equalIn (n+1) xt (.iface t v) .nilIface).run P w=.ok false w:=by
 simp [Op.equalIn,run_underlying hd]
theorem Vp {xt:TypeId} {ms:Array (String × TypeId)} (hd:P.underlying xt=some (.interface ms)) (t:TypeId) (v:Value):(Op.equal xt (.iface t v) .nilIface).run P w=.ok false w:=Tj hd t v 9999
theorem SJ {xt:TypeId} {d:TypeDesc} (hd:P.underlying xt=some d) {y:Operand} {kd:Nat} (hk:MC d y=some kd) {v:AV} {x:Value} {t:Bool}
  (hv:VR φ I v x) (hn:Bg kd v=some t):∃ c,y=.const c∧(Op.equal xt x c).run P w=.ok t w∧(((∀ cs,x≠.agg cs)∧x≠.nilIface)∨(x=.nilIface∧c=.nilIface)) ∧
   (∀ op,binOp op xt x c=(match op with | .eql=>(do pure (.bool (← Op.equal xt x c))) | .neq=>(do pure (.bool (!(← Op.equal xt x c)))) | _=>binOp op xt x c)):=by
 have hb:∀ (x c:Value),((∃ p q,x=.pointer p∧c=.pointer q)∨(∃ a l m b l' m',x=.slice a l m∧c=.slice b l' m')∨((x=.nilIface∨∃ t v,x=.iface t v)∧c=.nilIface)) →
   ∀ op,binOp op xt x c=(match op with | .eql=>(do pure (.bool (← Op.equal xt x c))) | .neq=>(do pure (.bool (!(← Op.equal xt x c)))) | _=>binOp op xt x c):=by
  intro x c h op
  rcases h with ⟨p,q,rfl,rfl⟩ | ⟨a,l,m,b,l',m',rfl,rfl⟩ | ⟨rfl | ⟨t,v,rfl⟩,rfl⟩<;>cases op<;>rfl
 unfold MC at hk
 split at hk
 ·cases hk
  refine ⟨_,rfl,?_⟩
  cases hv<;>simp [Bg] at hn<;>subst hn<;>exact ⟨Vm hd _,.inl ⟨by simp,by simp⟩,hb _ _ (.inl ⟨_,_,rfl,rfl⟩)⟩
 ·cases hk
  refine ⟨_,rfl,?_⟩
  cases hv<;>simp [Bg] at hn<;>subst hn<;>exact ⟨Vn hd _ _ _,.inl ⟨by simp,by simp⟩,hb _ _ (.inr (.inl ⟨_,_,_,_,_,_,rfl,rfl⟩))⟩
 ·cases hk
  refine ⟨_,rfl,?_⟩
  cases hv<;>simp [Bg] at hn<;>subst hn
  ·exact ⟨Vp hd _ _,.inl ⟨by simp,by simp⟩,hb _ _ (.inr (.inr ⟨.inr ⟨_,_,rfl⟩,rfl⟩))⟩
  ·exact ⟨Vo hd,.inr ⟨rfl,rfl⟩,hb _ _ (.inr (.inr ⟨.inl rfl,rfl⟩))⟩
 ·cases hk
theorem bo (hR:R φ I h w) {op:BinOp} {xt yt:TypeId} {x y:Operand} (ho:o.op=.binOp op xt x y yt) {d:TypeDesc} (hd:P.underlying xt=some d) {kd:Nat} (hk:MC d y=some kd) {neg:Bool}
  (hop:op=if neg then .neq else .eql) {v:AV} {t:Bool} (hx:VR φ I v (ρ x)) (hn:Bg kd v=some t) (hρ:∀ c,ρ (.const c)=c) :
  OpOk P ρ o bar φ I h w (.bool (if neg then !t else t)) h:=by
 obtain ⟨c,rfl,h1,h2,h3⟩:=SJ (w:=w) hd hk hx hn
 have he:execOp ρ o=(do pure (Next.value (← (do eqGuard op xt x (.const c) (ρ x) c;binOp op xt (ρ x) c))):Sem Next):=by simp only [execOp,ho,hρ]
 refine .of hR he ?_ (by constructor)
 have hg:(eqGuard op xt x (.const c) (ρ x) c).run P w=.ok () w:=by
  rcases h2 with h2 | ⟨h2,h2'⟩
  ·exact Ou op xt x _ _ _ h2
  ·rw [h2,h2'];exact Wd op xt x _
 simp only [Sem.run_bind,hg,Result.andThen_ok]
 rw [h3 op]
 subst hop
 cases neg<;>simp [h1]
end
end Go.Ev
namespace Go.Ev
open Go
section
variable {P:Program} {G:Glob} {φ:Phi} {I:Imm} {e:Env} {h:H} {w:World} {ρ:Operand→Value} {bar:Nat} {o:Oper}
theorem Um (hR:R φ I h w) {t:TypeId} {x:Operand} {f:Nat} (ho:o.op=.fieldAddr t x f) {fs:Array Field} {fd:Field} {i:TypeInfo} (hd:P.underlying t=some (.struct fs))
  (hf:fs[f]? = some fd) (hi:P.info? fd.type=some i) (hs:i.size≠0) {u v:AV} (hv:(match u with | .ptr id off=>some (AV.ptr id (off+fd.offset)) | .fptr cs off=>some (.fptr cs (off+fd.offset)) | _=>none)=some v) (hx:VR φ I u (ρ x)):OpOk P ρ o bar φ I h w v h:=by
 have he:execOp ρ o=(do pure (Next.value (← Instr.fieldAt t (ρ x) f)):Sem Next):=by simp only [execOp,ho]
 have hr:∀ b q,ρ x=.pointer (some ⟨b,q,none⟩)→(Instr.fieldAt t (ρ x) f).run P w=.ok (.pointer (some ⟨b,q+fd.offset,none⟩)) w:=fun b q hq=>by
  simp [Instr.fieldAt,hq,run_underlying hd,hf,Instr.sureAddr,fieldPlace,sizeOf,typeInfo,hi,hs,Dq]
 generalize hz:ρ x=z at hx
 cases hx with
 | ptr id off b q sz hφ =>
  simp only [Option.some.injEq] at hv;subst hv
  refine .of hR he (hr _ _ hz) ?_
  rw [Nat.add_assoc];exact .ptr id _ b q sz hφ
 | fptr cs off b q vs h1 h2 h3 =>
  simp only [Option.some.injEq] at hv;subst hv
  refine .of hR he (hr _ _ hz) ?_
  rw [Nat.add_assoc];exact .fptr cs _ b q vs h1 h2 h3
 | _=>simp at hv
theorem QI {t:TypeId} {d:TypeDesc} {i:TypeInfo} (hd:P.underlying t=some d) (hi:P.info? t=some i) {cs:List AV} {vs:Array Value} (hl:cs.length=vs.size)
  (hc:∀ (j:Nat) (c:AV) (v:Value),cs[j]? = some c→vs[j]? = some v→VR φ I c v) {off:Nat} {v:AV} (hv:Bs (FX d) i.size cs off=some v) :
  ∃ x,(part t vs off).run P w=.ok x w∧VR φ I v x:=by
 by_cases ha:FX d=true
 ·simp only [Bs,ha,if_true] at hv
  split at hv
  ·rename_i hle
   simp only [Option.some.injEq] at hv;subst hv
   refine ⟨.agg (vs.extract off (off+i.size)),?_,.agg _ _ (by simp;omega) (fun j c v h1 h2=>?_)⟩
   ·cases d<;>simp [FX] at ha<;>simp [part,isAgg,run_underlying hd,sizeOf,typeInfo,hi]
   ·rw [List.getElem?_take] at h1
    split at h1
    ·rename_i hlt
     rw [List.getElem?_drop] at h1
     rw [Array.getElem?_extract] at h2
     split at h2
     ·exact hc _ c v h1 h2
     ·cases h2
    ·cases h1
  ·cases hv
 ·simp only [Bs,ha] at hv
  have hv:cs[off]? = some v:=by simpa using hv
  have hlt:off<vs.size:=hl ▸ (List.getElem?_eq_some_iff.1 hv).1
  refine ⟨vs[off],?_,hc off v _ hv (Array.getElem?_eq_getElem hlt)⟩
  cases d<;>simp [FX] at ha<;>simp [part,isAgg,run_underlying hd,Array.getElem?_eq_getElem hlt]
theorem bq (hR:R φ I h w) {t:TypeId} {x:Operand} {f:Nat} (ho:o.op=.field t x f) {fs:Array Field} {fd:Field} {i:TypeInfo} {d:TypeDesc} (hd:P.underlying t=some (.struct fs))
  (hf:fs[f]? = some fd) (hi:P.info? fd.type=some i) (hd':P.underlying fd.type=some d) {cs:List AV} {v:AV} (hx:VR φ I (.agg cs) (ρ x))
  (hv:Bs (FX d) i.size cs fd.offset=some v):OpOk P ρ o bar φ I h w v h:=by
 have he:execOp ρ o=(do pure (Next.value (← Instr.field t (ρ x) f)):Sem Next):=by simp only [execOp,ho]
 generalize hz:ρ x=z at hx
 cases hx with
 | agg _ vs h1 h2 =>
  obtain ⟨y,hr,hy⟩:=QI (w:=w) hd' hi h1 h2 hv
  exact .of hR he (by simp [Instr.field,hz,run_underlying hd,hf,asAgg,hr]) hy
theorem bp (hR:R φ I h w) {x:Operand} {i:Nat} (ho:o.op=.extract x i) {cs:List AV} {v:AV} (hx:VR φ I (.tup cs) (ρ x)) (hv:cs[i]? = some v):OpOk P ρ o bar φ I h w v h:=by
 have he:execOp ρ o=(do pure (Next.value (← Instr.extract (ρ x) i)):Sem Next):=by simp only [execOp,ho]
 generalize hz:ρ x=z at hx
 cases hx with
 | tup _ vs h1 h2 =>
  have hlt:i<vs.size:=h1 ▸ (List.getElem?_eq_some_iff.1 hv).1
  exact .of hR he (by simp [hz,Instr.extract,Array.getElem?_eq_getElem hlt]) (h2 i v _ hv (Array.getElem?_eq_getElem hlt))
theorem dQ (hR:R φ I h w) {op:UnOp} {t:TypeId} {x:Operand} (ho:o.op=.unOp op t x) {u v:AV} (hx:VR φ I u (ρ x)) (hv:Xd op u=some v):OpOk P ρ o bar φ I h w v h:=by
 have he:execOp ρ o=(do pure (Next.value (← Op.unary op (ρ x))):Sem Next):=by simp only [execOp,ho]
 generalize hz:ρ x=z at hx
 unfold Xd at hv
 split at hv
 ·cases hx;cases hv
  exact .of hR he (x:=.int _ _) (by rw [hz];rfl) (by constructor)
 ·cases hx
  simp only [Nl,Option.some.injEq] at hv;subst hv
  exact .of hR he (x:=.int _ _) (by rw [hz];rfl) (by constructor)
 ·cases hx;cases hv
  exact .of hR he (x:=.bool _) (by rw [hz];rfl) (by constructor)
 ·cases hv
theorem Zs (hR:R φ I h w) {s d:TypeId} {x:Operand} (ho:o.op=.convert s d x) {ds:TypeDesc} {k:IntKind} (hs:P.underlying s=some ds) (hd:P.underlying d=some (.int k)) {k':IntKind} {n:Int}
  (hx:VR φ I (.int k' n) (ρ x)):OpOk P ρ o bar φ I h w (.int k (k.wrap n)) h:=by
 have he:execOp ρ o=(do pure (Next.value (← convert s d (ρ x))):Sem Next):=by simp only [execOp,ho]
 generalize hz:ρ x=z at hx
 cases hx
 refine .of hR he ?_ (by constructor)
 rw [hz]
 simp [convert,run_underlying hs,run_underlying hd,Conv.intToInt]
theorem Ul (hR:R φ I h w) {s d:TypeId} {x:Operand} (ho:o.op=.convert s d x) {ds:TypeDesc} (hs:P.underlying s=some ds) (hd:P.underlying d=some .string) {u v:AV}
  (hv:(match u with | .int _ n=>some (AV.str (Utf8.encode n)) | .str s=>some (.str s) | _=>none)=some v) (hx:VR φ I u (ρ x)):OpOk P ρ o bar φ I h w v h:=by
 have he:execOp ρ o=(do pure (Next.value (← convert s d (ρ x))):Sem Next):=by simp only [execOp,ho]
 generalize hz:ρ x=z at hx
 cases hx<;>simp at hv
 all_goals
  subst hv
  refine .of hR he ?_ (by constructor)
  rw [hz]
  simp [convert,run_underlying hs,run_underlying hd,Conv.intToString]
theorem Zw (hR:R φ I h w) {t:TypeId} {x:Operand} (ho:o.op=.makeInterface t x) {d:TypeDesc} (hd:P.underlying t=some d) (hn:∀ ms,d≠.interface ms) {v:AV} (hx:VR φ I v (ρ x)) :
  OpOk P ρ o bar φ I h w (.ifc t v) h:=by
 have he:execOp ρ o=(do pure (Next.value (← Instr.makeInterface t (ρ x))):Sem Next):=by simp only [execOp,ho]
 refine .of hR he (x:=.iface t (ρ x)) ?_ (.ifc t v _ hx)
 cases d<;>simp_all [Instr.makeInterface,run_underlying hd]
theorem Zv (hR:R φ I h w) {f:Nat} {caps:Array Operand} (ho:o.op=.makeFunc (.func f) #[] caps) {cs:List AV} (hx:VRL φ I cs (caps.toList.map ρ)) :
  OpOk P ρ o bar φ I h w (.fn f cs) h:=by
 have he:execOp ρ o=(do pure (Next.value (← Instr.makeFunc (.func f) #[] (caps.map ρ))):Sem Next):=by simp only [execOp,ho];simp
 refine .of hR he (x:=.func (.func f) #[] (caps.map ρ)) (by simp [Instr.makeFunc]) (.fn f cs _ (by simpa using hx.1) (fun i c v h1 h2=>hx.2 i c v h1 ?_))
 simpa using h2
theorem DY {i:AV} {len j:Nat} {x:Value} (hx:VR φ I i x) (hi:AJ i len=some j):∃ k n,x=.int k n∧0≤n∧n<len∧j=n.toNat:=by
 cases hx<;>simp [AJ] at hi
 rename_i k n
 exact ⟨k,n,rfl,hi.1.1,hi.1.2,hi.2.symm⟩
theorem Un (hR:R φ I h w) {t:TypeId} {x i:Operand} (ho:o.op=.indexAddr t x i) {e':TypeId} {ti:TypeInfo} (hd:P.underlying t=some (.slice e')) (hi:P.info? e'=some ti) {u iv v:AV}
  (hv:(match u with
   | .sl id off k' len _=>if ti.size=k' then (AJ iv len).map fun j=>AV.ptr id (off+j*ti.size) else none
   | .fz k' len cs _=>if ti.size=k'∧cs.length=len*ti.size then (AJ iv len).map fun j=>.fptr cs (j*ti.size) else none
   | _=>none)=some v) (hx:VR φ I u (ρ x)) (hiv:VR φ I iv (ρ i)):OpOk P ρ o bar φ I h w v h:=by
 have he:execOp ρ o=(do pure (Next.value (← Instr.indexAt t (ρ x) (ρ i))):Sem Next):=by simp only [execOp,ho]
 have hr:∀ b q len cap k n,ρ x=.slice (some ⟨b,q,none⟩) len cap→ρ i=.int k n→0≤n→n<len→(Instr.indexAt t (ρ x) (ρ i)).run P w=.ok (.pointer (some ⟨b,q+n.toNat*ti.size,none⟩)) w :=
  fun b q len cap k n h1 h2 h3 h4=>by
   simp [Instr.indexAt,h1,h2,asIntOf,run_underlying hd,sizeOf,typeInfo,hi,h3,h4,Dq]
 generalize hz:ρ x=z at hx
 cases hx with
 | sl id off k len full b q sz cap hφ h1 h2 h3 =>
  simp only at hv
  split at hv
  ·rename_i hk
   simp only [Option.map_eq_some_iff] at hv
   obtain ⟨j,hj,rfl⟩:=hv
   obtain ⟨k',n,hn,h4,h5,rfl⟩:=DY hiv hj
   refine .of hR he (hr _ _ _ _ _ _ hz hn h4 h5) ?_
   rw [Nat.add_assoc];exact .ptr id _ b q sz hφ
  ·cases hv
 | sl0 id off k full a y hφ =>
  simp only at hv
  split at hv
  ·simp only [Option.map_eq_some_iff] at hv
   obtain ⟨j,hj,rfl⟩:=hv
   obtain ⟨k',n,hn,h4,h5,rfl⟩:=DY hiv hj
   omega
  ·cases hv
 | fz k len cs full b q cap vs h1 h2 h3 h4 h5 h6 =>
  simp only at hv
  split at hv
  ·simp only [Option.map_eq_some_iff] at hv
   obtain ⟨j,hj,rfl⟩:=hv
   obtain ⟨k',n,hn,h4,h5,rfl⟩:=DY hiv hj
   refine .of hR he (hr _ _ _ _ _ _ hz hn h4 h5) ?_
   exact .fptr cs _ b q vs h1 h2 h3
  ·cases hv
 | fz0 k full a cap h5 =>
  simp only at hv
  split at hv
  ·simp only [Option.map_eq_some_iff] at hv
   obtain ⟨j,hj,rfl⟩:=hv
   obtain ⟨k',n,hn,h4,h5,rfl⟩:=DY hiv hj
   omega
  ·cases hv
 | _=>simp at hv
theorem TY (hR:R φ I h w) {t:TypeId} {x i:Operand} (ho:o.op=.indexAddr t x i) {e':TypeId} {len:Nat} {ti:TypeInfo} (hd:P.underlying t=some (.array len e')) (hi:P.info? e'=some ti) {u iv v:AV}
  (hv:(match u with
   | .ptr id off=>(AJ iv len).map fun j=>AV.ptr id (off+j*ti.size)
   | .fptr cs off=>(AJ iv len).map fun j=>.fptr cs (off+j*ti.size)
   | _=>none)=some v) (hx:VR φ I u (ρ x)) (hiv:VR φ I iv (ρ i)):OpOk P ρ o bar φ I h w v h:=by
 have he:execOp ρ o=(do pure (Next.value (← Instr.indexAt t (ρ x) (ρ i))):Sem Next):=by simp only [execOp,ho]
 have hr:∀ b q k n,ρ x=.pointer (some ⟨b,q,none⟩)→ρ i=.int k n→0≤n→n<len→(Instr.indexAt t (ρ x) (ρ i)).run P w=.ok (.pointer (some ⟨b,q+n.toNat*ti.size,none⟩)) w :=
  fun b q k n h1 h2 h3 h4=>by
   simp [Instr.indexAt,h1,h2,asIntOf,run_underlying hd,sizeOf,typeInfo,hi,h3,h4,Dq,Instr.sureAddr]
 generalize hz:ρ x=z at hx
 cases hx with
 | ptr id off b q sz hφ =>
  simp only [Option.map_eq_some_iff] at hv
  obtain ⟨j,hj,rfl⟩:=hv
  obtain ⟨k',n,hn,h4,h5,rfl⟩:=DY hiv hj
  refine .of hR he (hr _ _ _ _ hz hn h4 h5) ?_
  rw [Nat.add_assoc];exact .ptr id _ b q sz hφ
 | fptr cs off b q vs h1 h2 h3 =>
  simp only [Option.map_eq_some_iff] at hv
  obtain ⟨j,hj,rfl⟩:=hv
  obtain ⟨k',n,hn,h4,h5,rfl⟩:=DY hiv hj
  refine .of hR he (hr _ _ _ _ hz hn h4 h5) ?_
  rw [Nat.add_assoc];exact .fptr cs _ b q vs h1 h2 h3
 | _=>simp at hv
theorem Zu (hR:R φ I h w) {t:TypeId} {x i:Operand} (ho:o.op=.index t x i) (hd:P.underlying t=some .string) {s:ByteArray} {iv:AV} {j:Nat} {b:UInt8}
  (hx:VR φ I (.str s) (ρ x)) (hiv:VR φ I iv (ρ i)) (hj:AJ iv s.size=some j) (hb:s.data.toList[j]? = some b):OpOk P ρ o bar φ I h w (.int .u8 b.toNat) h:=by
 have he:execOp ρ o=(do pure (Next.value (← Instr.index t (ρ x) (ρ i))):Sem Next):=by simp only [execOp,ho]
 obtain ⟨k',n,hn,h4,h5,rfl⟩:=DY hiv hj
 generalize hz:ρ x=z at hx
 cases hx
 refine .of hR he ?_ (by constructor)
 have:s[n.toNat]? = some b:=by
  have hlt:n.toNat<s.size:=by omega
  rw [getElem?_pos s n.toNat hlt]
  have:=List.getElem?_eq_some_iff.1 hb
  obtain ⟨h1,h2⟩:=this
  rw [← h2];rfl
 rw [hz,hn]
 simp [Instr.index,asIntOf,run_underlying hd,h4,this]
theorem Zt (hR:R φ I h w) {t:TypeId} {x i:Operand} (ho:o.op=.index t x i) {e':TypeId} {len:Nat} {ti:TypeInfo} {d:TypeDesc} (hd:P.underlying t=some (.array len e')) (hi:P.info? e'=some ti)
  (hd':P.underlying e'=some d) {cs:List AV} {iv v:AV} {j:Nat} (hx:VR φ I (.agg cs) (ρ x)) (hiv:VR φ I iv (ρ i)) (hj:AJ iv len=some j)
  (hv:Bs (FX d) ti.size cs (j*ti.size)=some v):OpOk P ρ o bar φ I h w v h:=by
 have he:execOp ρ o=(do pure (Next.value (← Instr.index t (ρ x) (ρ i))):Sem Next):=by simp only [execOp,ho]
 obtain ⟨k',n,hn,h4,h5,rfl⟩:=DY hiv hj
 generalize hz:ρ x=z at hx
 cases hx with
 | agg _ vs h1 h2 =>
  obtain ⟨y,hr,hy⟩:=QI (w:=w) hd' hi h1 h2 hv
  refine .of hR he ?_ hy
  rw [hz,hn]
  simp [Instr.index,asIntOf,run_underlying hd,h4,h5,sizeOf,typeInfo,hi,hr]
theorem Yz (hR:R φ I h w) {isMax:Bool} {x y:Operand} {ts:Array TypeId} (ho:o.op=.call { callee:=.builtin (if isMax then .max else .min),args:=#[x,y],argTypes:=ts }) {k:IntKind} {a b:Int}
  (hx:VR φ I (.int k a) (ρ x)) (hy:VR φ I (.int k b) (ρ y)):OpOk P ρ o bar φ I h w (.int k (if isMax then (if b > a then b else a) else (if b<a then b else a))) h:=by
 generalize hz:ρ x=z at hx
 generalize hz':ρ y=z' at hy
 cases hx;cases hy
 refine .same hR (x:=.int k (if isMax then (if b > a then b else a) else (if b<a then b else a))) ?_ (by constructor)
 cases isMax<;>simp [execOp,ho,resolve,invoke,builtin,hz,hz',run_max_int2,run_min_int2]
theorem QH (hR:R φ I h w) {x:Operand} {t:TypeId} (ho:o.op=.call { callee:=.builtin .len,args:=#[x],argTypes:=#[t] }) {d:TypeDesc} (hd:P.underlying t=some d)
  {u:AV} {n:Int} (hx:VR φ I u (ρ x))
  (hn:(d=.string∧∃ s,u=.str s∧n=s.size)∨((∃ e',d=.slice e')∧((u=.nilsl∧n=0)∨(∃ id off k m f,u=.sl id off k m f∧n=m)∨(∃ k m cs f,u=.fz k m cs f∧n=m)))) :
  OpOk P ρ o bar φ I h w (As n) h:=by
 refine .same hR (x:=goInt n) ?_ (by constructor)
 generalize hz:ρ x=z at hx
 rcases hn with ⟨rfl,s,rfl,rfl⟩ | ⟨⟨e',rfl⟩,⟨rfl,rfl⟩ | ⟨id,off,k,m,f,rfl,rfl⟩ | ⟨k,m,cs,f,rfl,rfl⟩⟩<;>cases hx <;>
  simp [execOp,ho,resolve,invoke,builtin,hz,Builtin.len_,run_underlying hd]
theorem TX (hR:R φ I h w) {x:Operand} {t:TypeId} (ho:o.op=.call { callee:=.builtin .cap,args:=#[x],argTypes:=#[t] }) {e':TypeId} (hd:P.underlying t=some (.slice e'))
  {u:AV} {n:Int} (hx:VR φ I u (ρ x))
  (hn:(u=.nilsl∧n=0)∨(∃ id off k m,u=.sl id off k m true∧n=m)∨(∃ k m cs,u=.fz k m cs true∧n=m)):OpOk P ρ o bar φ I h w (As n) h:=by
 generalize hz:ρ x=z at hx
 rcases hn with ⟨rfl,rfl⟩ | ⟨id,off,k,m,rfl,rfl⟩ | ⟨k,m,cs,rfl,rfl⟩
 ·cases hx
  exact .same hR (x:=goInt 0) (by simp [execOp,ho,resolve,invoke,builtin,hz,Builtin.cap_,run_underlying hd]) (by constructor)
 ·cases hx with
  | sl _ _ _ _ _ b q sz cap hφ h1 h2 h3 =>
   exact .same hR (x:=goInt m) (by simp [execOp,ho,resolve,invoke,builtin,hz,Builtin.cap_,run_underlying hd,h3 rfl]) (by constructor)
  | sl0=>exact .same hR (x:=goInt 0) (by simp [execOp,ho,resolve,invoke,builtin,hz,Builtin.cap_,run_underlying hd]) (by constructor)
 ·cases hx with
  | fz _ _ _ _ b q cap vs h1 h2 h3 h4 h5 h6 =>
   exact .same hR (x:=goInt m) (by simp [execOp,ho,resolve,invoke,builtin,hz,Builtin.cap_,run_underlying hd,h5 rfl]) (by constructor)
  | fz0 _ _ _ cap h5=>exact .same hR (x:=goInt 0) (by simp [execOp,ho,resolve,invoke,builtin,hz,Builtin.cap_,run_underlying hd,h5 rfl]) (by constructor)
theorem XB (hR:R φ I h w) {x:Operand} {xt t:TypeId} (ho:o.op=.typeAssert x xt t true) {d:TypeDesc} {i:TypeInfo} {z:Value} {zc:AV} (hd:P.underlying t=some d) (hn:∀ ms,d≠.interface ms)
  (hi:P.info? t=some i) (hz:i.zero=some z) (hzc:Fi z=some zc) {u v:AV} (hv:(match u with | .ifc t' v=>some (if t'=t then AV.tup [v,.bool true] else .tup [zc,.bool false]) | .nilifc=>some (.tup [zc,.bool false]) | _=>none)=some v) (hx:VR φ I u (ρ x)):OpOk P ρ o bar φ I h w v h:=by
 have he:execOp ρ o=(do pure (Next.value (← Instr.typeAssert (ρ x) xt t true)):Sem Next):=by simp only [execOp,ho]
 have hz0:(zeroValue t).run P w=.ok z w:=by simp [zeroValue,typeInfo,hi,hz]
 have hpair:∀ (c:AV) (y:Value) (b:Bool),VR φ I c y→VR φ I (.tup [c,.bool b]) (.tuple #[y,.bool b]):=fun c y b hc=>by
  have:VRL φ I [c,.bool b] [y,.bool b]:=.cons hc (.cons (.bool b) .nil)
  exact .tup _ _ rfl (fun j c v h1 h2=>this.2 j c v h1 (by simpa using h2))
 generalize hzz:ρ x=q at hx
 cases hx<;>simp at hv
 ·rename_i t' c y hc
  by_cases ht:t'=t
  ·simp only [ht,if_true] at hv;subst hv;subst ht
   refine .of hR he (x:=.tuple #[y,.bool true]) ?_ (hpair c y true hc)
   rw [hzz];cases d<;>simp_all [Instr.typeAssert,run_underlying hd]
  ·simp only [ht,if_false] at hv;subst hv
   refine .of hR he (x:=.tuple #[z,.bool false]) ?_ (hpair zc z false (KL z zc hzc))
   rw [hzz];cases d<;>simp_all [Instr.typeAssert,run_underlying hd]
 ·subst hv
  refine .of hR he (x:=.tuple #[z,.bool false]) ?_ (hpair zc z false (KL z zc hzc))
  rw [hzz];cases d<;>simp_all [Instr.typeAssert,run_underlying hd]
end
end Go.Ev
namespace Go.Ev
open Go
section
variable {P:Program} {G:Glob} {φ:Phi} {I:Imm} {e:Env} {h:H} {w:World} {ρ:Operand→Value} {bar:Nat} {o:Oper}
theorem IU {v:AV} {x:Value} {n:Nat} (hx:VR φ I v x) (hb:BL v=some n):∃ k m,x=.int k m∧0≤m∧n=m.toNat:=by
 cases hx<;>simp [BL] at hb
 rename_i k m
 exact ⟨k,m,rfl,hb.1,hb.2.symm⟩
def Hn (φ:Phi) (I:Imm) (ρ:Operand→Value):Option AV→Option Operand→Prop
 | none,none=>True
 | some v,some x=>VR φ I v (ρ x)
 | _,_=>False
theorem FW {k:IntKind} {m:Int} {y:Nat} {code:BoundsCode} (h0:0≤m) (h1:m.toNat≤y):(Instr.sliceBound (.int k m) y code).run P w=.ok m.toNat w:=by
 have:m≤(y:Int):=by omega
 simp [Instr.sliceBound,asIntOf,h0,this]
theorem Wm {lo:Option Operand} {a:Option AV} {l u:Nat} {code:BoundsCode} (hl:Hn φ I ρ a lo) (ha:AY 0 a=some l) (h1:l≤u) :
  (lo=none∧l=0)∨(∃ x,lo=some x∧(Instr.sliceBound (ρ x) u code).run P w=.ok l w):=by
 cases lo with
 | none =>
  cases a with
  | none=>simp [AY] at ha;exact .inl ⟨rfl,ha.symm⟩
  | some v=>exact hl.elim
 | some x =>
  cases a with
  | none=>exact hl.elim
  | some v =>
   obtain ⟨k,m,hm,h0,rfl⟩:=IU hl ha
   exact .inr ⟨x,rfl,by rw [hm];exact FW h0 h1⟩
theorem Gz (isS:Bool) (len cap:Nat) {lo hi:Option Operand} {a b:Option AV} {l u:Nat} (hl:Hn φ I ρ a lo) (hu:Hn φ I ρ b hi) (ha:AY 0 a=some l) (hb:AY len b=some u)
  (h1:l≤u) (h2:u≤cap):(Instr.sliceBounds isS len cap (lo.map ρ) (hi.map ρ) none).run P w=.ok (l,u,cap) w:=by
 have hlo:=fun code=>Wm (P:=P) (w:=w) (code:=code) hl ha h1
 cases hi with
 | none =>
  cases b with
  | none =>
   simp [AY] at hb;subst hb
   rcases hlo .sliceB with ⟨rfl,rfl⟩ | ⟨x,rfl,h3⟩
   ·simp [Instr.sliceBounds]
   ·simp [Instr.sliceBounds,h3]
  | some v=>exact hu.elim
 | some x =>
  cases b with
  | none=>exact hu.elim
  | some v =>
   obtain ⟨k,m,hm,h0,rfl⟩:=IU hu hb
   have hc:∀ code,(Instr.sliceBound (.int k m) cap code).run P w=.ok m.toNat w:=fun code=>FW h0 h2
   rcases hlo .sliceB with ⟨rfl,rfl⟩ | ⟨x,rfl,h3⟩
   ·simp [Instr.sliceBounds,hm,hc]
   ·simp [Instr.sliceBounds,hm,hc,h3]
theorem Kj (isS:Bool) (len cap:Nat) {lo hi mx:Option Operand} {a b c:Option AV} {l u m:Nat} (hl:Hn φ I ρ a lo) (hu:Hn φ I ρ b hi) (hm:Hn φ I ρ c mx) (hb':b.isSome) (hc':c.isSome)
  (ha:AY 0 a=some l) (hb:AY len b=some u) (hc:AY cap c=some m)
  (h1:l≤u) (h2:u≤m) (h3:m≤cap):(Instr.sliceBounds isS len cap (lo.map ρ) (hi.map ρ) (mx.map ρ)).run P w=.ok (l,u,m) w:=by
 have hlo:=fun code=>Wm (P:=P) (w:=w) (code:=code) hl ha h1
 cases b with
 | none=>cases hb'
 | some bv =>
 cases c with
 | none=>cases hc'
 | some cv =>
 cases hi with
 | none=>exact hu.elim
 | some hi =>
 cases mx with
 | none=>exact hm.elim
 | some mx =>
 obtain ⟨k,n,hn,h0,rfl⟩:=IU hu hb
 obtain ⟨k',n',hn',h0',rfl⟩:=IU hm hc
 have hcc:∀ code,(Instr.sliceBound (.int k n) n'.toNat code).run P w=.ok n.toNat w:=fun code=>FW h0 h2
 have hcm:∀ code,(Instr.sliceBound (.int k' n') cap code).run P w=.ok n'.toNat w:=fun code=>FW h0' h3
 rcases hlo .slice3C with ⟨rfl,rfl⟩ | ⟨x,rfl,h3⟩
 ·simp [Instr.sliceBounds,hn,hn',hcc,hcm]
 ·simp [Instr.sliceBounds,hn,hn',hcc,hcm,h3]
theorem Ur {id off k len:Nat} {full:Bool} {x:Value} (hx:VR φ I (.sl id off k len full) x) :
  ∃ ad cap,x=.slice (some ad) len cap∧len≤cap∧(full=true→cap=len)∧∀ (l u m:Nat) (f:Bool),l≤u→u≤m→m≤cap→(f=true→m=u) →
   VR φ I (.sl id (off+l*k) k (u - l) f) (.slice (if m=l then some ad else some (ad.add (l*k))) (u - l) (m - l)):=by
 cases hx with
 | sl _ _ _ _ _ b o sz cap hφ h1 h2 h3 =>
  refine ⟨_,cap,rfl,h1,h3,fun l u m f hl hu hm hf=>?_⟩
  by_cases hml:m=l
  ·have:u=l:=by omega
   subst this;subst hml
   simp only [if_true,Nat.sub_self]
   exact .sl0 id _ k f _ _ hφ
  ·rw [if_neg hml,Dq,Nat.add_assoc]
   refine .sl id _ k _ f b o sz _ hφ (by omega) ?_ (fun h=>by have:=hf h;omega)
   have:(m - l)*k+l*k=m*k:=by rw [← Nat.add_mul];congr 1;omega
   have:m*k≤cap*k:=Nat.mul_le_mul_right k hm
   omega
 | sl0 _ _ _ _ a y hφ =>
  refine ⟨a,0,rfl,Nat.le_refl _,fun _=>rfl,fun l u m f hl hu hm hf=>?_⟩
  have e1:m=0:=by omega
  have e2:u=0:=by omega
  have e3:l=0:=by omega
  subst e1;subst e2;subst e3
  simp only [if_true,Nat.sub_self]
  exact .sl0 id _ k f _ _ hφ
theorem Uf {k len:Nat} {cs:List AV} {full:Bool} {x:Value} (hx:VR φ I (.fz k len cs full) x) (hlen:cs.length=len*k) :
  ∃ ad cap,x=.slice (some ad) len cap∧len≤cap∧(full=true→cap=len)∧∀ (l u m:Nat) (f:Bool),l≤u→u≤m→m≤cap→u≤len→(f=true→m=u) →
   VR φ I (.fz k (u - l) ((cs.drop (l*k)).take ((u - l)*k)) f) (.slice (if m=l then some ad else some (ad.add (l*k))) (u - l) (m - l)):=by
 cases hx with
 | fz _ _ _ _ b o cap vs h1 h2 h3 h4 h5 h6 =>
  refine ⟨_,cap,rfl,h4,h5,fun l u m f hl hu hm hul hf=>?_⟩
  by_cases hml:m=l
  ·have:u=l:=by omega
   subst this;subst hml
   simp only [if_true,Nat.sub_self,Nat.zero_mul,List.take_zero]
   exact .fz0 k f _ _ (fun _=>rfl)
  ·rw [if_neg hml,Dq]
   have hin:∀ i c,((cs.drop (l*k)).take ((u - l)*k))[i]? = some c→cs[l*k+i]? = some c:=fun i c hc=>by
    rw [List.getElem?_take] at hc
    split at hc
    ·rw [List.getElem?_drop] at hc;exact hc
    ·cases hc
   refine .fz k _ _ f b (o+l*k) _ (fun i=>vs (l*k+i)) (fun i c hc=>?_) (fun i c hc=>h2 _ c (hin i c hc)) (fun i c hc=>h3 _ c (hin i c hc)) (by omega) (fun h=>by have:=hf h;omega) ?_
   ·have:=h1 _ c (hin i c hc);rw [Nat.add_assoc];exact this
   ·have:(u - l)*k+l*k=u*k:=by rw [← Nat.add_mul];congr 1;omega
    have:u*k≤len*k:=Nat.mul_le_mul_right k hul
    simp;omega
 | fz0 _ _ a cap h5 =>
  refine ⟨a,cap,rfl,Nat.zero_le _,h5,fun l u m f hl hu hm hul hf=>?_⟩
  have e2:u=0:=by omega
  have e3:l=0:=by omega
  subst e2;subst e3
  simp only [Nat.zero_mul,List.drop_nil,List.take_nil,Nat.sub_self,Nat.sub_zero]
  have:(if m=0 then some a else some (a.add 0))=some a:=by split<;>simp [Addr.add]
  rw [this]
  exact .fz0 k f _ _ (fun h=>hf h)
theorem XA (hR:R φ I h w) {t:TypeId} {x:Operand} {lo hi mx:Option Operand} (ho:o.op=.slice t x lo hi mx) {e':TypeId} {ti:TypeInfo} (hd:P.underlying t=some (.slice e')) (hi':P.info? e'=some ti)
  {u v:AV} {a b c:Option AV} (hv:BI ti.size u a b c=some v) (hx:VR φ I u (ρ x)) (hl:Hn φ I ρ a lo) (hu:Hn φ I ρ b hi) (hm:Hn φ I ρ c mx):OpOk P ρ o bar φ I h w v h:=by
 have he:execOp ρ o=(do pure (Next.value (← Instr.sliceAt t (ρ x) (lo.map ρ) (hi.map ρ) (mx.map ρ))):Sem Next):=by simp only [execOp,ho]
 have hat:∀ ad len cap l u' m,(Instr.sliceBounds true len cap (lo.map ρ) (hi.map ρ) (mx.map ρ)).run P w=.ok (l,u',m) w→ρ x=.slice ad len cap →
   (Instr.sliceAt t (ρ x) (lo.map ρ) (hi.map ρ) (mx.map ρ)).run P w=.ok (.slice (if m=l then ad else ad.map (·.add (l*ti.size))) (u' - l) (m - l)) w:=fun ad len cap l u' m hb hρ=>by
  simp only [Instr.sliceAt,Instr.slice,hρ,Sem.run_bind,run_underlying hd,Result.andThen_ok,hb,sizeOf,typeInfo]
  simp [hi']
 unfold BI at hv
 split at hv
 ·
  split at hv
  ·rename_i h1 h2 h3
   split at hv
   ·cases hv
   ·rename_i hhi
    cases hv
    generalize hz:ρ x=z at hx
    cases hx
    refine .of hR he (x:=.slice none 0 0) ?_ .nilsl
    rw [← hz]
    cases hc:c with
    | none =>
     subst hc
     cases mx with
     | some _=>exact hm.elim
     | none=>rw [hat none 0 0 0 0 0 (Gz true 0 0 hl hu h1 h2 (Nat.le_refl _) (Nat.le_refl _)) hz];simp [hz]
    | some cv =>
     subst hc
     cases hb:b with
     | none=>subst hb;simp at hhi
     | some bv =>
      subst hb
      rw [hat none 0 0 0 0 0 (Kj true 0 0 hl hu hm rfl rfl h1 h2 h3 (Nat.le_refl _) (Nat.le_refl _) (Nat.le_refl _)) hz];simp [hz]
  ·cases hv
 ·rename_i id off k' len full
  obtain ⟨ad,cap,hρ,hlc,hfull,hpart⟩:=Ur hx
  split at hv
  ·rename_i l u' h1 h2
   split at hv
   ·rename_i hcond
    cases hv
    obtain ⟨hk,hlu,hul⟩:=hcond
    subst hk
    cases mx with
    | some _=>exact hm.elim
    | none =>
     refine .of hR he (hat (some ad) len cap l u' cap (Gz true len cap hl hu h1 h2 hlu (by omega)) hρ) ?_
     exact hpart l u' cap _ hlu (by omega) (Nat.le_refl _) (fun hf=>by simp at hf;rw [hfull hf.1,hf.2])
   ·cases hv
  ·rename_i l u' mv h1 h2
   split at hv
   ·rename_i m bv hm'
    split at hv
    ·rename_i hcond
     cases hv
     obtain ⟨hk,hlu,hum,hml⟩:=hcond
     subst hk
     refine .of hR he (hat (some ad) len cap l u' m (Kj true len cap hl hu hm rfl rfl h1 h2 (by simpa [AY] using hm') hlu hum (by omega)) hρ) ?_
     exact hpart l u' m _ hlu hum (by omega) (fun hf=>by simp at hf;omega)
    ·cases hv
   ·cases hv
  ·cases hv
 ·rename_i k' len cs full
  split at hv
  ·rename_i l u' h1 h2
   split at hv
   ·rename_i hcond
    cases hv
    obtain ⟨hk,hlen,hlu,hul⟩:=hcond
    subst hk
    obtain ⟨ad,cap,hρ,hlc,hfull,hpart⟩:=Uf hx hlen
    cases mx with
    | some _=>exact hm.elim
    | none =>
     refine .of hR he (hat (some ad) len cap l u' cap (Gz true len cap hl hu h1 h2 hlu (by omega)) hρ) ?_
     exact hpart l u' cap _ hlu (by omega) (Nat.le_refl _) hul (fun hf=>by simp at hf;rw [hfull hf.1,hf.2])
   ·cases hv
  ·rename_i l u' mv h1 h2
   split at hv
   ·rename_i m bv hm'
    split at hv
    ·rename_i hcond
     cases hv
     obtain ⟨hk,hlen,hlu,hum,hml⟩:=hcond
     subst hk
     obtain ⟨ad,cap,hρ,hlc,hfull,hpart⟩:=Uf hx hlen
     refine .of hR he (hat (some ad) len cap l u' m (Kj true len cap hl hu hm rfl rfl h1 h2 (by simpa [AY] using hm') hlu hum (by omega)) hρ) ?_
     exact hpart l u' m _ hlu hum (by omega) (by omega) (fun hf=>by simp at hf;omega)
    ·cases hv
   ·cases hv
  ·cases hv
 ·cases hv
theorem VZ (hR:R φ I h w) {t:TypeId} {x:Operand} {lo hi:Option Operand} (ho:o.op=.slice t x lo hi none) (hd:P.underlying t=some .string)
  {s:ByteArray} {v:AV} {a b:Option AV} (hv:BY s a b=some v) (hx:VR φ I (.str s) (ρ x)) (hl:Hn φ I ρ a lo) (hu:Hn φ I ρ b hi):OpOk P ρ o bar φ I h w v h:=by
 have he:execOp ρ o=(do pure (Next.value (← Instr.sliceAt t (ρ x) (lo.map ρ) (hi.map ρ) none)):Sem Next):=by simp only [execOp,ho];rfl
 generalize hz:ρ x=z at hx
 cases hx
 unfold BY at hv
 split at hv
 ·rename_i l u' h1 h2
  split at hv
  ·rename_i hcond
   cases hv
   refine .of hR he ?_ (by constructor)
   have hb:=Gz (P:=P) (w:=w) false s.size s.size hl hu h1 h2 hcond.1 hcond.2
   simp only [Instr.sliceAt,Instr.slice,hz,Sem.run_bind,run_underlying hd,Result.andThen_ok]
   simp only [Option.isSome_none,Bool.false_eq_true,if_false,hb,Sem.run_bind,Sem.run_pure,Result.andThen_ok]
  ·cases hv
 ·cases hv
theorem YQ (hR:R φ I h w) {t:TypeId} {x:Operand} {lo hi:Option Operand} (ho:o.op=.slice t x lo hi none) {n:Nat} {e':TypeId} {ti:TypeInfo} (hd:P.underlying t=some (.array n e')) (hi':P.info? e'=some ti)
  {id off l u:Nat} {a b:Option AV} {cs:List AV} {p:Nat} (hx:VR φ I (.ptr id off) (ρ x)) (hl:Hn φ I ρ a lo) (hu:Hn φ I ρ b hi) (h1:AY 0 a=some l) (h2:AY n b=some u)
  (hg:h.get id=some (.cells cs p)) (hlu:l≤u) (hun:u≤n) (hsz:off+n*ti.size≤cs.length):OpOk P ρ o bar φ I h w (.sl id (off+l*ti.size) ti.size (u - l) (decide (u=n))) h:=by
 have he:execOp ρ o=(do pure (Next.value (← Instr.sliceAt t (ρ x) (lo.map ρ) (hi.map ρ) none)):Sem Next):=by simp only [execOp,ho];rfl
 obtain ⟨b',o',rc,el,fr,g1,g2,g3,g4,g5,g6⟩:=hR.obj id _ hg
 generalize hz:ρ x=z at hx
 cases hx with
 | ptr _ _ b0 q sz hφ =>
  rw [g1] at hφ;cases hφ
  have hb:=Gz (P:=P) (w:=w) false n n hl hu h1 h2 hlu hun
  refine .of hR he (x:=.slice (some (if n=l then ⟨b',o'+off,none⟩ else ⟨b',o'+off+l*ti.size,none⟩)) (u - l) (n - l)) ?_ ?_
  ·simp [Instr.sliceAt,hz,run_underlying hd,Instr.sureAddr,sizeOf,typeInfo,hi']
   rw [hb];simp [Dq]
  ·have hpart:=Ur (full:=true) (id:=id) (off:=off) (k:=ti.size) (len:=n) (φ:=φ) (I:=I) (x:=.slice (some ⟨b',o'+off,none⟩) n n) (.sl id off ti.size n true b' o' rc.size n g1 (Nat.le_refl _) (by omega) (fun _=>rfl))
   obtain ⟨ad,cap,hρ,hlc,hfull,hpart⟩:=hpart
   cases hρ
   have:=hpart l u n (decide (u=n)) hlu hun (Nat.le_refl _) (fun hf=>by simp at hf;omega)
   rw [Dq] at this
   split at this<;>rename_i hh
   ·rw [if_pos hh];exact this
   ·rw [if_neg hh];exact this
theorem PA {c d : AV} {x y : Value} {t : Bool} {k : Nat} {ty : TypeId} (hk : Pr P ty = some k) (hx : VR φ I c x) (hy : VR φ I d y) (hs : MU k c d = some t) (n : Nat) :
    (Op.equalIn (n + 1) ty x y).run P w = .ok t w := by
  unfold Pr at hk
  split at hk
  · rename_i hd
    cases hk
    unfold MU at hs
    split at hs <;> first
      | (rename_i e1 e2; cases e1; done)
      | skip
    all_goals first
      | (cases hx; cases hy
         split at hs
         · rename_i hkk; subst hkk; cases hs; exact run_equalIn_int w n ty _ _ _ _ hd
         · cases hs)
      | (rename_i hh; cases hh; done)
      | cases hs
  · rename_i hd
    cases hk
    unfold MU at hs
    split at hs <;> first
      | (cases hx; cases hy; cases hs; exact run_equalIn_bool' w n ty _ _ hd)
      | (rename_i hh; cases hh; done)
      | cases hs
  · rename_i hd
    cases hk
    unfold MU at hs
    split at hs <;> first
      | (cases hx; cases hy; cases hs; exact run_equalIn_string w n ty _ _ hd)
      | (rename_i hh; cases hh; done)
      | cases hs
  · cases hk
theorem UJ {ty:TypeId} {k:Nat} (hk:Pr P ty=some k):∃ d,P.underlying ty=some d∧FX d=false:=by
 unfold Pr at hk
 split at hk<;>first | exact ⟨_,by assumption,rfl⟩ | cases hk
theorem Ku (n:Nat) {cs ds:List AV} {xs ys:Array Value} (h1:cs.length=xs.size) (h2:∀ (i:Nat) (c:AV) (v:Value),cs[i]? = some c→xs[i]? = some v→VR φ I c v)
  (h3:ds.length=ys.size) (h4:∀ (i:Nat) (c:AV) (v:Value),ds[i]? = some c→ys[i]? = some v→VR φ I c v):∀ (fs:List Field) (j:Nat) (ks:List Nat) (t:Bool),Ib P j fs=some ks →
  Dy ks (cs.drop j) (ds.drop j)=some t→(Op.eqFields (n+1) xs ys fs).run P w=.ok t w
 | [],j,ks,t,hk,hs=>by
  simp only [Ib,Option.some.injEq] at hk;subst hk
  simp only [Dy,Option.some.injEq] at hs;subst hs
  simp [Op.eqFields]
 | f::fs,j,ks,t,hk,hs=>by
  simp only [Ib] at hk
  split at hk
  ·rename_i k ks' hk1 hk2
   split at hk
   ·rename_i hf
    cases hk
    obtain ⟨hname,hoff⟩:=hf
    cases hcj:cs.drop j with
    | nil=>rw [hcj] at hs;simp [Dy] at hs
    | cons c cr =>
     cases hdj:ds.drop j with
     | nil=>rw [hcj,hdj] at hs;simp [Dy] at hs
     | cons d dr =>
      rw [hcj,hdj] at hs
      have hc:cs[j]? = some c:=by have:=List.getElem?_drop (xs:=cs) (i:=j) (j:=0);rw [hcj] at this;simpa using this.symm
      have hd:ds[j]? = some d:=by have:=List.getElem?_drop (xs:=ds) (i:=j) (j:=0);rw [hdj] at this;simpa using this.symm
      have hcr:cs.drop (j+1)=cr:=by rw [← List.drop_drop,Nat.add_comm] at *;have:=congrArg (List.drop 1) hcj;simpa using this
      have hdr:ds.drop (j+1)=dr:=by have:=congrArg (List.drop 1) hdj;simpa [List.drop_drop] using this
      obtain ⟨dd,hdd,hagg⟩:=UJ hk1
      have hjx:j<xs.size:=h1 ▸ (List.getElem?_eq_some_iff.1 hc).1
      have hjy:j<ys.size:=h3 ▸ (List.getElem?_eq_some_iff.1 hd).1
      have hpx:(part f.type xs f.offset).run P w=.ok xs[j] w:=by
       subst hoff
       cases dd<;>simp [FX] at hagg<;>simp [part,isAgg,run_underlying hdd,Array.getElem?_eq_getElem hjx]
      have hpy:(part f.type ys f.offset).run P w=.ok ys[j] w:=by
       subst hoff
       cases dd<;>simp [FX] at hagg<;>simp [part,isAgg,run_underlying hdd,Array.getElem?_eq_getElem hjy]
      have hvx:=h2 j c _ hc (Array.getElem?_eq_getElem hjx)
      have hvy:=h4 j d _ hd (Array.getElem?_eq_getElem hjy)
      simp only [Dy] at hs
      have hgo:∀ b,(Op.equalIn (n+1) f.type xs[j] ys[j]).run P w=.ok b w→(if (!b)=true then (pure false:Sem Bool) else Op.eqFields (n+1) xs ys fs).run P w=.ok t w →
        (Op.eqFields (n+1) xs ys (f::fs)).run P w=.ok t w:=fun b hb hb'=>by
       simp only [Op.eqFields,if_pos hname,Sem.run_bind,hpx,hpy,hb,Result.andThen_ok]
       exact hb'
      split at hs
      ·rename_i hsc
       exact hgo true (PA hk1 hvx hvy hsc n) (by simpa using Ku n h1 h2 h3 h4 fs (j+1) ks' t hk2 (by rw [hcr,hdr];exact hs))
      ·rename_i hsc
       cases hs
       exact hgo false (PA hk1 hvx hvy hsc n) (by simp)
      ·cases hs
   ·cases hk
  ·cases hk
theorem bl (hR:R φ I h w) {op:BinOp} {xt yt:TypeId} {x y:Operand} (ho:o.op=.binOp op xt x y yt) {d:TypeDesc} (hd:P.underlying xt=some d) {ks:List Nat} (hk:Qq P d=some ks)
  (hg:P.eqGuardType P.depth xt=false) (hst:P.stoodInHeld xt=false) {neg:Bool} (hop:op=if neg then .neq else .eql) {cs ds:List AV} {t:Bool} (hx:VR φ I (.agg cs) (ρ x)) (hy:VR φ I (.agg ds) (ρ y))
  (hs:Dy ks cs ds=some t):OpOk P ρ o bar φ I h w (.bool (if neg then !t else t)) h:=by
 cases d<;>simp only [Qq] at hk<;>try (cases hk;done)
 rename_i fs
 have hfs:P.fieldsOf xt=fs:=by simp [Program.fieldsOf,hd]
 generalize h1:ρ x=u at hx
 generalize h2:ρ y=v at hy
 cases hx with
 | agg _ xs g1 g2 =>
 cases hy with
 | agg _ ys g3 g4 =>
 have he:execOp ρ o=(do pure (Next.value (← (do eqGuard op xt x y (.agg xs) (.agg ys);binOp op xt (.agg xs) (.agg ys)))):Sem Next):=by simp only [execOp,ho,h1,h2]
 have hr:(Op.equalIn 10000 xt (.agg xs) (.agg ys)).run P w=.ok t w:=by
  rw [run_equalIn_struct w 9999 xt xs ys (by rw [hfs];exact hd) hst,hfs]
  exact Ku 9998 g1 g2 g3 g4 fs.toList 0 ks t hk (by simpa using hs)
 refine .of hR he ?_ (by constructor)
 simp only [Sem.run_bind,run_eqGuard_agg w op xt x y xs ys hg,Result.andThen_ok]
 subst hop
 cases neg
 ·simp only [Bool.false_eq_true,if_false,run_eql_struct,hr,Result.andThen_ok]
 ·simp only [if_true,run_neq_struct,hr,Result.andThen_ok]
end
end Go.Ev
namespace Go.Ev
open Go
theorem Ip {cs vs:List AV} {off:Nat} (h:off+vs.length≤cs.length):(AL cs off vs).length=cs.length:=by
 simp [AL];omega
theorem QS {cs vs:List AV} {off:Nat} (h:off+vs.length≤cs.length) (j:Nat):(AL cs off vs)[j]? = if off≤j∧j<off+vs.length then vs[j - off]? else cs[j]?:=by
 unfold AL
 by_cases h1:j<off
 ·rw [if_neg (by omega),List.getElem?_append_left (by simp;omega),List.getElem?_append_left (by simp;omega),List.getElem?_take,if_pos h1]
 ·by_cases h2:j<off+vs.length
  ·rw [if_pos ⟨by omega,h2⟩,List.getElem?_append_left (by simp;omega),List.getElem?_append_right (by simp;omega)]
   congr 1;simp;omega
  ·rw [if_neg (by omega),List.getElem?_append_right (by simp;omega),List.getElem?_drop]
   congr 1;simp;omega
section
variable {P:Program} {G:Glob} {φ:Phi} {I:Imm} {e:Env} {h:H} {w:World} {ρ:Operand→Value} {bar:Nat} {o:Oper}
theorem VRL.spl {cs vs:List AV} {rc:Array Value} {xs:List Value} {off:Nat} (h:VRL φ I cs rc.toList) (h':VRL φ I vs xs) (hoff:off+vs.length≤cs.length):VRL φ I (AL cs off vs) (Gt rc off xs).toList:=by
 have hl:cs.length=rc.size:=by simpa using h.1
 have hl':=h'.1
 refine ⟨by rw [Ip hoff];simp [Ge,hl],fun j c v h1 h2=>?_⟩
 rw [QS hoff] at h1
 rw [Array.getElem?_toList,Jk] at h2
 split at h1
 ·rename_i hj
  rw [if_pos ⟨hj.1,by omega,by omega⟩] at h2
  exact h'.2 _ c v h1 h2
 ·rename_i hj
  rw [if_neg (by omega)] at h2
  exact h.2 j c v h1 (by simpa using h2)
theorem Pn (off:Nat):∀ (l:List Value) (k:Nat) (cells:Array Value),(l.zipIdx k).foldl (fun cs (x:Value × Nat)=>cs.setIfInBounds (off+x.2) x.1) cells=Gt cells (off+k) l
 | [],k,cells=>rfl
 | v::l,k,cells=>by
  simp only [List.zipIdx_cons,List.foldl_cons,Gt]
  rw [Pn off l (k+1)];rfl
theorem Lt {place:Nat→Option (Nat × Nat)}:∀ (ps:List (Nat × Operand)) (qs:List (Nat × Nat × Opd)) (vs:List (Nat × Nat × AV)) (z cs:List AV) (zr:Array Value),
  Eb G place ps=some qs→AX e qs=some vs→Af z vs=some cs→(∀ x v y,Ac G x=some y→y.ev e=some v→VR φ I v (ρ x))→VRL φ I z zr.toList →
  ∃ cr,Instr.fill place zr (ps.map fun x=>(x.1,ρ x.2))=some cr∧VRL φ I cs cr.toList∧(z.all AV.one=true→cs.all AV.one=true)∧cs.length=z.length
 | [],qs,vs,z,cs,zr,h1,h2,h3,hx,hz=>by
  simp only [Eb,Option.some.injEq] at h1;subst h1
  simp only [AX,Option.some.injEq] at h2;subst h2
  simp only [Af,Option.some.injEq] at h3;subst h3
  exact ⟨zr,rfl,hz,fun h=>h,rfl⟩
 | (i,x)::ps,qs,vs,z,cs,zr,h1,h2,h3,hx,hz=>by
  simp only [Eb] at h1
  split at h1
  ·rename_i off n y l hp hy hl
   cases h1
   simp only [AX] at h2
   split at h2
   ·rename_i v vs' hv hvs
    cases h2
    simp only [Af] at h3
    split at h3
    ·rename_i hc
     obtain ⟨c1,c2,c3⟩:=hc
     have hvx:=(hx x v y hy hv).cells
     have hlen:(ρ x).cells.size=v.cells.length:=by have:=hvx.1;simp at this;exact this.symm
     have hzl:z.length=zr.size:=by simpa using hz.1
     have hspl:((ρ x).cells.zipIdx.foldl (fun cs (y:Value × Nat)=>cs.setIfInBounds (off+y.2) y.1) zr)=Gt zr off (ρ x).cells.toList:=by
      rw [← Array.foldl_toList,Array.toList_zipIdx,Pn];rfl
     obtain ⟨cr,e1,e2,e3,e4⟩:=Lt ps l vs' (AL z off v.cells) cs (Gt zr off (ρ x).cells.toList) hl hvs h3 hx (hz.spl hvx (by omega))
     refine ⟨cr,?_,e2,fun ho=>e3 ?_,by rw [e4,Ip (by omega)]⟩
     ·simp only [List.map_cons,Instr.fill,hp]
      have:(decide ((ρ x).cells.size≠n)||decide (off+(ρ x).cells.size > zr.size))=false:=by simp;omega
      rw [if_neg (by rw [this];simp)]
      rw [hspl];exact e1
     ·simp only [AL,List.all_append,Bool.and_eq_true]
      simp only [List.all_eq_true] at ho c3 ⊢
      exact ⟨⟨fun a ha=>ho a (List.mem_of_mem_take ha),c3⟩,fun a ha=>ho a (List.mem_of_mem_drop ha)⟩
    ·cases h3
   ·cases h2
  ·cases h1
theorem IP {cs:List AV} (h:cs.all AV.one=true) {j:Nat} {c:AV} (hc:cs[j]? = some c):c.one=true:=by
 simp only [List.all_eq_true] at h
 exact h c (List.mem_of_getElem? hc)
theorem OpOk.new {s:Sem Value} {v:AV} {cs:List AV} {rc:Array Value} {el:TypeId} {p:Nat} (hR:R φ I h w) (hbar:bar≤h.n) (he:execOp ρ o=(do pure (Next.value (← s)):Sem Next)) (f:Nat→Value)
  (w1:World) (hw1:w1.heap=w.heap) (e1:w1.os=w.os) (e2:w1.output=w.output)
  (hr:s.run P w=.ok (f w.heap.size) (w1.alloc (.cells rc el))) (hsz:cs.length≤rc.size) (hcs:∀ (j:Nat) (c:AV),cs[j]? = some c→c.one=true∧∃ v,rc[j]? = some v∧VR φ I c v)
  (hv:∀ φ',φ.le φ'→φ' h.n=some (w.heap.size,0,rc.size)→VR φ' I v (f w.heap.size)):OpOk P ρ o bar φ I h w v (h.alloc (.cells cs p)):=by
 obtain ⟨φ',g1,g2,g3⟩:=hR.alloc bar hbar rc el cs p hsz hcs (w1.alloc (.cells rc el)) (by simp [World.alloc,hw1]) e1 e2
 exact ⟨f w.heap.size,_,φ',I,.inl (by rw [he];simp [hr]),g2,hv φ' g3.phi g1,g3⟩
theorem YN (hR:R φ I h w) (hbar:bar≤h.n) {t:TypeId} (ho:o.op=.alloc t) {i:TypeInfo} {z:Value} {zc:List AV} (hi:P.info? t=some i) (hz:i.zero=some z) (hzc:Gr z.cells.toList=some zc)
  (hone:zc.all AV.one=true):OpOk P ρ o bar φ I h w (.ptr h.n 0) (h.alloc (.cells zc 0)):=by
 have he:execOp ρ o=(do pure (Next.value (← Instr.alloc t true (.tuple #[]))):Sem Next):=by simp only [execOp,ho]
 have hvl:=FN (φ:=φ) (I:=I) _ _ hzc
 refine .new hR hbar he (fun b=>.pointer (some ⟨b,0,none⟩)) w rfl rfl rfl (rc:=z.cells) (el:=t) ?_ (by simpa using Nat.le_of_eq hvl.1) (fun j c hc=>?_) (fun φ' _ hφ=>?_)
 ·simp [Instr.alloc,zeroValue,typeInfo,hi,hz,newVar,newRow]
 ·obtain ⟨v,h1,h2⟩:=hvl.get hc
  exact ⟨IP hone hc,v,by simpa using h1,h2⟩
 ·simpa using VR.ptr (φ:=φ') (I:=I) h.n 0 _ 0 _ hφ
theorem bg (hR:R φ I h w) (hbar:bar≤h.n) {t:TypeId} {x:Operand} (ho:o.op=.box t x) {v:AV} (hx:VR φ I v (ρ x)) (hone:v.cells.all AV.one=true) :
  OpOk P ρ o bar φ I h w (.ptr h.n 0) (h.alloc (.cells v.cells 0)):=by
 have he:execOp ρ o=(do pure (Next.value (← Instr.box t (ρ x))):Sem Next):=by simp only [execOp,ho]
 have hvl:=hx.cells
 refine .new hR hbar he (fun b=>.pointer (some ⟨b,0,none⟩)) w rfl rfl rfl (rc:=(ρ x).cells) (el:=t) ?_ (by simpa using Nat.le_of_eq hvl.1) (fun j c hc=>?_) (fun φ' _ hφ=>?_)
 ·simp [Instr.box,newVar,newRow]
 ·obtain ⟨v,h1,h2⟩:=hvl.get hc
  exact ⟨IP hone hc,v,by simpa using h1,h2⟩
 ·simpa using VR.ptr (φ:=φ') (I:=I) h.n 0 _ 0 _ hφ
theorem R.write (hR:R φ I h w) {id off p b q:Nat} {s:Nat} {cs vs:List AV} {xs:List Value} (hg:h.get id=some (.cells cs p)) (hφ:φ id=some (b,q,s)) (hle:off+vs.length≤cs.length) (hp:p≤off)
  (hone:vs.all AV.one=true) (hvs:VRL φ I vs xs) (hbar:bar≤id) :
  ∃ w',(storeCells ⟨b,q+off,none⟩ xs).run P w=.ok () w'∧R φ I (h.set id (.cells (AL cs off vs) p)) w'∧Stp bar φ I h w φ I (h.set id (.cells (AL cs off vs) p)) w':=by
 obtain ⟨b',q',rc,el,fr,g1,g2,g3,g4,g5,g6⟩:=hR.obj id _ hg
 rw [hφ] at g1;cases g1
 have hl:=hvs.1
 obtain ⟨w',e1,e2,e3,e4,e5,e6,_,_⟩:=LR (P:=P) b (q+off) el fr xs 0 w rc g2 (by omega) (fun j h1 h2=>g5 j (by omega) (by omega)) (fun v hv=>by
  obtain ⟨j,hj⟩:=List.mem_iff_getElem?.1 hv
  have hlt:j<vs.length:=hl ▸ (List.getElem?_eq_some_iff.1 hj).1
  exact (hvs.2 j _ v (List.getElem?_eq_getElem hlt) hj).one (IP hone (List.getElem?_eq_getElem hlt)))
 have hget:∀ j x,(h.set id (.cells (AL cs off vs) p)).get j=some x→(j=id∧x=.cells (AL cs off vs) p)∨(j≠id∧h.get j=some x):=fun j x hx=>by
  simp only [H.set] at hx
  by_cases hj:j=id
  ·simp only [hj,if_true,Option.some.injEq] at hx;exact .inl ⟨hj,hx.symm⟩
  ·simp only [hj,if_false] at hx;exact .inr ⟨hj,hx⟩
 have hn:∀ j,h.n≤j→j≠id:=fun j hj hji=>by subst hji;rw [hR.wf j hj] at hg;cases hg
 refine ⟨w',e1,hR.put id b q (Gt rc (q+off) xs) el fr (AL cs off vs) p (.refl _) (by rw [Ge];exact hφ) (fun j hj=>hR.dom j hj) ?_ hget ?_ e3 (by simpa using e2) ?_ ?_ ?_ ?_,?_⟩
 ·intro j hj
  simp only [H.set,hn j hj,if_false]
  exact hR.wf j hj
 ·intro j x y hj hx hy hyb
  rcases hget j x hx with ⟨h1,_⟩ | ⟨_,h2⟩
  ·exact hj h1
  ·obtain ⟨y1,y2,y3⟩:=y
   simp only at hyb;subst hyb
   exact hj (hR.inj j id x _ _ _ _ _ _ h2 hg hy hφ)
 ·rw [Ip hle,Ge];exact g3
 ·intro j c hc
  rw [QS hle] at hc
  rw [Jk]
  split at hc
  ·rename_i hj
   obtain ⟨v,h1,h2⟩:=hvs.get hc
   refine ⟨IP hone hc,v,?_,h2⟩
   rw [if_pos ⟨by omega,by omega,by omega⟩,← h1]
   congr 1;omega
  ·rename_i hj
   obtain ⟨h1,v,h2,h3⟩:=g4 j c hc
   exact ⟨h1,v,by rw [if_neg (by omega)];exact h2,h3⟩
 ·intro j h1 h2
  exact g5 j h1 (by rw [Ge] at h2;exact h2)
 ·intro j v hv
  have h1:=g6 j v hv
  refine ⟨h1,?_⟩
  rw [Jk,if_neg (by omega)]
  have:=hR.imm b j v hv
  rw [Gg g2] at this;exact this
 ·refine ⟨.refl _,.refl _,by omega,fun k hk hf=>e3 k (fun hkb=>?_),fun i x hi hl hx=>?_,fun i hi=>?_,Nat.le_refl _,e5,e6,fun _ _ _ hv=>.inl hv⟩
  ·exact hf id hbar (by rw [hg];simp) _ hφ hkb.symm
  ·refine .inr ⟨i,x,hi,?_,hx,rfl⟩
   simp only [H.set] at hl
   split at hl
   ·rename_i hii;subst hii;rw [hg];simp
   ·exact hl
  ·have:i≠id:=by omega
   simp [H.set,this]
theorem dP (hR:R φ I h w) {t:TypeId} {x y:Operand} (ho:o.op=.store t x y) {i:TypeInfo} (hi:P.info? t=some i) {id off:Nat} {v:AV} {h':H} (hx:VR φ I (.ptr id off) (ρ x)) (hy:VR φ I v (ρ y))
  (hn:v.cells.length=i.size) (hw:Hk bar h id off v.cells=some h'):OpOk P ρ o bar φ I h w .undef h':=by
 have he:execOp ρ o=(do Instr.storeAt t (ρ x) (ρ y);pure Next.skip:Sem Next):=by simp only [execOp,ho]
 unfold Hk at hw
 split at hw
 ·rename_i cs p hg
  split at hw
  ·rename_i hc
   cases hw
   obtain ⟨h1,h2,h3,h4⟩:=hc
   generalize hz:ρ x=z at hx
   cases hx with
   | ptr _ _ b q s hφ =>
    have hvc:=hy.cells
    obtain ⟨w',e1,e2,e3⟩:=hR.write (P:=P) (bar:=bar) hg hφ h2 h3 h4 hvc h1
    refine ⟨Go.undef,w',φ,I,.inr ⟨?_,rfl⟩,e2,.undef,e3⟩
    rw [he]
    have hs:(ρ y).cells.size=i.size:=by have:=hvc.1;simp at this;omega
    simp [Instr.storeAt,hz,Instr.sureAddr,storeVar,sizeOf,typeInfo,hi,hs,e1]
  ·cases hw
 ·cases hw
end
end Go.Ev
namespace Go.Ev
open Go
section
variable {P:Program} {G:Glob} {φ:Phi} {I:Imm} {e:Env} {h:H} {w:World} {ρ:Operand→Value} {bar:Nat} {o:Oper}
theorem RJ {n:Int} (h0:0≤n) (h1:n≤9223372036854775807):IntKind.i64.wrap n=n:=by
 have e:(n % (2 ^ IntKind.i64.bits:Int))=n:=by
  show n % (2 ^ 64:Int)=n
  exact Int.emod_eq_of_lt h0 (by omega)
 have hc:¬ ((IntKind.i64.signed&&decide ((n % (2 ^ IntKind.i64.bits:Int)) ≥ (2 ^ (IntKind.i64.bits - 1):Int)))=true):=by
  rw [e]
  have:¬ (n ≥ (2 ^ (IntKind.i64.bits - 1):Int)):=by
   show ¬ (n ≥ (2 ^ 63:Int));omega
  simp [this]
 unfold IntKind.wrap
 simp only
 rw [if_neg hc,e]
theorem IA (z:List AV):∀ n,(rep z n).length=n*z.length
 | 0=>by simp [rep]
 | n+1=>by simp [rep,IA z n,Nat.add_mul,Nat.add_comm]
def Gc (z:List Value):Nat→List Value
 | 0=>[]
 | n+1=>z++Gc z n
theorem VRL.rep {z:List AV} {zv:List Value} (hz:VRL φ I z zv):∀ n,VRL φ I (rep z n) (Gc zv n)
 | 0=>.nil
 | n+1=>hz.append (VRL.rep hz n)
theorem Oe {z:List AV} (hz:z.all AV.one=true):∀ n,(rep z n).all AV.one=true
 | 0=>rfl
 | n+1=>by simp only [Ev.rep,List.all_append,hz,Oe hz n,Bool.and_self]
theorem MS (z:List Value):∀ (n i:Nat),i<n*z.length→(Gc z n)[i]? = z[i % z.length]?
 | 0,i,h=>by omega
 | n+1,i,h=>by
  simp only [Gc]
  by_cases hi:i<z.length
  ·rw [List.getElem?_append_left hi,Nat.mod_eq_of_lt hi]
  ·rw [List.getElem?_append_right (by omega),MS z n (i - z.length) (by rw [Nat.succ_mul] at h;omega)]
   congr 1
   exact (Nat.mod_eq_sub_mod (by omega)).symm
theorem Kh (z:List Value):∀ n,(Gc z n).length=n*z.length
 | 0=>by simp [Gc]
 | n+1=>by simp [Gc,Kh z n,Nat.add_mul,Nat.add_comm]
theorem PZ (zc:Array Value) (n:Nat):((Array.range (n*zc.size)).map (zc[· % zc.size]!)).toList=Gc zc.toList n:=by
 apply List.ext_getElem?
 intro i
 by_cases hi:i<n*zc.size
 ·have hpos:0<zc.size:=by
   rcases Nat.eq_zero_or_pos zc.size with h0 | h0
   ·rw [h0] at hi;omega
   ·exact h0
  have hm:i % zc.size<zc.size:=Nat.mod_lt _ hpos
  rw [MS _ _ _ (by simpa using hi)]
  simp [hi,getElem!_pos zc (i % zc.size) hm,Array.getElem?_eq_getElem hm]
 ·have h1:(Gc zc.toList n).length≤i:=by rw [Kh];simpa using Nat.le_of_not_lt hi
  rw [List.getElem?_eq_none h1]
  simp [hi]
theorem YO (hR:R φ I h w) {t:TypeId} {ps:Array (Nat × Operand)} (ho:o.op=.build t ps) {i:TypeInfo} {z:Value} {zc:List AV} (hi:P.info? t=some i) (hz:i.zero=some z)
  (hzc:Gr z.cells.toList=some zc) {place:Nat→Option (Nat × Nat)} {qs:List (Nat × Nat × Opd)} {vs:List (Nat × Nat × AV)} {cs:List AV}
  (hpl:(∃ fs,P.underlying t=some (.struct fs)∧place=XW P fs∧fs.toList.all (fun f=>(P.info? f.type).isSome)=true)∨(∃ n e' j,P.underlying t=some (.array n e')∧P.info? e'=some j∧place=fun k=>some (k*j.size,j.size)))
  (h1:Eb G place ps.toList=some qs) (h2:AX e qs=some vs) (h3:Af zc vs=some cs) (hx:∀ x v y,Ac G x=some y→y.ev e=some v→VR φ I v (ρ x)) :
  OpOk P ρ o bar φ I h w (.agg cs) h:=by
 have he:execOp ρ o=(do pure (Next.value (← Instr.build t (ps.map fun (i,x)=>(i,ρ x)))):Sem Next):=by simp only [execOp,ho]
 obtain ⟨cr,e1,e2,_,_⟩:=Lt ps.toList qs vs zc cs z.cells h1 h2 h3 hx (FN _ _ hzc)
 refine .of hR he (x:=.agg cr) ?_ (.agg cs cr (by simpa using e2.1) (fun j c v h1 h2=>e2.2 j c v h1 (by simpa using h2)))
 apply run_build
 have hl:(ps.map fun (i,x)=>(i,ρ x)).toList=ps.toList.map fun x=>(x.1,ρ x.2):=by simp
 rw [hl]
 rcases hpl with ⟨fs,hd,rfl,hall⟩ | ⟨n,e',j,hd,hj,rfl⟩
 ·have hmap:∀ l:List Field,l.all (fun f=>(P.info? f.type).isSome)=true→∃ q,l.mapM (fun f=>(P.info? f.type).map fun i=>(f.offset,i.size))=some q ∧
    ∀ k:Nat,q[k]? = (l[k]?).bind fun (f:Field)=>(P.info? f.type).map fun i=>(f.offset,i.size):=by
   intro l
   induction l with
   | nil=>intro _;exact ⟨[],rfl,fun k=>by simp⟩
   | cons f l ih =>
    intro ha
    simp only [List.all_cons,Bool.and_eq_true] at ha
    obtain ⟨q,hq,hk⟩:=ih ha.2
    obtain ⟨j,hj⟩:=Option.isSome_iff_exists.1 ha.1
    refine ⟨(f.offset,j.size)::q,by simp [List.mapM_cons,hj,hq],fun k=>?_⟩
    cases k with
    | zero=>simp [hj]
    | succ k=>simpa using hk k
  obtain ⟨q,hq,hk⟩:=hmap fs.toList hall
  have hpe:(fun x=>q.toArray[x]?)=XW P fs:=by
   funext x
   have:=hk x
   simp only [XW]
   rw [List.getElem?_toArray,this]
   cases hfx:fs[x]?<;>simp [hfx]
  simp only [Program.built,hi,hd,hz,hq]
  rw [hpe];exact e1
 ·simp only [Program.built,hi,hd,hz,hj]
  exact e1
theorem Wy (hR:R φ I h w) (hbar:bar≤h.n) {t:TypeId} {len:Nat} {ps:Array (Nat × Operand)} (ho:o.op=.buildSlice t len ps) {e':TypeId} {j:TypeInfo} {z:Value} {zc:List AV}
  (hd:P.underlying t=some (.slice e')) (hj:P.info? e'=some j) (hz:j.zero=some z) (hzc:Gr z.cells.toList=some zc) (hzl:zc.length=j.size) (hlen:len*j.size≤16777216) (hpos:0<j.size)
  {qs:List (Nat × Nat × Opd)} {vs:List (Nat × Nat × AV)} {cs:List AV}
  (h1:Eb G (fun k=>some (k*j.size,j.size)) ps.toList=some qs) (h2:AX e qs=some vs) (h3:Af (rep zc len) vs=some cs) (hone:(rep zc len).all AV.one=true)
  (hx:∀ x v y,Ac G x=some y→y.ev e=some v→VR φ I v (ρ x)):OpOk P ρ o bar φ I h w (.sl h.n 0 j.size len true) (h.alloc (.cells cs 0)):=by
 have he:execOp ρ o=(do pure (Next.value (← Instr.buildSlice t len (ps.map fun (i,x)=>(i,ρ x)))):Sem Next):=by simp only [execOp,ho]
 have hvz:=FN (φ:=φ) (I:=I) _ _ hzc
 have hzs:z.cells.size=j.size:=by have:=hvz.1;simp at this;omega
 let zr:Array Value:=(Gc z.cells.toList len).toArray
 obtain ⟨cr,e1,e2,e3,e4⟩:=Lt ps.toList qs vs (rep zc len) cs zr h1 h2 h3 hx (by simpa [zr] using hvz.rep len)
 have hcl:cs.length=len*j.size:=by rw [e4,IA,hzl]
 have hcr:cr.size=len*j.size:=by have:=e2.1;simp at this;omega
 have hrun:(Instr.buildSlice t len (ps.map fun (i,x)=>(i,ρ x))).run P w=.ok (.slice (some ⟨w.heap.size,0,none⟩) len len) (w.alloc (.cells cr e')):=by
  have hl:(ps.map fun (i,x)=>(i,ρ x)).toList=ps.toList.map fun x=>(x.1,ρ x.2):=by simp
  have h24:¬ (len*j.size > 2 ^ 24):=by omega
  have hfill:∀ zr',zr'=zr→Instr.fill (fun i=>some (i*j.size,j.size)) zr' (ps.map fun (i,x)=>(i,ρ x)).toList=some cr:=fun zr' hzr=>by rw [hl,hzr];exact e1
  by_cases h0:len*j.size=0
  ·have hzr:(Array.range (len*j.size)).map ((#[]:Array Value)[· % (#[]:Array Value).size]!)=zr:=by
    have hl0:len=0:=by
     rcases Nat.mul_eq_zero.1 h0 with h | h<;>omega
    subst hl0;simp [zr,Gc]
   simp only [Instr.buildSlice,Sem.run_bind,run_underlying hd,Result.andThen_ok,sizeOf,typeInfo,run_program,hj,Sem.run_pure,if_neg h24,if_pos h0]
   rw [hfill _ hzr]
   simp [newRow]
  ·have hzr:(Array.range (len*j.size)).map (z.cells[· % z.cells.size]!)=zr:=by
    apply Array.ext'
    have:=PZ z.cells len
    rw [hzs] at this ⊢
    simpa [zr] using this
   simp only [Instr.buildSlice,Sem.run_bind,run_underlying hd,Result.andThen_ok,sizeOf,typeInfo,run_program,hj,Sem.run_pure,if_neg h24,if_neg h0,zeroValue,hz]
   rw [hfill _ hzr]
   simp [newRow]
 refine .new hR hbar he (fun b=>.slice (some ⟨b,0,none⟩) len len) w rfl rfl rfl (rc:=cr) (el:=e') hrun (by omega) (fun k c hc=>?_) (fun φ' _ hφ=>?_)
 ·obtain ⟨v,g1,g2⟩:=e2.get hc
  exact ⟨IP (e3 hone) hc,v,by simpa using g1,g2⟩
 ·simpa using VR.sl (φ:=φ') (I:=I) h.n 0 j.size len true _ 0 _ len hφ (Nat.le_refl _) (by omega) (fun _=>rfl)
theorem Zx (hR:R φ I h w) (hbar:bar≤h.n) {t:TypeId} {x y:Operand} (ho:o.op=.makeSlice t x y) {e':TypeId} {j:TypeInfo} {z:Value} {zc:List AV}
  (hd:P.underlying t=some (.slice e')) (hj:P.info? e'=some j) (hz:j.zero=some z) (hzc:Gr z.cells.toList=some zc) (hzl:zc.length=j.size) (hpos:0<j.size) {l c:Int}
  (hl:VR φ I (.int .i64 l) (ρ x)) (hc:VR φ I (.int .i64 c) (ρ y)) (h0:0≤l) (h1:l≤c) (h2:c*j.bytes≤140737488355328) (h3:c≤9223372036854775807) (hone:zc.all AV.one=true) :
  OpOk P ρ o bar φ I h w (.sl h.n 0 j.size l.toNat (decide (l=c))) (h.alloc (.cells (rep zc l.toNat) 0)):=by
 have he:execOp ρ o=(do pure (Next.value (← Instr.makeSlice t (ρ x) (ρ y))):Sem Next):=by simp only [execOp,ho]
 have hvz:=FN (φ:=φ) (I:=I) _ _ hzc
 have hzs:z.cells.size=j.size:=by have:=hvz.1;simp at this;omega
 generalize hlx:ρ x=lx at hl
 generalize hcy:ρ y=cy at hc
 cases hl;cases hc
 let zr:Array Value:=(Gc z.cells.toList c.toNat).toArray
 have hrun:(Instr.makeSlice t (.int .i64 l) (.int .i64 c)).run P w=.ok (.slice (some ⟨w.heap.size,0,none⟩) l.toNat c.toNat) (w.alloc (.cells zr e')):=by
  have wl:IntKind.i64.wrap l=l:=RJ h0 (by omega)
  have wc:IntKind.i64.wrap c=c:=RJ (by omega) h3
  have hcb:(j.bytes:Int)*c≤2 ^ 47:=by rw [Int.mul_comm];omega
  have n1:(decide (c<0)||decide ((j.bytes:Int)*c > 2 ^ 48))=false:=by simp;omega
  have n2:(decide (l<0))=false:=by simp;omega
  have n3:(decide (l > c))=false:=by simp;omega
  have hg:(c.toNat*j.size=0→(#[]:Array Value)=zr):=fun h=>by
   have:c.toNat=0:=by rcases Nat.mul_eq_zero.1 h with h | h<;>omega
   simp [zr,this,Gc]
  have hg':(Array.range (c.toNat*j.size)).map (z.cells[· % z.cells.size]!)=zr:=by
   apply Array.ext'
   have:=PZ z.cells c.toNat
   rw [hzs] at this ⊢
   simpa [zr] using this
  have hcond:((decide (c<0)||decide ((j.bytes:Int)*c > 2 ^ 48))||decide (l<0)||decide (l > c))=false:=by rw [n1,n2,n3];rfl
  simp only [Instr.makeSlice,Sem.run_bind,run_underlying hd,Result.andThen_ok,asInt,asIntOf,Sem.run_pure,typeInfo,run_program,hj,wl,wc]
  rw [if_neg (by rw [hcond];simp)]
  simp only [Sem.run_pure,Result.andThen_ok,run_askRoom,sizeOf,typeInfo,run_program,hj,Sem.run_bind]
  by_cases hc0:c.toNat*j.size=0
  ·rw [if_pos hc0]
   simp only [Sem.run_pure,Result.andThen_ok,newRow,Sem.run_bind,run_newObj]
   have:(Array.range (c.toNat*j.size)).map ((#[]:Array Value)[· % (#[]:Array Value).size]!)=zr:=by rw [hc0,← hg hc0];simp
   rw [this];rfl
  ·rw [if_neg hc0]
   simp only [zeroValue,typeInfo,run_program,hj,hz,Sem.run_pure,Sem.run_bind,Result.andThen_ok,newRow,run_newObj,hg']
   rfl
 have hzrl:zr.size=c.toNat*j.size:=by simp [zr,Kh,hzs]
 have hle:l.toNat*j.size≤c.toNat*j.size:=Nat.mul_le_mul_right _ (by omega)
 refine .new hR hbar he (fun b=>.slice (some ⟨b,0,none⟩) l.toNat c.toNat) w rfl rfl rfl (rc:=zr) (el:=e') (by rw [hlx,hcy];exact hrun) (by rw [IA,hzl,hzrl];exact hle) (fun k cc hcc=>?_) (fun φ' _ hφ=>?_)
 ·have hk:k<l.toNat*j.size:=by have:=(List.getElem?_eq_some_iff.1 hcc).1;rwa [IA,hzl] at this
  refine ⟨IP (Oe hone _) hcc,?_⟩
  obtain ⟨v,g1,g2⟩:=(hvz.rep l.toNat).get hcc
  refine ⟨v,?_,g2⟩
  rw [← g1]
  simp only [zr,List.getElem?_toArray]
  rw [MS _ _ _ (by simp [hzs];omega),MS _ _ _ (by simp [hzs];omega)]
 ·refine VR.sl (φ:=φ') (I:=I) h.n 0 j.size l.toNat _ _ 0 _ c.toNat hφ (by omega) (by rw [hzrl];omega) (fun hf=>by simp at hf;rw [hf])
theorem br (hR:R φ I h w) (hbar:bar≤h.n) {t:TypeId} {x:Operand} (ho:o.op=.range t x) (hd:P.underlying t=some .string) {s:ByteArray} (hx:VR φ I (.str s) (ρ x)) :
  OpOk P ρ o bar φ I h w (.ptr h.n 0) (h.alloc (.iter s 0)):=by
 have he:execOp ρ o=(do pure (Next.value (← Instr.range t (ρ x))):Sem Next):=by simp only [execOp,ho]
 generalize hz:ρ x=z at hx
 cases hx
 have hI:∀ j v,I w.heap.size j≠some v:=fun j v hv=>by
  have:=hR.imm _ _ _ hv
  simp [World.cell?] at this
 have hle:Phi.le φ (fun j=>if j=h.n then some (w.heap.size,0,0) else φ j):=fun j x hx=>by
  by_cases hj:j=h.n
  ·subst hj;rw [hR.dom _ (Nat.le_refl _)] at hx;cases hx
  ·simp [hj,hx]
 have hblk:∀ j x y,h.get j=some x→φ j=some y→y.1<w.heap.size:=fun j x y hx hy=>by
  obtain ⟨b,s,t,h1,h2⟩:=(hR.obj j x hx).block
  rw [hy] at h1;cases h1
  exact h2
 refine ⟨.pointer (some ⟨w.heap.size,0,none⟩),w.alloc (.stringIter s 0),fun j=>if j=h.n then some (w.heap.size,0,0) else φ j,I,.inl ?_,?_,?_,?_⟩
 ·rw [he];simp [hz,Instr.range,run_underlying hd]
 ·refine ⟨fun i hi=>?_,fun i hi=>?_,fun i x hx=>?_,fun i j x y b s t s' t' hx hy hi hj=>?_,fun b j v hv=>?_⟩
  ·simp only [H.alloc] at hi ⊢
   rw [if_neg (by omega)];exact hR.wf i (by omega)
  ·simp only [H.alloc] at hi
   rw [if_neg (by omega)];exact hR.dom i (by omega)
  ·simp only [H.alloc] at hx
   by_cases hj:i=h.n
   ·simp only [hj,if_true,Option.some.injEq] at hx;subst hx
    exact ⟨w.heap.size,by simp [hj],heap_alloc_new w _⟩
   ·simp only [hj,if_false] at hx
    refine (hR.obj i x hx).keep hle (.refl _) (fun b s t hb=>?_) (fun _ _ _ _ _ _ hv=>hv)
    have:=hblk i x _ hx hb
    exact heap_alloc_old w _ this
  ·simp only [H.alloc] at hx hy
   by_cases h1:i=h.n<;>by_cases h2:j=h.n
   ·omega
   ·simp only [h1,if_true,Option.some.injEq,Prod.mk.injEq] at hi
    simp only [h2,if_false] at hj hy
    have:=hblk j y _ hy hj
    simp only at this;omega
   ·simp only [h2,if_true,Option.some.injEq,Prod.mk.injEq] at hj
    simp only [h1,if_false] at hi hx
    have:=hblk i x _ hx hi
    simp only at this;omega
   ·simp only [h1,h2,if_false] at hi hj hx hy
    exact hR.inj i j x y b s t s' t' hx hy hi hj
  ·have hv':=hR.imm b j v hv
   have hb:b≠w.heap.size:=fun hb=>hI j v (hb ▸ hv)
   have hlt:b<w.heap.size:=block_lt_of_cell hv'
   simp only [World.cell?] at hv' ⊢
   rw [heap_alloc_old w _ hlt];exact hv'
 ·simpa using VR.ptr (φ:=fun j=>if j=h.n then some (w.heap.size,0,0) else φ j) (I:=I) h.n 0 w.heap.size 0 0 (by simp)
 ·refine ⟨hle,.refl _,by simp,fun b hb _=>heap_alloc_old w _ hb,fun i x hi hl hx=>?_,fun i hi=>?_,by simp [H.alloc],rfl,rfl,fun _ _ _ hv=>.inl hv⟩
  ·by_cases hj:i=h.n
   ·simp only [hj,if_true,Option.some.injEq] at hx;subst hx;exact .inl (Nat.le_refl _)
   ·simp only [H.alloc,hj,if_false] at hl hx
    exact .inr ⟨i,x,hi,hl,hx,rfl⟩
  ·have:i≠h.n:=by omega
   simp [H.alloc,this]
end
end Go.Ev
namespace Go.Ev
open Go
section
variable {P:Program} {G:Glob} {φ:Phi} {I:Imm} {e:Env} {h:H} {w:World} {ρ:Operand→Value} {bar:Nat} {o:Oper}
theorem Jf {b q:Nat} {cs:List AV} (hc:∀ (j:Nat) (c:AV),cs[j]? = some c→∃ v,w.cell? ⟨b,q+j,none⟩=some v∧VR φ I c v) :
  ∃ ys:List Value,VRL φ I cs ys∧∀ w':World,w'.heap=w.heap→(loadCells ⟨b,q,none⟩ cs.length).run P w'=.ok ys.toArray w':=by
 have hex:∀ j,∃ u:Value,∀ c,cs[j]? = some c→w.cell? ⟨b,q+j,none⟩=some u∧VR φ I c u:=fun j=>by
  cases hj:cs[j]? with
  | none=>exact ⟨Go.undef,fun c hc'=>by cases hc'⟩
  | some c=>obtain ⟨u,h1,h2⟩:=hc j c hj;exact ⟨u,fun c' hc'=>by cases hc';exact ⟨h1,h2⟩⟩
 let f:Nat→Value:=fun j=>Classical.choose (hex j)
 have hf:∀ j c,cs[j]? = some c→w.cell? ⟨b,q+j,none⟩=some (f j)∧VR φ I c (f j):=fun j c=>Classical.choose_spec (hex j) c
 refine ⟨(List.range cs.length).map f,⟨by simp,fun j c v h1 h2=>?_⟩,fun w' hw=>?_⟩
 rotate_left
 ·refine run_loadCells w' _ _ f (fun j hj=>?_)
  rw [Dq]
  have:=(hf j _ (List.getElem?_eq_getElem hj)).1
  simpa only [World.cell?,hw] using this
 ·have hlt:=(List.getElem?_eq_some_iff.1 h1).1
  simp [hlt] at h2;subst h2
  exact (hf j c h1).2
theorem Gd (hR:R φ I h w) {k:Nat} {v:AV} {x:Value} {n:Nat} {xs:List AV} (hs:source k h v=some (n,xs)) (hx:VR φ I v x) :
  (∀ w':World,(Builtin.lenOf x).run P w'=.ok n w')∧xs.length=n*k∧(∀ (j:Nat) (c:AV),xs[j]? = some c→c.one=true) ∧
  ∀ m,m≤n→∃ ys:List Value,VRL φ I (xs.take (m*k)) ys∧∀ w':World,w'.heap=w.heap→(Builtin.firstCells k m x).run P w'=.ok ys.toArray w':=by
 unfold source at hs
 split at hs
 ·cases hs;cases hx
  exact ⟨fun w'=>rfl,by simp,fun j c hc=>by simp at hc,fun m hm=>⟨[],by simpa using VRL.nil,fun w' hw=>rfl⟩⟩
 ·split at hs
  ·rename_i s hk
   subst hk;cases hs;cases hx
   refine ⟨fun w'=>rfl,by simp,fun j c hc=>?_,fun m hm=>⟨(s.data.toList.take m).map fun b=>.int .u8 b.toNat,?_,fun w' hw=>?_⟩⟩
   ·simp at hc;obtain ⟨b,_,rfl⟩:=hc;rfl
   rotate_left
   ·simp only [Builtin.firstCells,Sem.run_pure]
    congr 2
    apply Array.ext'
    simp [ByteArray.extract,ByteArray.copySlice]
   ·refine ⟨by simp,fun j c v h1 h2=>?_⟩
    rw [Nat.mul_one,← List.map_take] at h1
    rw [List.getElem?_map] at h1 h2
    cases hb:(s.data.toList.take m)[j]? with
    | none=>simp [hb] at h1
    | some b=>simp [hb] at h1 h2;subst h1;subst h2;exact .int .u8 _
  ·cases hs
 ·rename_i id off k' len full
  split at hs
  ·rename_i hk
   subst hk
   split at hs
   ·rename_i cs p hg
    split at hs
    ·rename_i hle
     cases hs
     obtain ⟨b,q,rc,el,fr,g1,g2,g3,g4,g5,g6⟩:=hR.obj id _ hg
     have hone:∀ (j:Nat) (c:AV),((cs.drop off).take (n*k))[j]? = some c→c.one=true:=fun j c hc=>by
      rw [List.getElem?_take] at hc
      split at hc
      ·rw [List.getElem?_drop] at hc;exact (g4 _ c hc).1
      ·cases hc
     refine ⟨fun w'=>by cases hx<;>rfl,by simp;omega,hone,fun m hm=>?_⟩
     have hmk:m*k≤n*k:=Nat.mul_le_mul_right _ hm
     cases hx with
     | sl _ _ _ _ _ b' q' sz cap hφ h1 h2 h3 =>
      rw [g1] at hφ;cases hφ
      have:=Jf (P:=P) (φ:=φ) (I:=I) (w:=w) (b:=b) (q:=q+off) (cs:=((cs.drop off).take (n*k)).take (m*k)) (fun j c hc=>by
       rw [List.getElem?_take] at hc
       split at hc
       ·rw [List.getElem?_take] at hc
        split at hc
        ·rw [List.getElem?_drop] at hc
         obtain ⟨_,v,hv1,hv2⟩:=g4 _ c hc
         refine ⟨v,?_,hv2⟩
         rw [Gg g2,Nat.add_assoc];exact hv1
        ·cases hc
       ·cases hc)
      have hl:(((cs.drop off).take (n*k)).take (m*k)).length=m*k:=by simp;omega
      rw [hl] at this
      obtain ⟨ys,e1,e2⟩:=this
      exact ⟨ys,e1,fun w' hw=>by simpa [Builtin.firstCells] using e2 w' hw⟩
     | sl0 =>
      have:m=0:=by omega
      subst this
      exact ⟨[],by simpa using VRL.nil,fun w' hw=>by simp [Builtin.firstCells,loadCells,loadCellsFrom]⟩
    ·cases hs
   ·cases hs
  ·cases hs
 ·rename_i k' len cs full
  split at hs
  ·rename_i hk
   obtain ⟨rfl,hl⟩:=hk
   cases hs
   refine ⟨fun w'=>by cases hx<;>rfl,hl,fun j c hc=>?_,fun m hm=>?_⟩
   ·cases hx with
    | fz _ _ _ _ b q cap vs h1 h2 h3=>exact (h3 j c hc).2
    | fz0=>simp at hc
   ·have hmk:m*k≤n*k:=Nat.mul_le_mul_right _ hm
    cases hx with
    | fz _ _ _ _ b q cap vs h1 h2 h3 h4 h5 h6 =>
     have:=Jf (P:=P) (φ:=φ) (I:=I) (w:=w) (b:=b) (q:=q) (cs:=xs.take (m*k)) (fun j c hc=>by
      rw [List.getElem?_take] at hc
      split at hc
      ·have:=hR.imm _ _ _ (h1 j c hc)
       exact ⟨vs j,this,h2 j c hc⟩
      ·cases hc)
     have hl':(xs.take (m*k)).length=m*k:=by simp;omega
     rw [hl'] at this
     obtain ⟨ys,e1,e2⟩:=this
     exact ⟨ys,e1,fun w' hw=>by simpa [Builtin.firstCells] using e2 w' hw⟩
    | fz0 =>
     have:m=0:=by omega
     subst this
     exact ⟨[],by simpa using VRL.nil,fun w' hw=>by simp [Builtin.firstCells,loadCells,loadCellsFrom]⟩
  ·cases hs
 ·cases hs
theorem QB {need cap:Nat} (h:cap<need):Builtin.nextslicecap need cap≤2*need:=by
 unfold Builtin.nextslicecap
 split
 ·omega
 ·split
  ·omega
  ·simp only [Builtin.growBy]
   repeat' split
   all_goals omega
theorem LQ {t u ty e':TypeId} {j:TypeInfo} {du:TypeDesc} (ht:P.underlying t=some (.slice e')) (hj:P.info? e'=some j) (hu:P.underlying u=some du) (hdu:∀ k,du≠.int k)
  {base:Option Addr} {len cap n:Nat} {x:Value} {new:Array Value} (hl:(Builtin.lenOf x).run P w=.ok n w) (hn:(Builtin.firstCells j.size n x).run P w=.ok new w) (hroom:len+n≤cap)
  {w':World} (hw:(match base with | some a=>storeCells (a.add (len*j.size)) new.toList | none=>pure ()).run P w=.ok () w') :
  (Builtin.append_ #[t,u] ty #[.slice base len cap,x]).run P w=.ok (.slice base (len+n) cap) w':=by
 have hz:(match du with | .int _=>true | _=>false)=false:=by cases du<;>simp at hdu ⊢
 simp only [Builtin.append_,Sem.run_bind,run_underlying ht,Result.andThen_ok,sizeOf,typeInfo,run_program,hj,Sem.run_pure,run_underlying hu,hl,List.getElem?_toArray,List.getElem?_cons_zero,List.getElem?_cons_succ]
 cases base with
 | none =>
  simp only at hw
  cases du<;>simp at hdu<;>simp [hl,hroom,hn]<;>cases hw<;>rfl
 | some a =>
  simp only at hw
  cases du<;>simp at hdu<;>simp [hl,hroom,hn,hw]
theorem QP {t u ty e':TypeId} {j:TypeInfo} {z:Value} {du:TypeDesc} (ht:P.underlying t=some (.slice e')) (hj:P.info? e'=some j) (hz:j.zero=some z) (hu:P.underlying u=some du) (hdu:∀ k,du≠.int k)
  {base:Option Addr} {len cap n:Nat} {x:Value} {old new:Array Value} (hl:(Builtin.lenOf x).run P w=.ok n w)
  (ho:∀ w':World,w'.heap=w.heap→(Builtin.firstCells j.size len (.slice base len cap)).run P w'=.ok old w') (hn:∀ w':World,w'.heap=w.heap→(Builtin.firstCells j.size n x).run P w'=.ok new w')
  (hroom:cap<len+n) (hmax:len+n≤9223372036854775807) (hpos:0<j.bytes) (hb:(len+n)*j.bytes≤140737488355328) :
  ∃ (newCap:Nat) (rest:Array Value),len+n≤newCap∧rest.size=(newCap - (len+n))*z.cells.size ∧
  (Builtin.append_ #[t,u] ty #[.slice base len cap,x]).run P w=.ok (.slice (some ⟨w.heap.size,0,none⟩) (len+n) newCap) (w.drew.alloc (.cells (old++new++rest) e')):=by
 let q:Question:=.appendCap (len+n) cap e'
 refine ⟨q.cut (w.tape w.drawn q),Builtin.zeroCells z.cells (q.cut (w.tape w.drawn q) - (len+n)),?_,by simp [Builtin.zeroCells],?_⟩
 ·simp only [q,Question.cut];omega
 have h1:¬ (len+n≤cap):=by omega
 have h2:¬ (((len+n:Nat):Int) > IntKind.i64.max∧j.bytes=0):=by omega
 have h3:¬ (Builtin.nextslicecap (len+n) cap*j.bytes > 2 ^ 48):=by
  have:=Nat.mul_le_mul_right j.bytes (QB hroom)
  rw [Nat.mul_assoc] at this
  omega
 have ho':=ho w.drew rfl
 have hn':=hn w.drew rfl
 simp only [Builtin.append_,Sem.run_bind,run_underlying ht,Result.andThen_ok,sizeOf,typeInfo,run_program,hj,Sem.run_pure,run_underlying hu,List.getElem?_toArray,List.getElem?_cons_zero,List.getElem?_cons_succ]
 cases du<;>simp at hdu<;>simp [hl,h1,h2,h3,Nat.ne_of_gt hpos,zeroValue,typeInfo,hj,hz,Question.forced,ho',hn',newRow,q]
theorem KQ {t u ty e':TypeId} {j:TypeInfo} {z:Value} {k k':IntKind} (ht:P.underlying t=some (.slice e')) (hj:P.info? e'=some j) (hz:j.zero=some z) (hu:P.underlying u=some (.int k))
  {base:Option Addr} {len cap n:Nat} {l:Int} (hl:IntKind.i64.wrap l=(n:Nat)) (hb:n*j.bytes≤140737488355328) {new:Array Value} (hn1:n*j.size≠0→Builtin.zeroCells z.cells n=new) (hn0:n*j.size=0→new=#[]) (hroom:len+n≤cap)
  {w':World} (hw:(match base with | some a=>storeCells (a.add (len*j.size)) new.toList | none=>pure ()).run P w=.ok () w') :
  (Builtin.append_ #[t,u] ty #[.slice base len cap,.int k' l]).run P w=.ok (.slice base (len+n) cap) w':=by
 have h0:¬ ((n:Int)<0):=by omega
 have h1:¬ (281474976710656<(n:Int)*j.bytes):=by
  have:((n*j.bytes:Nat):Int)≤140737488355328:=by omega
  rw [Int.natCast_mul] at this;omega
 simp only [Builtin.append_,Sem.run_bind,run_underlying ht,Result.andThen_ok,sizeOf,typeInfo,run_program,hj,Sem.run_pure,run_underlying hu,List.getElem?_toArray,List.getElem?_cons_zero,List.getElem?_cons_succ]
 by_cases hz0:n*j.size=0
 ·have hnew:=hn0 hz0
  subst hnew
  cases base with
  | none =>
   simp only at hw
   simp [asInt,asIntOf,hl,h0,h1,hroom,hz0,typeInfo,hj];cases hw;rfl
  | some a =>
   simp only at hw
   simp [asInt,asIntOf,hl,h0,h1,hroom,hz0,typeInfo,hj,hw]
 ·have hnew:=hn1 hz0
  cases base with
  | none =>
   simp only at hw
   simp [asInt,asIntOf,hl,h0,h1,hroom,hz0,zeroValue,typeInfo,hj,hz,hnew];cases hw;rfl
  | some a =>
   simp only at hw
   simp [asInt,asIntOf,hl,h0,h1,hroom,hz0,zeroValue,typeInfo,hj,hz,hnew,hw]
theorem PS {t u ty e':TypeId} {j:TypeInfo} {z:Value} {k k':IntKind} (ht:P.underlying t=some (.slice e')) (hj:P.info? e'=some j) (hz:j.zero=some z) (hu:P.underlying u=some (.int k))
  {base:Option Addr} {len cap n:Nat} {l:Int} {old new:Array Value} (hl:IntKind.i64.wrap l=(n:Nat)) (hn1:n*j.size≠0→Builtin.zeroCells z.cells n=new) (hn0:n*j.size=0→new=#[])
  (ho:∀ w':World,w'.heap=w.heap→(Builtin.firstCells j.size len (.slice base len cap)).run P w'=.ok old w')
  (hroom:cap<len+n) (hmax:len+n≤9223372036854775807) (hpos:0<j.bytes) (hb:(len+n)*j.bytes≤140737488355328) :
  ∃ (newCap:Nat) (rest:Array Value),len+n≤newCap∧rest.size=(newCap - (len+n))*z.cells.size ∧
  (Builtin.append_ #[t,u] ty #[.slice base len cap,.int k' l]).run P w=.ok (.slice (some ⟨w.heap.size,0,none⟩) (len+n) newCap) (w.drew.alloc (.cells (old++new++rest) e')):=by
 let q:Question:=.appendCap (len+n) cap e'
 refine ⟨q.cut (w.tape w.drawn q),Builtin.zeroCells z.cells (q.cut (w.tape w.drawn q) - (len+n)),?_,by simp [Builtin.zeroCells],?_⟩
 ·simp only [q,Question.cut];omega
 have hnb:n*j.bytes≤140737488355328:=Nat.le_trans (Nat.mul_le_mul_right _ (by omega)) hb
 have h0:¬ ((n:Int)<0):=by omega
 have h1':¬ (281474976710656<(n:Int)*j.bytes):=by
  have:((n*j.bytes:Nat):Int)≤140737488355328:=by omega
  rw [Int.natCast_mul] at this;omega
 have h1:¬ (len+n≤cap):=by omega
 have h2:¬ (((len:Int)+n) > IntKind.i64.max):=by
  have:IntKind.i64.max=9223372036854775807:=rfl
  omega
 have h3:¬ (Builtin.nextslicecap (len+n) cap*j.bytes > 2 ^ 48):=by
  have:=Nat.mul_le_mul_right j.bytes (QB hroom)
  rw [Nat.mul_assoc] at this
  omega
 have ho':=ho w.drew rfl
 simp only [Builtin.append_,Sem.run_bind,run_underlying ht,Result.andThen_ok,sizeOf,typeInfo,run_program,hj,Sem.run_pure,run_underlying hu,List.getElem?_toArray,List.getElem?_cons_zero,List.getElem?_cons_succ]
 by_cases hz0:n*j.size=0
 ·have hnew:=hn0 hz0
  subst hnew
  simp [asInt,asIntOf,hl,h0,h1',h1,h2,h3,hz0,Nat.ne_of_gt hpos,zeroValue,typeInfo,hj,hz,Question.forced,ho',newRow,q]
  exact fun h=>absurd h (by omega)
 ·have hnew:=hn1 hz0
  simp [asInt,asIntOf,hl,h0,h1',h1,h2,h3,hz0,Nat.ne_of_gt hpos,zeroValue,typeInfo,hj,hz,Question.forced,ho',hnew,newRow,q]
  exact fun h=>absurd h (by omega)
end
end Go.Ev
namespace Go.Ev
open Go
section
variable {P:Program} {G:Glob} {φ:Phi} {I:Imm} {e:Env} {h:H} {w:World} {ρ:Operand→Value} {bar:Nat} {o:Oper}
theorem R.drew (hR:R φ I h w):R φ I h w.drew:=hR.of_heap rfl
theorem R.kill (hR:R φ I h w) (id:Nat):R φ I (h.kill id) w:=hR.sub rfl fun i x hx=>by
 simp only [H.kill] at hx
 split at hx
 ·cases hx
 ·exact hx
theorem Yx (hR : R φ I h w) {id : Nat} (hbar : bar ≤ h.n) (hid : bar ≤ id) {xs : List AV} {ys : List Value} {rest : Array Value} {el : TypeId} {p k m cap zs : Nat} (hvl : VRL φ I xs ys) (hone : ∀ (j : Nat) (c : AV), xs[j]? = some c → c.one = true)
    (hlen : xs.length = m * k) (hcap : m ≤ cap) (hrest : rest.size = (cap - m) * zs) (hzs : zs = k) :
    ∃ φ', R φ' I ((h.kill id).alloc (.cells xs p)) (w.alloc (.cells (ys.toArray ++ rest) el)) ∧ VR φ' I (.sl h.n 0 k m false) (.slice (some ⟨w.heap.size, 0, none⟩) m cap) ∧
      Stp bar φ I h w φ' I ((h.kill id).alloc (.cells xs p)) (w.alloc (.cells (ys.toArray ++ rest) el)) := by
  have hl := hvl.1
  obtain ⟨φ', g1, g2, g3⟩ := (hR.kill id).alloc bar hbar (ys.toArray ++ rest) el xs p (by simp; omega) (fun j c hc => by
    obtain ⟨v, h1, h2⟩ := hvl.get hc
    have hlt := (List.getElem?_eq_some_iff.1 h1).1
    exact ⟨hone j c hc, v, by rw [Array.getElem?_append_left (by simpa using hlt)]; simpa using h1, h2⟩) (w.alloc (.cells (ys.toArray ++ rest) el)) rfl rfl rfl
  refine ⟨φ', g2, ?_, ?_⟩
  · have hsz : (ys.toArray ++ rest).size = cap * k := by
      subst hzs
      simp [hrest, ← hl, hlen, ← Nat.add_mul]
      congr 1; omega
    rw [hsz] at g1
    exact VR.sl (φ := φ') (I := I) h.n 0 k m false _ 0 _ cap g1 hcap (by omega) (fun hf => by cases hf)
  · have hkill : Stp bar φ I h w φ I (h.kill id) w := ⟨.refl _, .refl _, Nat.le_refl _, fun _ _ _ => rfl, fun i x hi hl hx => .inr ⟨i, x, hi, fun hn => hl (by simp [H.kill, hn]), hx, rfl⟩,
      fun i hi => by have : i ≠ id := by omega
                     simp [H.kill, this], Nat.le_refl _, rfl, rfl, fun _ _ _ hv => .inl hv⟩
    exact hkill.trans g3
theorem H.kill_free {h:H} {id:Nat} (hid:h.get id=none):h.kill id=h:=by
 cases h with
 | mk n get =>
  simp only [H.kill,H.mk.injEq,true_and]
  funext j
  split
  ·rename_i hj;subst hj;exact hid.symm
  ·rfl
theorem TB (hR:R φ I h w) (hbar:bar≤h.n) {xs:List AV} {ys:List Value} {rest:Array Value} {el:TypeId} {p k m cap zs:Nat} (hvl:VRL φ I xs ys) (hone:∀ (j:Nat) (c:AV),xs[j]? = some c→c.one=true)
  (hlen:xs.length=m*k) (hcap:m≤cap) (hrest:rest.size=(cap - m)*zs) (hzs:zs=k) :
  ∃ φ',R φ' I (h.alloc (.cells xs p)) (w.alloc (.cells (ys.toArray++rest) el))∧VR φ' I (.sl h.n 0 k m false) (.slice (some ⟨w.heap.size,0,none⟩) m cap) ∧
   Stp bar φ I h w φ' I (h.alloc (.cells xs p)) (w.alloc (.cells (ys.toArray++rest) el)):=by
 have:=Yx (bar:=bar) (el:=el) (p:=p) hR (id:=h.n) hbar hbar hvl hone hlen hcap hrest hzs
 rwa [H.kill_free (hR.wf _ (Nat.le_refl _))] at this
theorem ZV (hR:R φ I h w) {id off k len n cap b q s:Nat} {cs xs:List AV} {p:Nat} {ys:List Value} (hbar:bar≤h.n) (hid:bar≤id) (hg:h.get id=some (.cells cs p)) (hφ:φ id=some (b,q,s))
  (hle:off+len*k≤cs.length) (hp:p≤off+len*k) (hxl:xs.length=n*k) (hvl:VRL φ I xs ys) (hone:∀ (j:Nat) (c:AV),xs[j]? = some c→c.one=true) (hcap:q+off+cap*k≤s) (hroom:len+n≤cap) :
  ∃ w' φ',(storeCells ((⟨b,q+off,none⟩:Addr).add (len*k)) ys).run P w=.ok () w'∧R φ' I ((h.kill id).alloc (.cells ((cs.drop off).take (len*k)++xs) (p - off))) w' ∧
   VR φ' I (.sl h.n 0 k (len+n) false) (.slice (some ⟨b,q+off,none⟩) (len+n) cap)∧Stp bar φ I h w φ' I ((h.kill id).alloc (.cells ((cs.drop off).take (len*k)++xs) (p - off))) w':=by
 obtain ⟨b',q',rc,el,fr,g1,g2,g3,g4,g5,g6⟩:=hR.obj id _ hg
 rw [hφ] at g1;cases g1
 have hl:=hvl.1
 have hnk:(len+n)*k≤cap*k:=Nat.mul_le_mul_right k hroom
 rw [Nat.add_mul] at hnk
 obtain ⟨w',e1,e2,e3,e4,e5,e6,_,_⟩:=LR (P:=P) b (q+off+len*k) el fr ys 0 w rc g2 (by omega) (fun j h1 h2=>g5 j (by omega) (by omega)) (fun v hv=>by
  obtain ⟨j,hj⟩:=List.mem_iff_getElem?.1 hv
  have hlt:j<xs.length:=hl ▸ (List.getElem?_eq_some_iff.1 hj).1
  exact (hvl.2 j _ v (List.getElem?_eq_getElem hlt) hj).one (hone j _ (List.getElem?_eq_getElem hlt)))
 have hne:∀ j x,(h.kill id).get j=some x→j≠id∧h.get j=some x:=fun j x hx=>by
  simp only [H.kill] at hx
  split at hx
  ·cases hx
  ·exact ⟨by assumption,hx⟩
 have hle':Phi.le φ (fun j=>if j=h.n then some (b,q+off,rc.size) else φ j):=fun j x hx=>by
  by_cases hj:j=h.n
  ·subst hj;rw [hR.dom _ (Nat.le_refl _)] at hx;cases hx
  ·simp [hj,hx]
 have hidn:id≠h.n:=fun hh=>by subst hh;rw [hR.wf _ (Nat.le_refl _)] at hg;cases hg
 have htl:((cs.drop off).take (len*k)).length=len*k:=by simp;omega
 refine ⟨w',fun j=>if j=h.n then some (b,q+off,rc.size) else φ j,by rw [Dq];exact e1,?_,?_,?_⟩
 ·refine (hR.kill id).put h.n b (q+off) (Gt rc (q+off+len*k) ys) el fr ((cs.drop off).take (len*k)++xs) (p - off) hle' (by simp [Ge]) ?_ ?_ ?_ ?_ e3 (by simpa using e2) ?_ ?_ ?_ ?_
  ·intro j hj
   simp only [H.alloc,H.kill] at hj
   rw [if_neg (by omega)];exact hR.dom j (by omega)
  ·intro j hj
   have hj':h.n+1≤j:=hj
   have h1:¬ j=h.n:=by omega
   have h2:=hR.wf j (by omega)
   show (if j=h.n then _ else if j=id then none else h.get j)=none
   rw [if_neg h1,h2];split<;>rfl
  ·intro j x hx
   simp only [H.alloc] at hx
   by_cases hj:j=(h.kill id).n
   ·simp only [hj,if_true,Option.some.injEq] at hx;exact .inl ⟨hj,hx.symm⟩
   ·simp only [hj,if_false] at hx;exact .inr ⟨hj,hx⟩
  ·intro j x y hj hx hy hyb
   have hj':j≠(h.kill id).n:=hj
   simp only [H.alloc,hj',if_false] at hx
   obtain ⟨h1,h2⟩:=hne j x hx
   obtain ⟨y1,y2,y3⟩:=y
   simp only at hyb;subst hyb
   exact h1 (hR.inj j id x _ _ _ _ _ _ h2 hg hy hφ)
  ·rw [List.length_append,htl,Ge];omega
  ·intro j c hc
   rw [Jk]
   by_cases hj:j<len*k
   ·rw [List.getElem?_append_left (by omega),List.getElem?_take,if_pos hj,List.getElem?_drop] at hc
    obtain ⟨h1,v,h2,h3⟩:=g4 _ c hc
    refine ⟨h1,v,?_,h3.mono hle' (.refl _)⟩
    rw [if_neg (by omega),Nat.add_assoc];exact h2
   ·rw [List.getElem?_append_right (by omega),htl] at hc
    obtain ⟨v,h1,h2⟩:=hvl.get hc
    have hlt:=(List.getElem?_eq_some_iff.1 hc).1
    refine ⟨hone _ c hc,v,?_,h2.mono hle' (.refl _)⟩
    rw [if_pos ⟨by omega,by omega,by omega⟩,← h1]
    congr 1;omega
  ·intro j h1 h2
   exact g5 j (by omega) (by rw [Ge] at h2;exact h2)
  ·intro j v hv
   have h1:=g6 j v hv
   refine ⟨by omega,?_⟩
   rw [Jk,if_neg (by omega)]
   have:=hR.imm b j v hv
   rw [Gg g2] at this;exact this
 ·refine VR.sl h.n 0 k (len+n) false b (q+off) rc.size cap (by simp) hroom (by omega) (fun hf=>by cases hf)
 ·refine ⟨hle',.refl _,by omega,fun j hj hf=>e3 j (fun hjb=>hf id hid (by rw [hg];simp) _ hφ hjb.symm),fun i x hi hlv hx=>?_,fun i hi=>?_,by simp [H.alloc,H.kill],e5,e6,fun _ _ _ hv=>.inl hv⟩
  ·by_cases hj:i=h.n
   ·simp only [hj,if_true,Option.some.injEq] at hx;subst hx
    exact .inr ⟨id,_,hid,by rw [hg];simp,hφ,rfl⟩
   ·simp only [hj,if_false] at hx
    refine .inr ⟨i,x,hi,?_,hx,rfl⟩
    intro hn
    apply hlv
    simp only [H.alloc,H.kill,hj,if_false,hn,ite_self]
  ·have h1:i≠id:=by omega
   have h2:i≠h.n:=by omega
   simp only [H.alloc,H.kill,h1,h2,if_false]
theorem On (hR:R φ I h w) (hbar:bar≤h.n) {s:Operand} {j:TypeInfo} {sv v:AV} {h':H} {n:Nat} {xs:List AV} {yl:List Value} {zs:Nat} (hzs:zs=j.size) (hsv:VR φ I sv (ρ s))
  (yv:VRL φ I xs yl) (s2:xs.length=n*j.size) (s3:∀ (i:Nat) (c:AV),xs[i]? = some c→c.one=true)
  (hnone:∀ base len cap,ρ s=.slice base len cap→len≤cap→n=0→(execOp ρ o).run P w=.ok (.value (ρ s)) w)
  (hgrow:∀ base len cap (ol:List Value),ρ s=.slice base len cap→cap<len+n→len+n≤9223372036854775807→(len+n)*j.bytes≤140737488355328 →
   (∀ w':World,w'.heap=w.heap→(Builtin.firstCells j.size len (.slice base len cap)).run P w'=.ok ol.toArray w') →
   ∃ nc el rest,(execOp ρ o).run P w=.ok (.value (.slice (some ⟨w.heap.size,0,none⟩) (len+n) nc)) (w.drew.alloc (.cells ((ol++yl).toArray++rest) el)) ∧
    len+n≤nc∧rest.size=(nc - (len+n))*zs)
  (hfit:∀ (b:Addr) len cap (w':World),ρ s=.slice (some b) len cap→len+n≤cap→(len+n)*j.bytes≤140737488355328→(storeCells (b.add (len*j.size)) yl).run P w=.ok () w'→(execOp ρ o).run P w=.ok (.value (.slice (some b) (len+n) cap)) w')
  (hev:Ch bar j.size j.bytes h sv n xs=some (v,h')):OpOk P ρ o bar φ I h w v h':=by
 unfold Ch at hev
 split at hev
 ·
  generalize hz':ρ s=sz at hsv
  cases hsv
  split at hev
  ·rename_i hn0
   cases hev
   have:=hnone none 0 0 hz' (Nat.le_refl _) hn0
   rw [hz'] at this
   exact .same hR this .nilsl
  ·rename_i hn0
   split at hev
   ·rename_i hc
    cases hev
    obtain ⟨nc,el,rest,g1,g2,g3⟩:=hgrow none 0 0 [] hz' (by omega) (by omega) (by simpa using hc.1) (fun w' _=>rfl)
    simp only [Nat.zero_add,List.nil_append] at g1 g2 g3
    obtain ⟨φ',k1,k2,k3⟩:=TB (bar:=bar) (el:=el) (p:=0) (k:=j.size) (m:=n) (rest:=rest) hR.drew hbar yv s3 s2 g2 g3 hzs
    exact ⟨_,_,φ',I,.inl g1,k1,k2,(Stp.of_heap (w:=w) (w':=w.drew) rfl rfl rfl).trans k3⟩
   ·cases hev
 ·rename_i k' len cs full
  split at hev
  ·rename_i hkc
   obtain ⟨rfl,hcl⟩:=hkc
   have hsh:∃ base cap,ρ s=.slice base len cap∧len≤cap∧(full=true→cap=len):=by
    generalize hz':ρ s=sz at hsv
    cases hsv with
    | fz _ _ _ _ b q cap vs h1 h2 h3 h4 h5 h6=>exact ⟨_,cap,rfl,h4,h5⟩
    | fz0 _ _ a cap h5=>exact ⟨_,cap,rfl,Nat.zero_le _,h5⟩
   obtain ⟨base,cap,hs,hlc,hfl⟩:=hsh
   split at hev
   ·rename_i hn0
    cases hev
    exact .same hR (hnone base len cap hs hlc hn0) hsv
   ·rename_i hn0
    split at hev
    ·rename_i hc
     cases hev
     obtain ⟨hfull,hb,hmax⟩:=hc
     have hcap:=hfl hfull
     subst hcap
     obtain ⟨_,_,t3,t4⟩:=Gd (P:=P) hR (k:=j.size) (v:=.fz j.size cap cs full) (n:=cap) (xs:=cs) (by simp [source,hcl]) hsv
     obtain ⟨ol,ov,orun⟩:=t4 cap (Nat.le_refl _)
     rw [show cs.take (cap*j.size)=cs from List.take_of_length_le (by omega)] at ov
     rw [hs] at orun
     obtain ⟨nc,el,rest,g1,g2,g3⟩:=hgrow base cap cap ol hs (by omega) hmax hb orun
     obtain ⟨φ',k1,k2,k3⟩:=TB (bar:=bar) (el:=el) (p:=0) (k:=j.size) (m:=cap+n) (rest:=rest) hR.drew hbar (ov.append yv) (fun i c hc=>by
      by_cases hi:i<cs.length
      ·rw [List.getElem?_append_left hi] at hc;exact t3 i c hc
      ·rw [List.getElem?_append_right (by omega)] at hc;exact s3 _ c hc) (by rw [List.length_append,hcl,s2,Nat.add_mul]) g2 g3 hzs
     exact ⟨_,_,φ',I,.inl g1,k1,k2,(Stp.of_heap (w:=w) (w':=w.drew) rfl rfl rfl).trans k3⟩
    ·cases hev
  ·cases hev
 ·rename_i id off k' len full
  split at hev
  ·rename_i hkc
   subst hkc
   have hsh:∃ base cap,ρ s=.slice base len cap∧len≤cap∧(full=true→cap=len):=by
    generalize hz':ρ s=sz at hsv
    cases hsv with
    | sl _ _ _ _ _ b q sz cap hφ h1 h2 h3=>exact ⟨_,cap,rfl,h1,h3⟩
    | sl0=>exact ⟨_,0,rfl,Nat.le_refl _,fun _=>rfl⟩
   obtain ⟨base,cap,hs,hlc,hfl⟩:=hsh
   split at hev
   ·rename_i hn0
    cases hev
    exact .same hR (hnone base len cap hs hlc hn0) hsv
   ·rename_i hn0
    split at hev
    ·rename_i cs p hg
     split at hev
     ·rename_i hc
      obtain ⟨hle,hb,hmax⟩:=hc
      obtain ⟨_,t2,t3,t4⟩:=Gd (P:=P) hR (k:=j.size) (v:=.sl id off j.size len full) (n:=len) (xs:=(cs.drop off).take (len*j.size)) (by simp [source,hg,hle]) hsv
      obtain ⟨ol,ov,orun⟩:=t4 len (Nat.le_refl _)
      rw [show ((cs.drop off).take (len*j.size)).take (len*j.size)=(cs.drop off).take (len*j.size) from List.take_of_length_le (by omega)] at ov
      rw [hs] at orun
      have hone:∀ (i:Nat) (c:AV),((cs.drop off).take (len*j.size)++xs)[i]? = some c→c.one=true:=fun i c hc=>by
       by_cases hi:i<((cs.drop off).take (len*j.size)).length
       ·rw [List.getElem?_append_left hi] at hc;exact t3 i c hc
       ·rw [List.getElem?_append_right (by omega)] at hc;exact s3 _ c hc
      split at hev
      ·rename_i hfull
       cases hev
       have hcap:=hfl hfull
       subst hcap
       obtain ⟨nc,el,rest,g1,g2,g3⟩:=hgrow base cap cap ol hs (by omega) hmax hb orun
       obtain ⟨φ',k1,k2,k3⟩:=TB (bar:=bar) (el:=el) (p:=0) (k:=j.size) (m:=cap+n) (rest:=rest) hR.drew hbar (ov.append yv) hone (by rw [List.length_append,t2,s2,Nat.add_mul]) g2 g3 hzs
       exact ⟨_,_,φ',I,.inl g1,k1,k2,(Stp.of_heap (w:=w) (w':=w.drew) rfl rfl rfl).trans k3⟩
      ·split at hev
       ·rename_i hc2
        cases hev
        by_cases hroom:len+n≤cap
        ·
         have hsv':=hsv
         rw [hs] at hsv'
         cases hsv' with
         | sl _ _ _ _ _ b q sz _ hφ h1 h2 h3 =>
          obtain ⟨w',φ',m1,m2,m3,m4⟩:=ZV (P:=P) (bar:=bar) hR hbar hc2.1 hg hφ hle hc2.2 s2 yv s3 h2 hroom
          exact ⟨_,w',φ',I,.inl (hfit _ len cap w' hs hroom hb m1),m2,m3,m4⟩
         | sl0=>omega
        ·obtain ⟨nc,el,rest,g1,g2,g3⟩:=hgrow base len cap ol hs (by omega) hmax hb orun
         obtain ⟨φ',k1,k2,k3⟩:=Yx (bar:=bar) (id:=id) (el:=el) (p:=p - off) (k:=j.size) (m:=len+n) (rest:=rest) hR.drew hbar hc2.1 (ov.append yv) hone (by rw [List.length_append,t2,s2,Nat.add_mul]) g2 g3 hzs
         exact ⟨_,_,φ',I,.inl g1,k1,k2,(Stp.of_heap (w:=w) (w':=w.drew) rfl rfl rfl).trans k3⟩
       ·cases hev
     ·cases hev
    ·cases hev
  ·cases hev
 ·cases hev
theorem be (hR:R φ I h w) (hbar:bar≤h.n) {s x:Operand} {t u:TypeId} (ho:o.op=.call { callee:=.builtin .append,args:=#[s,x],argTypes:=#[t,u] }) {e':TypeId} {j:TypeInfo} {z:Value} {zc:List AV} {du:TypeDesc}
  (ht:P.underlying t=some (.slice e')) (hj:P.info? e'=some j) (hz:j.zero=some z) (hzc:Gr z.cells.toList=some zc) (hzl:zc.length=j.size) (hbp:0<j.bytes) (hu:P.underlying u=some du) (hdu:∀ k,du≠.int k)
  {sv xv v:AV} {h':H} {n:Nat} {xs:List AV} (hsv:VR φ I sv (ρ s)) (hxv:VR φ I xv (ρ x)) (hsrc:source j.size h xv=some (n,xs)) (hk:0<j.size) (hev:Ch bar j.size j.bytes h sv n xs=some (v,h')) :
  OpOk P ρ o bar φ I h w v h':=by
 have hzs:z.cells.size=j.size:=by have:=(FN (φ:=φ) (I:=I) _ _ hzc).1;simp at this;omega
 have he:∀ w' y,(Builtin.append_ #[t,u] o.type #[ρ s,ρ x]).run P w=.ok y w'→(execOp ρ o).run P w=.ok (.value y) w':=fun w' y hy=>by
  simp only [execOp,ho,resolve,invoke,builtin]
  simp only [Sem.run_bind,Sem.run_pure,Result.andThen_ok]
  simp [hy]
 obtain ⟨s1,s2,s3,s4⟩:=Gd (P:=P) hR hsrc hxv
 obtain ⟨yl,yv,yr⟩:=s4 n (Nat.le_refl _)
 rw [show xs.take (n*j.size)=xs from List.take_of_length_le (by omega)] at yv
 
 have hnone:∀ base len cap,ρ s=.slice base len cap→len≤cap→n=0→(execOp ρ o).run P w=.ok (.value (ρ s)) w:=fun base len cap hs hlc hn0=>by
  subst hn0
  have hys:yl=[]:=by
   have h1:=yv.1
   rw [s2] at h1
   exact List.eq_nil_of_length_eq_zero (by omega)
  subst hys
  apply he
  rw [hs]
  exact LQ ht hj hu hdu (s1 w) (yr w rfl) (by omega) (by cases base<;>simp [storeCells])
 
 have hgrow:∀ base len cap (ol:List Value),ρ s=.slice base len cap→cap<len+n→len+n≤9223372036854775807→(len+n)*j.bytes≤140737488355328 →
   (∀ w':World,w'.heap=w.heap→(Builtin.firstCells j.size len (.slice base len cap)).run P w'=.ok ol.toArray w') →
   ∃ nc el rest,(execOp ρ o).run P w=.ok (.value (.slice (some ⟨w.heap.size,0,none⟩) (len+n) nc)) (w.drew.alloc (.cells ((ol++yl).toArray++rest) el)) ∧
    len+n≤nc∧rest.size=(nc - (len+n))*z.cells.size:=fun base len cap ol hs hroom hmax hb hfc=>by
  obtain ⟨nc,rest,g1,g2,g3⟩:=QP (ty:=o.type) (base:=base) (cap:=cap) (x:=ρ x) (old:=ol.toArray) (new:=yl.toArray) ht hj hz hu hdu (s1 w) hfc yr hroom hmax hbp hb
  refine ⟨nc,e',rest,?_,g1,g2⟩
  apply he
  rw [hs,g3]
  simp
 exact On hR hbar hzs hsv yv s2 s3 hnone hgrow (fun b len cap w' hs hroom _ hst=>he w' _ (by
  rw [hs]
  exact LQ ht hj hu hdu (s1 w) (yr w rfl) hroom (by simpa using hst))) hev
theorem Zr (hR:R φ I h w) (hbar:bar≤h.n) {s x:Operand} {t u:TypeId} (ho:o.op=.call { callee:=.builtin .append,args:=#[s,x],argTypes:=#[t,u] }) {e':TypeId} {j:TypeInfo} {z:Value} {zc:List AV} {k:IntKind}
  (ht:P.underlying t=some (.slice e')) (hj:P.info? e'=some j) (hz:j.zero=some z) (hzc:Gr z.cells.toList=some zc) (hzl:zc.length=j.size) (hbp:0<j.bytes) (hu:P.underlying u=some (.int k))
  {sv v:AV} {h':H} {l:Int} (hsv:VR φ I sv (ρ s)) (hxv:VR φ I (.int .i64 l) (ρ x)) (hl0:0≤l) (hl1:l≤9223372036854775807) (hone:zc.all AV.one=true) (hk:0<j.size) (hev:Ch bar j.size j.bytes h sv l.toNat (rep zc l.toNat)=some (v,h')) :
  OpOk P ρ o bar φ I h w v h':=by
 have hvz:=FN (φ:=φ) (I:=I) _ _ hzc
 have hzs:z.cells.size=j.size:=by have:=hvz.1;simp at this;omega
 have he:∀ w' y,(Builtin.append_ #[t,u] o.type #[ρ s,ρ x]).run P w=.ok y w'→(execOp ρ o).run P w=.ok (.value y) w':=fun w' y hy=>by
  simp only [execOp,ho,resolve,invoke,builtin]
  simp only [Sem.run_bind,Sem.run_pure,Result.andThen_ok]
  simp [hy]
 generalize hxz:ρ x=xz at hxv he
 cases hxv
 have hwl:IntKind.i64.wrap l=(l.toNat:Nat):=by rw [RJ hl0 hl1];omega
 obtain ⟨n,hn⟩:∃ n,n=l.toNat:=⟨_,rfl⟩
 rw [← hn] at hev hwl
 have yv:=hvz.rep n
 have s2:(rep zc n).length=n*j.size:=by rw [IA,hzl]
 have hn1:n*j.size≠0→Builtin.zeroCells z.cells n=(Gc z.cells.toList n).toArray:=fun _=>by
  apply Array.ext'
  simpa [Builtin.zeroCells] using PZ z.cells n
 have hn0:n*j.size=0→(Gc z.cells.toList n).toArray=#[]:=fun h=>by
  have:n=0:=by rcases Nat.mul_eq_zero.1 h with h | h<;>omega
  subst this;simp [Gc]
 refine On hR hbar hzs hsv yv s2 (fun i c hc=>IP (Oe hone _) hc) (fun base len cap hs hlc h0=>?_) (fun base len cap ol hs hroom hmax hb hfc=>?_) (fun b len cap w' hs hroom hb hst=>?_) hev
 ·subst h0
  apply he
  rw [hs]
  exact KQ ht hj hz hu hwl (by omega) hn1 hn0 (by omega) (by cases base<;>simp [storeCells,Gc])
 ·obtain ⟨nc,rest,g1,g2,g3⟩:=PS (ty:=o.type) (k':=.i64) (base:=base) (cap:=cap) (old:=ol.toArray) ht hj hz hu hwl hn1 hn0 hfc hroom hmax hbp hb
  refine ⟨nc,e',rest,?_,g1,g2⟩
  apply he
  rw [hs,g3]
  simp
 ·apply he
  rw [hs]
  exact KQ ht hj hz hu hwl (Nat.le_trans (Nat.mul_le_mul_right _ (by omega)) hb) hn1 hn0 hroom (by simpa using hst)
end
end Go.Ev
namespace Go.Ev
open Go
section
variable {P:Program} {G:Glob} {φ:Phi} {I:Imm} {e:Env} {h:H} {w:World} {ρ:Operand→Value} {bar:Nat} {o:Oper}
theorem bj (hR:R φ I h w) {d s:Operand} {t u:TypeId} (ho:o.op=.call { callee:=.builtin .copy,args:=#[d,s],argTypes:=#[t,u] }) {e':TypeId} {j:TypeInfo} (ht:P.underlying t=some (.slice e')) (hj:P.info? e'=some j)
  {dv sv v:AV} {h':H} {m:Nat} {xs:List AV} (hdv:VR φ I dv (ρ d)) (hsv:VR φ I sv (ρ s)) (hsrc:source j.size h sv=some (m,xs))
  (hev:Qj bar j.size h dv m xs=some (v,h')):OpOk P ρ o bar φ I h w v h':=by
 have he:∀ w' y,(Builtin.copy_ #[t,u] o.type #[ρ d,ρ s]).run P w=.ok y w'→(execOp ρ o).run P w=.ok (.value y) w':=fun w' y hy=>by
  simp only [execOp,ho,resolve,invoke,builtin]
  simp only [Sem.run_bind,Sem.run_pure,Result.andThen_ok]
  simp [hy]
 obtain ⟨s1,s2,s3,s4⟩:=Gd (P:=P) hR hsrc hsv
 have hrun:∀ base len cap ys w',ρ d=.slice base len cap→(Builtin.firstCells j.size (Nat.min m len) (ρ s)).run P w=.ok ys w→(match base with | some a=>storeCells a ys.toList | none=>pure ()).run P w=.ok () w' →
   (execOp ρ o).run P w=.ok (.value (goInt (min m len:Nat))) w':=fun base len cap ys w' hd hf hst=>by
  apply he
  simp only [Builtin.copy_,Sem.run_bind,run_underlying ht,Result.andThen_ok,sizeOf,typeInfo,run_program,hj,Sem.run_pure,List.getElem?_toArray,List.getElem?_cons_zero,List.getElem?_cons_succ,hd,s1 w,hf]
  cases base<;>simp only at hst
  ·cases hst;rfl
  ·simp [hst]
 unfold Qj at hev
 split at hev
 ·cases hev
  generalize hz:ρ d=z at hdv
  cases hdv
  obtain ⟨yl,yv,yr⟩:=s4 0 (Nat.zero_le _)
  have:=hrun none 0 0 yl.toArray w hz (by simpa using yr w rfl) rfl
  exact .same hR (by simpa using this) (by constructor)
 ·rename_i id off k' len full
  split at hev
  ·rename_i hk
   subst hk
   simp only [Option.map_eq_some_iff,Prod.mk.injEq] at hev
   obtain ⟨h1,hw,rfl,rfl⟩:=hev
   obtain ⟨yl,yv,yr⟩:=s4 (min m len) (Nat.min_le_left _ _)
   unfold Hk at hw
   split at hw
   ·rename_i cs p hg
    split at hw
    ·rename_i hc
     cases hw
     obtain ⟨c1,c2,c3,c4⟩:=hc
     generalize hz:ρ d=z at hdv
     cases hdv with
     | sl _ _ _ _ _ b q sz cap hφ g1 g2 g3 =>
      obtain ⟨w',e1,e2,e3⟩:=hR.write (P:=P) (bar:=bar) hg hφ c2 c3 c4 yv c1
      have:=hrun _ _ _ yl.toArray w' hz (by simpa [Nat.min_def] using yr w rfl) (by simpa using e1)
      exact ⟨_,w',φ,I,.inl this,e2,by constructor,e3⟩
     | sl0 _ _ _ _ a y hφ =>
      
      have hx0:xs.take (min m 0*j.size)=[]:=by simp
      have hyl:yl=[]:=by
       have:=yv.1
       simp at this
       exact List.eq_nil_of_length_eq_zero this.symm
      subst hyl
      have:=hrun _ _ _ #[] w hz (by simpa [Nat.min_def] using yr w rfl) (by simp [storeCells])
      have hsame:h.set id (.cells (AL cs off (xs.take (min m 0*j.size))) p)=h:=by
       rw [hx0]
       simp only [AL,List.length_nil,Nat.add_zero,List.append_nil,List.take_append_drop]
       cases h with
       | mk n get =>
        simp only [H.set,H.mk.injEq,true_and]
        funext i
        split
        ·rename_i hi;subst hi;exact hg.symm
        ·rfl
      rw [hsame]
      exact .same hR this (by constructor)
    ·cases hw
   ·cases hw
  ·cases hev
 ·cases hev
theorem Mk:∀ (cs:List AV) (vs:List Value) (bs:List UInt8),VRL φ I cs vs→Eg cs=some bs→∀ acc:ByteArray,
  (forIn vs acc (fun (c:Value) (r:ByteArray)=>(match c with
   | .int .u8 n=>pure (ForInStep.yield (r.push (UInt8.ofNat n.toNat)))
   | _=>do
    stuck "bytesToString: byte expected"
    pure (ForInStep.yield r):Sem (ForInStep ByteArray)))).run P w=.ok ⟨acc.data++bs.toArray⟩ w
 | [],vs,bs,h,hb,acc=>by
  have:vs=[]:=List.eq_nil_of_length_eq_zero h.1.symm
  subst this
  simp [Eg] at hb;subst hb
  simp
 | c::cs,vs,bs,h,hb,acc=>by
  cases vs with
  | nil=>have:=h.1;simp at this
  | cons v vs =>
   have hc:=h.2 0 c v rfl rfl
   have ht:VRL φ I cs vs:=⟨by simpa using h.1,fun i c' v' h1 h2=>h.2 (i+1) c' v' (by simpa using h1) (by simpa using h2)⟩
   simp only [Eg] at hb
   split at hb
   ·rename_i b bs' hb1 hb2
    cases hb
    unfold Ks at hb1
    split at hb1
    ·cases hb1
     cases hc
     simp only [List.forIn_cons,Sem.run_bind,Sem.run_pure,Result.andThen_ok]
     rw [Mk cs vs bs' ht hb2]
     congr 1
     simp
    ·cases hb1
   ·cases hb
theorem bh (hR:R φ I h w) {s d:TypeId} {x:Operand} (ho:o.op=.convert s d x) {e':TypeId} (hs:P.underlying s=some (.slice e')) (he':P.underlying e'=some (.int .u8)) (hd:P.underlying d=some .string)
  {v:AV} {n:Nat} {cs:List AV} {bs:List UInt8} (hx:VR φ I v (ρ x)) (hns:∀ s,v≠.str s) (hsrc:source 1 h v=some (n,cs)) (hb:Eg cs=some bs):OpOk P ρ o bar φ I h w (.str ⟨bs.toArray⟩) h:=by
 have he:execOp ρ o=(do pure (Next.value (← convert s d (ρ x))):Sem Next):=by simp only [execOp,ho]
 obtain ⟨s1,s2,s3,s4⟩:=Gd (P:=P) hR hsrc hx
 obtain ⟨yl,yv,yr⟩:=s4 n (Nat.le_refl _)
 rw [show cs.take (n*1)=cs from List.take_of_length_le (by omega)] at yv
 have yr:=yr w rfl
 have hl:=s1 w
 have hloop:=Mk (P:=P) (w:=w) cs yl bs yv hb ByteArray.empty
 generalize hz:ρ x=z at hx yr hl
 have hshape:(z=.slice none 0 0∧cs=[] )∨(∃ a cap,z=.slice (some a) n cap):=by
  cases hx<;>try (simp [source] at hsrc;done)
  ·exact absurd rfl (hns _)
  ·simp [source] at hsrc;exact .inl ⟨rfl,hsrc.2⟩
  all_goals
   right
   cases hl;exact ⟨_,_,rfl⟩
 refine .of hR he (x:=.string ⟨bs.toArray⟩) ?_ (.str _)
 rw [hz]
 rcases hshape with ⟨rfl,rfl⟩ | ⟨a,cap,rfl⟩
 ·simp [Eg] at hb;subst hb
  simp [convert,run_underlying hs,run_underlying hd,run_underlying he',Conv.bytesToString]
  rfl
 ·simp only [Builtin.firstCells,Nat.mul_one] at yr
  have:(ByteArray.empty.data++bs.toArray)=bs.toArray:=by
   show (#[]:Array UInt8)++bs.toArray=bs.toArray
   simp
  rw [this] at hloop
  simp only [convert,Sem.run_bind,run_underlying hs,run_underlying hd,run_underlying he',Result.andThen_ok,Conv.bytesToString,yr]
  rw [← Array.forIn_toList]
  refine Eq.trans (congrArg (fun r=>Result.andThen r _) hloop) ?_
  simp
theorem bk (hR:R φ I h w) (hbar:bar≤h.n) {s d:TypeId} {x:Operand} (ho:o.op=.convert s d x) {ds:TypeDesc} {e':TypeId} (hs:P.underlying s=some ds) (he':P.underlying e'=some (.int .u8)) (hd:P.underlying d=some (.slice e'))
  {t:ByteArray} (hx:VR φ I (.str t) (ρ x)):OpOk P ρ o bar φ I h w (.sl h.n 0 1 t.size false) (h.alloc (.cells (t.data.toList.map fun b=>.int .u8 b.toNat) 0)):=by
 have he:execOp ρ o=(do pure (Next.value (← convert s d (ρ x))):Sem Next):=by simp only [execOp,ho]
 generalize hz:ρ x=z at hx
 cases hx
 let q:Question:=.appendCap t.size 0 e'
 let c:=q.cut (w.tape w.drawn q)
 have hc:t.size≤c:=by simp only [c,q,Question.cut];omega
 let rc:Array Value:=(t.data.map fun b=>Value.int .u8 b.toNat)++Array.replicate (c - t.size) (.int .u8 0)
 have hrcs:rc.size=c:=by
  have:t.data.size=t.size:=rfl
  simp [rc];omega
 let w1:World:=w.drew.alloc (.cells rc e')
 let w2:World:=w1.freeze ⟨w.heap.size,rc.size,none⟩ 1
 have h1:w1.heap[w.heap.size]? = some (.cells rc e' (0,0)):=heap_alloc_new w.drew _
 have h2:w2.heap[w.heap.size]? = some (.cells rc e' (rc.size,rc.size+1)):=by
  simp only [w2,World.freeze]
  simp [Array.getElem?_modify,h1]
 have h3:∀ k,k≠w.heap.size→w2.heap[k]? = w.heap[k]?:=fun k hk=>by
  have e1:w2.heap[k]? = w1.heap[k]?:=by
   simp only [w2,World.freeze]
   simp [Array.getElem?_modify,Ne.symm hk]
  rw [e1]
  show (w.heap.push (.cells rc e'))[k]? = _
  rw [Array.getElem?_push];simp [hk]
 have h4:w2.heap.size=w.heap.size+1:=by
  simp only [w2,World.freeze]
  simp [w1]
 have hrun:(convert s d (.string t)).run P w=.ok (.slice (some ⟨w.heap.size,0,none⟩) t.size c) w2:=by
  have hsh:w1.shape? w.heap.size=some (e',rc.size):=by simp [World.shape?,h1]
  have hconv:(Conv.stringToBytes e' t).run P w=.ok (.slice (some ⟨w.heap.size,0,none⟩) t.size c) w2:=by
   have hms:(markStringish ⟨w.heap.size,0,none⟩).run P w1=.ok () w2:=by
    simp only [markStringish,Sem.run_bind,run_shape,hsh,Result.andThen_ok,run_freeze];rfl
   simp only [Conv.stringToBytes,Sem.run_bind,run_choose,Question.forced,Bool.false_eq_true,if_false,Result.andThen_ok,newRow,run_newObj,Sem.run_pure]
   refine Eq.trans (congrArg (fun r=>Result.andThen r _) hms) ?_
   rfl
  cases ds<;>simp only [convert,Sem.run_bind,run_underlying hs,run_underlying hd,run_underlying he',Result.andThen_ok,hconv]
 obtain ⟨φ',k1,k2,k3⟩:=hR.allocF bar hbar rc e' (rc.size,rc.size+1) (fun j hj hf=>by unfold frz at hf;omega) (t.data.toList.map fun b=>.int .u8 b.toNat) 0 (by
   have:t.data.size=t.size:=rfl
   simp [hrcs];omega) (fun j cc hcc=>by
    rw [List.getElem?_map] at hcc
    cases hb:t.data.toList[j]? with
    | none=>rw [hb] at hcc;cases hcc
    | some b =>
     rw [hb] at hcc;cases hcc
     have hlt:j<t.data.size:=by simpa using (List.getElem?_eq_some_iff.1 hb).1
     refine ⟨rfl,.int .u8 b.toNat,?_,.int _ _⟩
     rw [Array.getElem?_append_left (by simpa using hlt)]
     simp at hb ⊢
     simp [hb]) w2 h3 h2 (by omega) (by simp [w2,World.freeze,w1];rfl) (by simp [w2,World.freeze,w1];rfl)
 refine ⟨.slice (some ⟨w.heap.size,0,none⟩) t.size c,w2,φ',I,.inl ?_,k2,?_,k3⟩
 ·rw [he,hz];simp [hrun]
 ·simpa using VR.sl (φ:=φ') (I:=I) h.n 0 1 t.size false w.heap.size 0 rc.size c k1 hc (by omega) (fun hf=>by cases hf)
theorem Zy (hR:R φ I h w) {x:Operand} (ho:o.op=.next x true) {id:Nat} {s:ByteArray} {pos:Nat} (hbar:bar≤id) (hx:VR φ I (.ptr id 0) (ρ x)) (hg:h.get id=some (.iter s pos)) {v:AV} {h':H}
  (hev:(if pos<s.size then some (AV.tup [.bool true,As pos,.int .i32 (Utf8.decode s pos).1],h.set id (.iter s (pos+(Utf8.decode s pos).2))) else some (.tup [.bool false],h))=some (v,h')) :
  OpOk P ρ o bar φ I h w v h':=by
 have he:execOp ρ o=(do pure (Next.value (← Instr.next (ρ x) true o.type)):Sem Next):=by simp only [execOp,ho]
 obtain ⟨b,g1,g2⟩:=hR.obj id _ hg
 generalize hz:ρ x=z at hx
 cases hx with
 | ptr _ _ b' q sz hφ =>
  rw [g1] at hφ;cases hφ
  have hget:(getObj b).run P w=.ok (.stringIter s pos) w:=by simp [getObj,Sem.run,g2]
  split at hev
  ·rename_i hlt
   cases hev
   refine ⟨.tuple #[.bool true,goInt pos,.int .i32 (Utf8.decode s pos).1],{ w with heap:=w.heap.setIfInBounds b (.stringIter s (pos+(Utf8.decode s pos).2)) },φ,I,.inl ?_,?_,?_,?_⟩
   ·rw [he]
    have hset:(setObj b (.stringIter s (pos+(Utf8.decode s pos).2))).run P w=.ok () { w with heap:=w.heap.setIfInBounds b (.stringIter s (pos+(Utf8.decode s pos).2)) }:=by simp [setObj,Sem.run,g2]
    simp [hz,Instr.next,hget,hlt,hset]
   ·have hblt:b<w.heap.size:=(Array.getElem?_eq_some_iff.1 g2).1
    have hoth:∀ k,k≠b→(w.heap.setIfInBounds b (.stringIter s (pos+(Utf8.decode s pos).2)))[k]? = w.heap[k]?:=fun k hk=>Array.getElem?_setIfInBounds_ne (Ne.symm hk)
    have hI:∀ j v,I b j≠some v:=fun j v hv=>by
     have:=hR.imm _ _ _ hv
     simp [World.cell?,g2] at this
    refine ⟨fun i hi=>?_,hR.dom,fun i y hy=>?_,fun i j y z b' s' t' s'' t'' hy hz hi hj=>?_,fun b' j v hv=>?_⟩
    ·have:i≠id:=fun hii=>by subst hii;rw [hR.wf i hi] at hg;cases hg
     simp only [H.set,this,if_false];exact hR.wf i hi
    ·simp only [H.set] at hy
     by_cases hi:i=id
     ·simp only [hi,if_true,Option.some.injEq] at hy;subst hy
      exact ⟨b,by rw [hi];exact g1,by simp [hblt]⟩
     ·simp only [hi,if_false] at hy
      refine (hR.obj i y hy).keep (.refl _) (.refl _) (fun b' s' t' hb'=>hoth b' (fun hbb=>?_)) (fun _ _ _ _ _ _ hv=>hv)
      subst hbb
      exact hi (hR.inj i id y _ _ _ _ _ _ hy hg hb' g1)
    ·have hy':∃ y',h.get i=some y':=by
      simp only [H.set] at hy
      by_cases hii:i=id
      ·exact ⟨_,by rw [hii];exact hg⟩
      ·simp only [hii,if_false] at hy;exact ⟨_,hy⟩
     have hz':∃ z',h.get j=some z':=by
      simp only [H.set] at hz
      by_cases hjj:j=id
      ·exact ⟨_,by rw [hjj];exact hg⟩
      ·simp only [hjj,if_false] at hz;exact ⟨_,hz⟩
     obtain ⟨y',hy'⟩:=hy'
     obtain ⟨z',hz'⟩:=hz'
     exact hR.inj i j y' z' b' s' t' s'' t'' hy' hz' hi hj
    ·have:=hR.imm b' j v hv
     have hb:b'≠b:=fun hbb=>hI j v (hbb ▸ hv)
     simp only [World.cell?] at this ⊢
     rw [hoth b' hb];exact this
   ·have:VRL φ I [.bool true,As pos,.int .i32 (Utf8.decode s pos).1] [.bool true,goInt pos,.int .i32 (Utf8.decode s pos).1]:=.cons (.bool _) (.cons (.int _ _) (.cons (.int _ _) .nil))
    exact .tup _ _ rfl (fun j c v h1 h2=>this.2 j c v h1 (by simpa using h2))
   ·refine ⟨.refl _,.refl _,by simp,fun k hk hf=>Array.getElem?_setIfInBounds_ne (fun hbk=>hf id hbar (by rw [hg];simp) _ g1 hbk),fun i y hi hl hy=>.inr ⟨i,y,hi,?_,hy,rfl⟩,fun i hi=>?_,Nat.le_refl _,rfl,rfl,fun _ _ _ hv=>.inl hv⟩
    ·simp only [H.set] at hl
     split at hl
     ·rename_i hii;rw [hii,hg];simp
     ·exact hl
    ·have:i≠id:=by omega
     simp [H.set,this]
  ·rename_i hlt
   cases hev
   refine .of hR he (x:=.tuple #[.bool false]) (by simp [hz,Instr.next,hget,hlt]) ?_
   have:VRL φ I [.bool false] [.bool false]:=.cons (.bool _) .nil
   exact .tup _ _ rfl (fun j c v h1 h2=>this.2 j c v h1 (by simpa using h2))
end
end Go.Ev
namespace Go.Ev
open Go
section
variable {P:Program} {G:Glob} {φ:Phi} {I:Imm} {e:Env} {h h':H} {w:World} {a:Act} {bar:Nat} {o:Oper}
theorem FQ (hE:EnvR φ I e a.tmps) (hG:GR G I) {x:Option Operand} {y:Option Opd} {v:Option AV} (hx:Fx G x=some y) (hv:Ap e y=some v):Hn φ I a.eval v x:=by
 cases x with
 | none =>
  simp only [Fx,Option.some.injEq] at hx;subst hx
  simp only [Ap,Option.some.injEq] at hv;subst hv
  trivial
 | some x =>
  simp only [Fx,Option.map_eq_some_iff] at hx
  obtain ⟨y',hy',rfl⟩:=hx
  simp only [Ap] at hv
  split at hv
  ·rename_i u hu
   cases hv
   exact If hE hG hy' hu
  ·cases hv
set_option maxHeartbeats 1000000 in
theorem YR (hR:R φ I h w) (hE:EnvR φ I e a.tmps) (hG:GR G I) (hbar:bar≤h.n) {iop:IOp} (hc:Bn P G o.op=some iop) {v:AV} (hev:BH bar e h iop=some (v,h')) :
  OpOk P a.eval o bar φ I h w v h':=by
 have S:∀ {x:Operand} {y:Opd} {v:AV},Ac G x=some y→y.ev e=some v→VR φ I v (a.eval x):=fun hx hv=>If hE hG hx hv
 generalize hop:o.op=op at hc
 cases op with
 | move x =>
  simp only [Bn,Option.map_eq_some_iff] at hc
  obtain ⟨y,hy,rfl⟩:=hc
  simp only [BH,Option.map_eq_some_iff,Prod.mk.injEq] at hev
  obtain ⟨u,hu,rfl,rfl⟩:=hev
  exact Wz hR (.inl hop) (S hy hu)
 | assign x =>
  simp only [Bn,Option.map_eq_some_iff] at hc
  obtain ⟨y,hy,rfl⟩:=hc
  simp only [BH,Option.map_eq_some_iff,Prod.mk.injEq] at hev
  obtain ⟨u,hu,rfl,rfl⟩:=hev
  exact Wz hR (.inr hop) (S hy hu)
 | pick c x y =>
  simp only [Bn,Option.bind_eq_bind,Option.bind_eq_some_iff,Option.some.injEq] at hc
  obtain ⟨c',hc',x',hx',y',hy',rfl⟩:=hc
  simp only [BH] at hev
  split at hev
  ·rename_i t u v' h1 h2 h3
   cases hev
   exact aA hR hop (S hc' h1) (S hx' h2) (S hy' h3)
  ·cases hev
 | alloc t =>
  simp only [Bn,Option.bind_eq_bind,Option.bind_eq_some_iff,Option.some.injEq] at hc
  obtain ⟨i,hi,z,hz,zc,hzc,rfl⟩:=hc
  simp only [BH] at hev
  split at hev
  ·rename_i hone
   cases hev
   exact YN hR hbar hop hi hz hzc hone
  ·cases hev
 | box t x =>
  simp only [Bn,Option.map_eq_some_iff] at hc
  obtain ⟨y,hy,rfl⟩:=hc
  simp only [BH] at hev
  split at hev
  ·rename_i u hu
   split at hev
   ·rename_i hone
    cases hev
    exact bg hR hbar hop (S hy hu) hone
   ·cases hev
  ·cases hev
 | build t ps =>
  simp only [Bn,Option.bind_eq_bind,Option.bind_eq_some_iff] at hc
  obtain ⟨i,hi,z,hz,zc,hzc,d,hd,hc⟩:=hc
  have key:∀ place qs,((∃ fs,P.underlying t=some (.struct fs)∧place=XW P fs∧fs.toList.all (fun f=>(P.info? f.type).isSome)=true)∨(∃ n e' j,P.underlying t=some (.array n e')∧P.info? e'=some j∧place=fun k=>some (k*j.size,j.size))) →
    Eb G place ps.toList=some qs→BH bar e h (.build zc qs)=some (v,h')→OpOk P a.eval o bar φ I h w v h':=fun place qs hpl hq hev=>by
   simp only [BH] at hev
   split at hev
   ·rename_i vs hvs
    simp only [Option.map_eq_some_iff,Prod.mk.injEq] at hev
    obtain ⟨cs,hcs,rfl,rfl⟩:=hev
    exact YO hR hop hi hz hzc hpl hq hvs hcs (fun x v y h1 h2=>S h1 h2)
   ·cases hev
  split at hc
  ·rename_i fs
   split at hc
   ·rename_i hall
    simp only [Option.bind_eq_some_iff,Option.some.injEq] at hc
    obtain ⟨qs,hq,rfl⟩:=hc
    exact key _ qs (.inl ⟨fs,hd,rfl,hall⟩) hq hev
   ·cases hc
  ·rename_i n e'
   simp only [Option.bind_eq_some_iff,Option.some.injEq] at hc
   obtain ⟨j,hj,qs,hq,rfl⟩:=hc
   exact key _ qs (.inr ⟨n,e',j,hd,hj,rfl⟩) hq hev
  ·cases hc
 | buildSlice t len ps =>
  simp only [Bn,Option.bind_eq_bind,Option.bind_eq_some_iff] at hc
  obtain ⟨d,hd,hc⟩:=hc
  split at hc
  ·rename_i e'
   simp only [Option.bind_eq_some_iff] at hc
   obtain ⟨j,hj,hc⟩:=hc
   split at hc
   ·rename_i hlen
    simp only [Option.bind_eq_some_iff] at hc
    obtain ⟨z,hz,zc,hzc,hc⟩:=hc
    split at hc
    ·rename_i hzl
     simp only [Option.bind_eq_some_iff,Option.some.injEq] at hc
     obtain ⟨qs,hq,rfl⟩:=hc
     simp only [BH] at hev
     split at hev
     ·rename_i vs hvs
      split at hev
      ·rename_i cs hcs
       split at hev
       ·rename_i hone
        cases hev
        exact Wy hR hbar hop hd hj hz hzc hzl hlen.1 hlen.2 hq hvs hcs hone.1 (fun x v y h1 h2=>S h1 h2)
       ·cases hev
      ·cases hev
     ·cases hev
    ·cases hc
   ·cases hc
  ·cases hc
 | load t x =>
  simp only [Bn,Option.bind_eq_bind,Option.bind_eq_some_iff,Option.some.injEq] at hc
  obtain ⟨i,hi,d,hd,y,hy,rfl⟩:=hc
  cases hyv:y.ev e with
  | none=>simp [BH,hyv] at hev
  | some u=>exact dO hR hop hd hi (S hy hyv) hyv hev
 | store t x y =>
  simp only [Bn,Option.bind_eq_bind,Option.bind_eq_some_iff,Option.some.injEq] at hc
  obtain ⟨i,hi,x',hx',y',hy',rfl⟩:=hc
  simp only [BH] at hev
  split at hev
  ·rename_i id off v' h1 h2
   split at hev
   ·rename_i hn
    simp only [Option.map_eq_some_iff,Prod.mk.injEq] at hev
    obtain ⟨h1',hw,rfl,rfl⟩:=hev
    exact dP hR hop hi (S hx' h1) (S hy' h2) hn hw
   ·cases hev
  ·cases hev
 | nilCheck x =>
  simp only [Bn,Option.map_eq_some_iff] at hc
  obtain ⟨y,hy,rfl⟩:=hc
  simp only [BH] at hev
  split at hev
  ·rename_i u hu
   split at hev
   ·rename_i hn
    cases hev
    exact Zz hR hop (S hy hu) hn
   ·cases hev
  ·cases hev
 | binOp op xt x y yt =>
  simp only [Bn,Option.bind_eq_bind,Option.bind_eq_some_iff] at hc
  obtain ⟨d,hd,hc⟩:=hc
  have kbin:∀ x' y',Ac G x=some x'→Ac G y=some y'→BH bar e h (.bin op x' y')=some (v,h')→OpOk P a.eval o bar φ I h w v h':=fun x' y' hx' hy' hev=>by
   simp only [BH] at hev
   split at hev
   ·rename_i u1 u2 h1 h2
    simp only [Option.map_eq_some_iff,Prod.mk.injEq] at hev
    obtain ⟨r,hr,rfl,rfl⟩:=hev
    exact bf hR hop (S hx' h1) (S hy' h2) hr
   ·cases hev
  have keqb:∀ neg x' y',d=.bool→(op=if neg then .neq else .eql)→Ac G x=some x'→Ac G y=some y'→BH bar e h (.eqb neg x' y')=some (v,h')→OpOk P a.eval o bar φ I h w v h':=fun neg x' y' hdb hop' hx' hy' hev=>by
   subst hdb
   simp only [BH] at hev
   split at hev
   ·rename_i b1 b2 h1 h2
    cases hev
    exact bm hR hop hd hop' (S hx' h1) (S hy' h2)
   ·cases hev
  have kno:Sp P G op xt x y d=some iop→OpOk P a.eval o bar φ I h w v h':=fun hc=>by
   unfold Sp at hc
   split at hc
   ·rename_i kd hk
    split at hc
    ·rename_i x' hx'
     obtain ⟨neg,hop',rfl⟩:=UC hc
     simp only [BH] at hev
     split at hev
     ·rename_i u hu
      simp only [Option.map_eq_some_iff,Prod.mk.injEq] at hev
      obtain ⟨t,ht,rfl,rfl⟩:=hev
      exact bo hR hop hd hk hop' (S hx' hu) ht (fun c=>rfl)
     ·cases hev
    ·cases hc
   ·split at hc
    ·rename_i x' y' ks hx' hy' hks
     split at hc
     ·rename_i hg
      obtain ⟨neg,hop',rfl⟩:=UB hc
      simp only [BH] at hev
      split at hev
      ·rename_i cs ds h1 h2
       simp only [Option.map_eq_some_iff,Prod.mk.injEq] at hev
       obtain ⟨t,ht,rfl,rfl⟩:=hev
       exact bl hR hop hd hks hg.1 hg.2 hop' (S hx' h1) (S hy' h2) ht
      ·cases hev
     ·cases hc
    ·cases hc
  split at hc
  ·simp only [Option.bind_eq_some_iff,Option.some.injEq] at hc
   obtain ⟨x',hx',y',hy',rfl⟩:=hc
   exact kbin x' y' hx' hy' hev
  ·simp only [Option.bind_eq_some_iff,Option.some.injEq] at hc
   obtain ⟨x',hx',y',hy',rfl⟩:=hc
   exact kbin x' y' hx' hy' hev
  ·split at hc
   ·simp only [Option.bind_eq_some_iff,Option.some.injEq] at hc
    obtain ⟨x',hx',y',hy',rfl⟩:=hc
    exact keqb false x' y' rfl rfl hx' hy' hev
   ·simp only [Option.bind_eq_some_iff,Option.some.injEq] at hc
    obtain ⟨x',hx',y',hy',rfl⟩:=hc
    exact keqb true x' y' rfl rfl hx' hy' hev
   ·cases hc
  ·exact kno hc
 | unOp op t x =>
  simp only [Bn,Option.bind_eq_bind,Option.bind_eq_some_iff,Option.some.injEq] at hc
  obtain ⟨x',hx',rfl⟩:=hc
  simp only [BH] at hev
  split at hev
  ·rename_i u hu
   simp only [Option.map_eq_some_iff,Prod.mk.injEq] at hev
   obtain ⟨t,ht,rfl,rfl⟩:=hev
   exact dQ hR hop (S hx' hu) ht
  ·cases hev
 | convert s d x =>
  simp only [Bn,Option.bind_eq_bind,Option.bind_eq_some_iff] at hc
  obtain ⟨ds,hs,dd,hd,hc⟩:=hc
  split at hc
  ·rename_i k
   simp only [Option.bind_eq_some_iff,Option.some.injEq] at hc
   obtain ⟨x',hx',rfl⟩:=hc
   simp only [BH] at hev
   split at hev
   ·rename_i k' n hu
    cases hev
    exact Zs hR hop hs hd (S hx' hu)
   ·cases hev
  ·split at hc
   ·rename_i e'
    simp only [Option.bind_eq_some_iff] at hc
    obtain ⟨de,hde,hc⟩:=hc
    split at hc
    ·simp only [Option.bind_eq_some_iff,Option.some.injEq] at hc
     obtain ⟨x',hx',rfl⟩:=hc
     simp only [BH] at hev
     split at hev
     ·rename_i u hu
      split at hev
      ·rename_i n cs hsrc
       split at hev
       ·rename_i bs hb
        split at hev
        ·cases hev
        ·rename_i hns
         cases hev
         exact bh hR hop hs hde hd (S hx' hu) (fun s hs'=>hns s hs') hsrc hb
       ·cases hev
      ·cases hev
     ·cases hev
    ·cases hc
   ·simp only [Option.bind_eq_some_iff,Option.some.injEq] at hc
    obtain ⟨x',hx',rfl⟩:=hc
    simp only [BH] at hev
    split at hev
    ·rename_i k n hu
     cases hev
     exact Ul hR hop hs hd rfl (S hx' hu)
    ·rename_i t hu
     cases hev
     exact Ul hR hop hs hd rfl (S hx' hu)
    ·cases hev
  ·rename_i e'
   simp only [Option.bind_eq_some_iff] at hc
   obtain ⟨de,hde,hc⟩:=hc
   split at hc
   ·simp only [Option.bind_eq_some_iff,Option.some.injEq] at hc
    obtain ⟨x',hx',rfl⟩:=hc
    simp only [BH] at hev
    split at hev
    ·rename_i t hu
     cases hev
     exact bk hR hbar hop hs hde hd (S hx' hu)
    ·cases hev
   ·cases hc
  ·cases hc
 | makeInterface t x =>
  simp only [Bn,Option.bind_eq_bind,Option.bind_eq_some_iff] at hc
  obtain ⟨d,hd,hc⟩:=hc
  split at hc
  ·cases hc
  ·rename_i hn
   simp only [Option.bind_eq_some_iff,Option.some.injEq] at hc
   obtain ⟨x',hx',rfl⟩:=hc
   simp only [BH] at hev
   split at hev
   ·rename_i u hu
    cases hev
    exact Zw hR hop hd (fun ms hm=>hn ms hm) (S hx' hu)
   ·cases hev
 | makeFunc fn first caps =>
  unfold Bn at hc
  split at hc<;>try (cases hc;done)
  all_goals rename_i heq
  all_goals first
   | (cases heq;done)
   | skip
  all_goals
   cases heq
   simp only [Option.bind_eq_bind,Option.bind_eq_some_iff,Option.some.injEq] at hc
   obtain ⟨l,hl,rfl⟩:=hc
   simp only [BH] at hev
   split at hev
   ·rename_i vs hvs
    cases hev
    exact Zv hR hop (MQ hE hG _ _ _ hl hvs)
   ·cases hev
 | makeSlice t x y =>
  simp only [Bn,Option.bind_eq_bind,Option.bind_eq_some_iff] at hc
  obtain ⟨d,hd,hc⟩:=hc
  split at hc
  ·rename_i e'
   simp only [Option.bind_eq_some_iff] at hc
   obtain ⟨j,hj,z,hz,zc,hzc,hc⟩:=hc
   split at hc
   ·rename_i hzl
    simp only [Option.bind_eq_some_iff,Option.some.injEq] at hc
    obtain ⟨x',hx',y',hy',rfl⟩:=hc
    simp only [BH] at hev
    split at hev
    ·rename_i l c h1 h2
     split at hev
     ·rename_i hcond
      cases hev
      obtain ⟨c1,c2,c3,c4,c5,c6,c7⟩:=hcond
      exact Zx hR hbar hop hd hj hz hzc hzl.1 c6 (S hx' h1) (S hy' h2) c1 c2 c3 c4 c7
     ·cases hev
    ·cases hev
   ·cases hc
  ·cases hc
 | slice t x lo hi mx =>
  simp only [Bn,Option.bind_eq_bind,Option.bind_eq_some_iff] at hc
  obtain ⟨d,hd,hc⟩:=hc
  split at hc
  ·split at hc
   ·simp only [Option.bind_eq_some_iff,Option.some.injEq] at hc
    obtain ⟨x',hx',lo',hlo,hi',hhi,rfl⟩:=hc
    simp only [BH] at hev
    split at hev
    ·rename_i s a1 b1 h1 h2 h3
     simp only [Option.map_eq_some_iff,Prod.mk.injEq] at hev
     obtain ⟨r,hr,rfl,rfl⟩:=hev
     exact VZ hR hop hd hr (S hx' h1) (FQ hE hG hlo h2) (FQ hE hG hhi h3)
    ·cases hev
   ·cases hc
  ·rename_i e'
   simp only [Option.bind_eq_some_iff,Option.some.injEq] at hc
   obtain ⟨j,hj,x',hx',lo',hlo,hi',hhi,mx',hmx,rfl⟩:=hc
   simp only [BH] at hev
   split at hev
   ·rename_i u a1 b1 c1 h1 h2 h3 h4
    simp only [Option.map_eq_some_iff,Prod.mk.injEq] at hev
    obtain ⟨r,hr,rfl,rfl⟩:=hev
    exact XA hR hop hd hj hr (S hx' h1) (FQ hE hG hlo h2) (FQ hE hG hhi h3) (FQ hE hG hmx h4)
   ·cases hev
  ·rename_i n e'
   split at hc
   ·simp only [Option.bind_eq_some_iff,Option.some.injEq] at hc
    obtain ⟨j,hj,x',hx',lo',hlo,hi',hhi,rfl⟩:=hc
    simp only [BH] at hev
    split at hev
    ·rename_i id off a1 b1 h1 h2 h3
     split at hev
     ·rename_i l u cs p g1 g2 g3
      split at hev
      ·rename_i hcond
       cases hev
       exact YQ hR hop hd hj (S hx' h1) (FQ hE hG hlo h2) (FQ hE hG hhi h3) g1 g2 g3 hcond.1 hcond.2.1 hcond.2.2
      ·cases hev
     ·cases hev
    ·cases hev
   ·cases hc
  ·cases hc
 | fieldAddr t x f =>
  simp only [Bn,Option.bind_eq_bind,Option.bind_eq_some_iff] at hc
  obtain ⟨d,hd,hc⟩:=hc
  split at hc
  ·rename_i fs
   simp only [Option.bind_eq_some_iff] at hc
   obtain ⟨fd,hf,i,hi,hc⟩:=hc
   split at hc
   ·cases hc
   ·rename_i hs
    simp only [Option.bind_eq_some_iff,Option.some.injEq] at hc
    obtain ⟨x',hx',rfl⟩:=hc
    simp only [BH] at hev
    split at hev
    ·rename_i id off hu
     cases hev
     exact Um hR hop hd hf hi hs rfl (S hx' hu)
    ·rename_i cs off hu
     cases hev
     exact Um hR hop hd hf hi hs rfl (S hx' hu)
    ·cases hev
  ·cases hc
 | field t x f =>
  simp only [Bn,Option.bind_eq_bind,Option.bind_eq_some_iff] at hc
  obtain ⟨d,hd,hc⟩:=hc
  split at hc
  ·rename_i fs
   simp only [Option.bind_eq_some_iff,Option.some.injEq] at hc
   obtain ⟨fd,hf,i,hi,d',hd',x',hx',rfl⟩:=hc
   simp only [BH] at hev
   split at hev
   ·rename_i cs hu
    simp only [Option.map_eq_some_iff,Prod.mk.injEq] at hev
    obtain ⟨r,hr,rfl,rfl⟩:=hev
    exact bq hR hop hd hf hi hd' (S hx' hu) hr
   ·cases hev
  ·cases hc
 | indexAddr t x i =>
  simp only [Bn,Option.bind_eq_bind,Option.bind_eq_some_iff] at hc
  obtain ⟨d,hd,hc⟩:=hc
  split at hc
  ·rename_i n e'
   simp only [Option.bind_eq_some_iff,Option.some.injEq] at hc
   obtain ⟨j,hj,x',hx',i',hi',rfl⟩:=hc
   simp only [BH] at hev
   split at hev
   ·rename_i id off iv h1 h2
    simp only [Option.map_eq_some_iff,Prod.mk.injEq] at hev
    obtain ⟨r,hr,rfl,rfl⟩:=hev
    exact TY hR hop hd hj (by simp [hr]) (S hx' h1) (S hi' h2)
   ·rename_i cs off iv h1 h2
    simp only [Option.map_eq_some_iff,Prod.mk.injEq] at hev
    obtain ⟨r,hr,rfl,rfl⟩:=hev
    exact TY hR hop hd hj (by simp [hr]) (S hx' h1) (S hi' h2)
   ·cases hev
  ·rename_i e'
   simp only [Option.bind_eq_some_iff,Option.some.injEq] at hc
   obtain ⟨j,hj,x',hx',i',hi',rfl⟩:=hc
   simp only [BH] at hev
   split at hev
   ·rename_i id off k' len _ iv h1 h2
    split at hev
    ·rename_i hk
     simp only [Option.map_eq_some_iff,Prod.mk.injEq] at hev
     obtain ⟨r,hr,rfl,rfl⟩:=hev
     exact Un hR hop hd hj (by simp [hk,hr]) (S hx' h1) (S hi' h2)
    ·cases hev
   ·rename_i k' len cs _ iv h1 h2
    split at hev
    ·rename_i hk
     simp only [Option.map_eq_some_iff,Prod.mk.injEq] at hev
     obtain ⟨r,hr,rfl,rfl⟩:=hev
     exact Un hR hop hd hj (by simp [hk,hr]) (S hx' h1) (S hi' h2)
    ·cases hev
   ·cases hev
  ·cases hc
 | index t x i =>
  simp only [Bn,Option.bind_eq_bind,Option.bind_eq_some_iff] at hc
  obtain ⟨d,hd,hc⟩:=hc
  split at hc
  ·rename_i n e'
   simp only [Option.bind_eq_some_iff,Option.some.injEq] at hc
   obtain ⟨j,hj,d',hd',x',hx',i',hi',rfl⟩:=hc
   simp only [BH] at hev
   split at hev
   ·rename_i cs iv h1 h2
    split at hev
    ·rename_i q hq
     simp only [Option.map_eq_some_iff,Prod.mk.injEq] at hev
     obtain ⟨r,hr,rfl,rfl⟩:=hev
     exact Zt hR hop hd hj hd' (S hx' h1) (S hi' h2) hq hr
    ·cases hev
   ·cases hev
  ·simp only [Option.bind_eq_some_iff,Option.some.injEq] at hc
   obtain ⟨x',hx',i',hi',rfl⟩:=hc
   simp only [BH] at hev
   split at hev
   ·rename_i s iv h1 h2
    split at hev
    ·rename_i q hq
     simp only [Option.map_eq_some_iff,Prod.mk.injEq] at hev
     obtain ⟨b,hb,rfl,rfl⟩:=hev
     exact Zu hR hop hd (S hx' h1) (S hi' h2) hq hb
    ·cases hev
   ·cases hev
  ·cases hc
 | range t x =>
  simp only [Bn,Option.bind_eq_bind,Option.bind_eq_some_iff] at hc
  obtain ⟨d,hd,hc⟩:=hc
  split at hc
  ·simp only [Option.bind_eq_some_iff,Option.some.injEq] at hc
   obtain ⟨x',hx',rfl⟩:=hc
   simp only [BH] at hev
   split at hev
   ·rename_i s hu
    cases hev
    exact br hR hbar hop hd (S hx' hu)
   ·cases hev
  ·cases hc
 | next x isS =>
  cases isS with
  | false=>cases hc
  | true =>
   simp only [Bn,Option.bind_eq_bind,Option.bind_eq_some_iff,Option.some.injEq] at hc
   obtain ⟨x',hx',rfl⟩:=hc
   simp only [BH] at hev
   split at hev
   ·rename_i id hu
    split at hev
    ·rename_i s pos hg
     split at hev
     ·rename_i hb
      exact Zy hR hop hb (S hx' hu) hg hev
     ·cases hev
    ·cases hev
   ·cases hev
 | typeAssert x xt t ok =>
  cases ok with
  | false=>cases hc
  | true =>
   simp only [Bn,Option.bind_eq_bind,Option.bind_eq_some_iff] at hc
   obtain ⟨d,hd,hc⟩:=hc
   split at hc
   ·cases hc
   ·rename_i hn
    simp only [Option.bind_eq_some_iff,Option.some.injEq] at hc
    obtain ⟨i,hi,z,hz,zc,hzc,x',hx',rfl⟩:=hc
    simp only [BH] at hev
    split at hev
    ·rename_i t' u hu
     split at hev<;>(rename_i ht;cases hev;exact XB hR hop hd (fun ms hm=>hn ms hm) hi hz hzc (by simp [ht]) (S hx' hu))
    ·rename_i hu
     cases hev
     exact XB hR hop hd (fun ms hm=>hn ms hm) hi hz hzc rfl (S hx' hu)
    ·cases hev
 | extract x i =>
  simp only [Bn,Option.bind_eq_bind,Option.bind_eq_some_iff,Option.some.injEq] at hc
  obtain ⟨x',hx',rfl⟩:=hc
  simp only [BH] at hev
  split at hev
  ·rename_i vs hu
   simp only [Option.map_eq_some_iff,Prod.mk.injEq] at hev
   obtain ⟨r,hr,rfl,rfl⟩:=hev
   exact bp hR hop (S hx' hu) hr
  ·cases hev
 | call c =>
  unfold Bn at hc
  split at hc
  all_goals first
   | (rename_i heq;cases heq;done)
   | (cases hc;done)
   | skip
  ·rename_i heq
   cases heq
   simp only [Option.bind_eq_bind,Option.bind_eq_some_iff,Option.some.injEq] at hc
   obtain ⟨f,hf,l,hl,rfl⟩:=hc
   cases hev
  ·rename_i x t heq
   cases heq
   simp only [Option.bind_eq_bind,Option.bind_eq_some_iff] at hc
   obtain ⟨d,hd,hc⟩:=hc
   split at hc
   ·simp only [Option.bind_eq_some_iff,Option.some.injEq] at hc
    obtain ⟨x',hx',rfl⟩:=hc
    simp only [BH] at hev
    split at hev
    ·rename_i s hu
     cases hev
     exact QH hR hop hd (S hx' hu) (.inl ⟨rfl,s,rfl,rfl⟩)
    ·cases hev
   ·rename_i e'
    simp only [Option.bind_eq_some_iff,Option.some.injEq] at hc
    obtain ⟨x',hx',rfl⟩:=hc
    simp only [BH] at hev
    split at hev
    ·rename_i hu
     cases hev
     exact QH hR hop hd (S hx' hu) (.inr ⟨⟨e',rfl⟩,.inl ⟨rfl,rfl⟩⟩)
    ·rename_i hu
     cases hev
     exact QH hR hop hd (S hx' hu) (.inr ⟨⟨e',rfl⟩,.inr (.inl ⟨_,_,_,_,_,rfl,rfl⟩)⟩)
    ·rename_i hu
     cases hev
     exact QH hR hop hd (S hx' hu) (.inr ⟨⟨e',rfl⟩,.inr (.inr ⟨_,_,_,_,rfl,rfl⟩)⟩)
    ·cases hev
   ·cases hc
  ·rename_i x t heq
   cases heq
   simp only [Option.bind_eq_bind,Option.bind_eq_some_iff] at hc
   obtain ⟨d,hd,hc⟩:=hc
   split at hc
   ·rename_i e'
    simp only [Option.bind_eq_some_iff,Option.some.injEq] at hc
    obtain ⟨x',hx',rfl⟩:=hc
    simp only [BH] at hev
    split at hev
    ·rename_i hu
     cases hev
     exact TX hR hop hd (S hx' hu) (.inl ⟨rfl,rfl⟩)
    ·rename_i hu
     cases hev
     exact TX hR hop hd (S hx' hu) (.inr (.inl ⟨_,_,_,_,rfl,rfl⟩))
    ·rename_i hu
     cases hev
     exact TX hR hop hd (S hx' hu) (.inr (.inr ⟨_,_,_,rfl,rfl⟩))
    ·cases hev
   ·cases hc
  ·rename_i x y ts heq
   cases heq
   simp only [Option.bind_eq_bind,Option.bind_eq_some_iff,Option.some.injEq] at hc
   obtain ⟨x',hx',y',hy',rfl⟩:=hc
   simp only [BH] at hev
   split at hev
   ·rename_i k a1 k' b1 h1 h2
    split at hev
    ·rename_i hk
     subst hk
     cases hev
     exact Yz (isMax:=true) hR hop (S hx' h1) (S hy' h2)
    ·cases hev
   ·cases hev
  ·rename_i x y ts heq
   cases heq
   simp only [Option.bind_eq_bind,Option.bind_eq_some_iff,Option.some.injEq] at hc
   obtain ⟨x',hx',y',hy',rfl⟩:=hc
   simp only [BH] at hev
   split at hev
   ·rename_i k a1 k' b1 h1 h2
    split at hev
    ·rename_i hk
     subst hk
     cases hev
     exact Yz (isMax:=false) hR hop (S hx' h1) (S hy' h2)
    ·cases hev
   ·cases hev
  ·rename_i s x t u heq
   cases heq
   simp only [Option.bind_eq_bind,Option.bind_eq_some_iff] at hc
   obtain ⟨d,hd,hc⟩:=hc
   split at hc
   ·rename_i e'
    simp only [Option.bind_eq_some_iff] at hc
    obtain ⟨j,hj,z,hz,zc,hzc,hc⟩:=hc
    split at hc
    ·rename_i hzl
     simp only [Option.bind_eq_some_iff] at hc
     obtain ⟨du,hdu,hc⟩:=hc
     split at hc
     ·simp only [Option.bind_eq_some_iff,Option.some.injEq] at hc
      obtain ⟨s',hs',x',hx',rfl⟩:=hc
      simp only [BH] at hev
      split at hev
      ·rename_i sv l h1 h2
       split at hev
       ·rename_i hk
        exact Zr hR hbar hop hd hj hz hzc hzl.1 hzl.2 hdu (S hs' h1) (S hx' h2) hk.2.1 hk.2.2.1 hk.2.2.2.2 hk.1 hev
       ·cases hev
      ·cases hev
     ·rename_i hni
      simp only [Option.bind_eq_some_iff,Option.some.injEq] at hc
      obtain ⟨s',hs',x',hx',rfl⟩:=hc
      simp only [BH] at hev
      split at hev
      ·rename_i sv xv h1 h2
       split at hev
       ·rename_i n xs hsrc
        split at hev
        ·rename_i hk
         exact be hR hbar hop hd hj hz hzc hzl.1 hzl.2 hdu (fun k hk=>hni k hk) (S hs' h1) (S hx' h2) hsrc hk hev
        ·cases hev
       ·cases hev
      ·cases hev
    ·cases hc
   ·cases hc
  ·rename_i s x t u heq
   cases heq
   simp only [Option.bind_eq_bind,Option.bind_eq_some_iff] at hc
   obtain ⟨d,hd,hc⟩:=hc
   split at hc
   ·rename_i e'
    simp only [Option.bind_eq_some_iff,Option.some.injEq] at hc
    obtain ⟨j,hj,s',hs',x',hx',rfl⟩:=hc
    simp only [BH] at hev
    split at hev
    ·rename_i dv sv h1 h2
     split at hev
     ·rename_i m xs hsrc
      exact bj hR hop hd hj (S hs' h1) (S hx' h2) hsrc hev
     ·cases hev
    ·cases hev
   ·cases hc
 | _=>cases hc
end
end Go.Ev
namespace Go.Ev
open Go
def WJ (P:Program) (G:Glob) (f:Nat) (args:List AV) (bar:Nat) (h:H) (r:AV) (h':H):Prop :=
 (∃ fn,P.funcs[f]? = some fn∧fn.body.isSome=true∧fn.name ≠ "runtime.NumGoroutine") ∧
 ∀ (φ:Phi) (I:Imm) (w:World) (vs:List Value),R φ I h w→GR G I→VRL φ I args vs→bar≤h.n →
  Calls P f vs.toArray w fun e w'=>∃ v φ' I',e=.returned v∧R φ' I' h' w'∧VR φ' I' r v∧Stp bar φ I h w φ' I' h' w'
def Ho (P:Program) (G:Glob) (o:Oracle):Prop:=∀ f args bar h r h',o f args bar h=some (r,h')→WJ P G f args bar h r h'
def Wf:IOp→Bool
 | .call _ _=>true
 | _=>false
def Ob (P:Program) (G:Glob) (o:Op):Option IOp :=
 match o with
 | .call { callee:=.value f,args,.. }=>match Ac G f,KF G args.toList with
  | some f',some l=>some (.call f' l)
  | _,_=>none
 | op=>match Bn P G op with
  | some i=>if Wf i=true then some .bad else some i
  | none=>some .bad
theorem Rt {op:Op} {P:Program} {G:Glob} {i:IOp} (h:Ob P G op=some i) :
  (∃ c fo f l,op=.call c∧c.callee=.value fo∧Ac G fo=some f∧KF G c.args.toList=some l∧i=.call f l)∨(Bn P G op=some i∧Wf i=false)∨i=.bad:=by
 unfold Ob at h
 split at h
 ·rename_i f args ts
  split at h
  ·rename_i f' l hf hl
   cases h
   exact .inl ⟨_,f,f',l,rfl,rfl,hf,hl,rfl⟩
  ·cases h
 ·split at h
  ·rename_i j hj
   split at h
   ·cases h;exact .inr (.inr rfl)
   ·rename_i hn
    cases h
    exact .inr (.inl ⟨hj,by simpa using hn⟩)
  ·cases h;exact .inr (.inr rfl)
def Yt (N:Nat):Option Nat→Bool
 | some d=>decide (d<N)
 | none=>true
def NW (ops:Array Oper):Option (Nat × Bool)→Option (Option (Nat × Bool))
 | none=>some none
 | some (j,want)=>match (ops[j]?).bind (·.dst) with
  | some s=>some (some (s,want))
  | none=>none
def HN (P:Program) (G:Glob) (N:Nat) (ops:Array Oper) (o:Oper):Option IOper :=
 match Ob P G o.op,NW ops o.guard with
 | some op,some g=>if Yt N o.dst=true then some { dst:=o.dst,op,guard:=g } else none
 | _,_=>none
def Es (P:Program) (G:Glob) (N:Nat) (ops:Array Oper):List Oper→Option (List IOper)
 | []=>some []
 | o::r=>match HN P G N ops o,Es P G N ops r with | some x,some l=>some (x::l) | _,_=>none
structure Rel (G:Glob) (N bar:Nat) (φ0:Phi) (I0:Imm) (h0:H) (w0:World) (e:Env) (h:H) (a:Act) (w:World):Prop where
 mk' ::
 ex:∃ φ I,R φ I h w∧EnvR φ I e a.tmps∧GR G I∧Stp bar φ0 I0 h0 w0 φ I h w
 defers:a.defers=[]
 size:a.tmps.size=N
 bar:bar≤h.n
section
variable {P:Program} {G:Glob} {N bar:Nat} {φ0:Phi} {I0:Imm} {h0:H} {w0:World} {o:Oracle}
theorem MR (a:Act) (d:Option Nat) (v:Value):(a.put d v).defers=a.defers:=by cases d<;>rfl
theorem IQ (a:Act) (d:Option Nat) (v:Value):(a.put d v).tmps.size=a.tmps.size:=by cases d<;>simp [Act.put]
theorem Rel.put {e:Env} {h h':H} {a:Act} {w w':World} {φ φ':Phi} {I I':Imm} {d:Option Nat} {v:AV} {x:Value} (r:Rel G N bar φ0 I0 h0 w0 e h a w) (hE:EnvR φ I e a.tmps) (hG:GR G I) (hS:Stp bar φ0 I0 h0 w0 φ I h w)
  (hR:R φ' I' h' w') (hx:VR φ' I' v x) (hs:Stp bar φ I h w φ' I' h' w') (hd:∀ i,d=some i→i<N):Rel G N bar φ0 I0 h0 w0 (e.put d v) h' (a.put d x) w' where
 ex:=⟨φ',I',hR,(hE.mono hs.phi hs.imm).put (fun i hi=>by rw [r.size];exact hd i hi) hx,hG.mono hs.imm,hS.trans hs⟩
 defers:=by rw [MR];exact r.defers
 size:=by rw [IQ];exact r.size
 bar:=Nat.le_trans r.bar hs.n
theorem GP {ops:Array Oper} {x:Oper} {y:IOper} (h:HN P G N ops x=some y):y.dst=x.dst∧(∀ i,x.dst=some i→i<N)∧Ob P G x.op=some y.op ∧
  ((x.guard=none∧y.guard=none)∨∃ j want s,x.guard=some (j,want)∧(ops[j]?).bind (·.dst)=some s∧y.guard=some (s,want)):=by
 unfold HN at h
 split at h
 ·rename_i op g hop hg
  split at h
  ·rename_i hd
   cases h
   refine ⟨rfl,fun i hi=>by rw [hi] at hd;simpa [Yt] using hd,hop,?_⟩
   cases hgg:x.guard with
   | none =>
    rw [hgg] at hg
    simp only [NW,Option.some.injEq] at hg
    exact .inl ⟨rfl,hg.symm⟩
   | some q =>
    obtain ⟨j,want⟩:=q
    rw [hgg] at hg
    simp only [NW] at hg
    split at hg
    ·rename_i s hs
     cases hg
     exact .inr ⟨j,want,s,rfl,hs,rfl⟩
    ·cases hg
  ·cases h
 ·cases h
theorem Jt {ops:Array Oper} {x:Oper} {y:IOper} (hc:HN P G N ops x=some y) {φ:Phi} {I:Imm} {e:Env} {a:Act} (hE:EnvR φ I e a.tmps) {b:Bool} (hw:EJ e y.guard=some b) :
  Region.wanted x (yielded ops a.tmps)=b:=by
 obtain ⟨_,_,_,hg⟩:=GP hc
 rcases hg with ⟨hg,hg'⟩ | ⟨j,want,s,hg,hs,hg'⟩
 ·rw [hg'] at hw;simp only [EJ,Option.some.injEq] at hw
  simp [Region.wanted,hg,← hw]
 ·rw [hg'] at hw
  simp only [EJ] at hw
  split at hw
  ·rename_i t ht
   cases hw
   obtain ⟨h1,h2⟩:=hE s _ ht
   have:a.tmps[s]? = some (.bool t):=by
    rw [Array.getElem?_eq_getElem h1]
    simp [h1] at h2
    generalize a.tmps[s]=z at h2
    cases h2;rfl
   simp [Region.wanted,hg,yielded,hs,this]
  ·rename_i ht
   cases hw
   obtain ⟨h1,h2⟩:=hE s _ ht
   have:∃ vs,a.tmps[s]? = some (.tuple vs):=by
    rw [Array.getElem?_eq_getElem h1]
    simp [h1] at h2
    generalize a.tmps[s]=z at h2
    cases h2;exact ⟨_,rfl⟩
   obtain ⟨vs,hvs⟩:=this
   simp [Region.wanted,hg,yielded,hs,hvs]
  ·cases hw
theorem JD (ho:Ho P G o) {x:Oper} {y:IOper} {ops:Array Oper} (hc:HN P G N ops x=some y) {e:Env} {h h':H} {a:Act} {w:World} {v:AV} {φ:Phi} {I:Imm} (hR:R φ I h w) (hE:EnvR φ I e a.tmps) (hG:GR G I) (hbar:bar≤h.n)
  (hev:Ae o bar e h y.op=some (v,h')) {K:Act→World→Prop} {Q:Exit→Act→World→Prop}
  (hK:∀ xv w' φ' I',R φ' I' h' w'→VR φ' I' v xv→Stp bar φ I h w φ' I' h' w'→K (a.put x.dst xv) w'):x.wp P a w K Q:=by
 obtain ⟨hdst,hd,hop,_⟩:=GP hc
 have hplain:OpOk P a.eval x bar φ I h w v h'→x.wp P a w K Q:=fun hok=>by
  obtain ⟨y',w',φ',I',hr,hR',hv,hs⟩:=hok
  unfold Oper.wp
  rcases hr with hr | ⟨hr,rfl⟩
  ·rw [hr]
   exact hK _ _ _ _ hR' hv hs
  ·rw [hr]
   exact hK _ _ _ _ hR' hv hs
 rcases Rt hop with ⟨c,fo,f,l,hxc,hfo,hf,hargs,hy⟩ | ⟨hop',hnc⟩ | hbad
 ·rw [hy] at hev
  simp only [Ae] at hev
  split at hev
  ·rename_i g caps vs h1 h2
   obtain ⟨⟨fn,hfn,hbody,hname⟩,hcs⟩:=ho _ _ _ _ _ _ hev
   have hfv:=If hE hG hf h1
   have hav:=MQ hE hG _ _ _ hargs h2
   generalize hz:a.eval fo=z at hfv
   cases hfv with
   | fn _ _ cv hc1 hc2 =>
    have hall:VRL φ I (vs++caps) (c.args.toList.map a.eval++cv.toList):=hav.append ⟨by simpa using hc1,fun i cc v g1 g2=>hc2 i cc v g1 (by simpa using g2)⟩
    have hrun:(execOp a.eval x).run P w=.ok (.enter g (c.args.toList.map a.eval++cv.toList).toArray) w:=by
     simp only [execOp,hxc,resolve,hfo,hz,Deferred.ofValue,Sem.run_bind,Sem.run_pure,Result.andThen_ok,invoke,callFunc,run_program,hfn]
     have hn:(fn.name == "runtime.NumGoroutine")=false:=by simpa using hname
     have hb:fn.body.isNone=false:=by
      cases hbb:fn.body with
      | none=>rw [hbb] at hbody;cases hbody
      | some _=>rfl
     simp only [hn,hb,Bool.false_eq_true,if_false,Sem.run_pure]
     congr 2
     apply Array.ext'
     simp
    unfold Oper.wp
    rw [hrun]
    refine (hcs φ I w _ hR hG hall hbar).mono fun e' w' hpost=>?_
    obtain ⟨v',φ',I',rfl,hR',hv,hs⟩:=hpost
    exact hK _ _ _ _ hR' hv hs
  ·cases hev
 ·refine hplain (YR hR hE hG hbar hop' ?_)
  cases hy:y.op<;>rw [hy] at hev hnc<;>first | exact hev | cases hnc
 ·rw [hbad] at hev;cases hev
theorem UT (ho:Ho P G o) {x:Oper} {y:IOper} {ops:Array Oper} (hc:HN P G N ops x=some y) {e:Env} {h h':H} {a:Act} {w:World} {v:AV} (r:Rel G N bar φ0 I0 h0 w0 e h a w)
  (hev:Ae o bar e h y.op=some (v,h')) {K:Act→World→Prop} {Q:Exit→Act→World→Prop} (hK:∀ a' w',Rel G N bar φ0 I0 h0 w0 (e.put y.dst v) h' a' w'→K a' w'):x.wp P a w K Q:=by
 obtain ⟨hdst,hd,hop,_⟩:=GP hc
 obtain ⟨φ,I,hR,hE,hG,hS⟩:=r.ex
 exact JD ho hc hR hE hG r.bar hev fun xv w' φ' I' hR' hv hs=>hK _ _ (by rw [hdst];exact r.put hE hG hS hR' hv hs hd)
theorem Je (ho:Ho P G o) {ops:Array Oper} {Q:Exit→Act→World→Prop}:∀ (l:List Oper) (k:Nat) (il:List IOper) (e e':Env) (h h':H) (a:Act) (w:World),(∀ j,l[j]? = ops[k+j]?)→Es P G N ops l=some il →
  BQ o bar il e h=some (e',h')→Rel G N bar φ0 I0 h0 w0 e h a w→(∀ a' w',Rel G N bar φ0 I0 h0 w0 e' h' a' w'→Q .normal a' w')→wpOps P ops Q (List.range' k l.length) a w
 | [],k,il,e,e',h,h',a,w,hl,hc,hr,r,hQ=>by
  simp only [Es,Option.some.injEq] at hc;subst hc
  simp only [BQ,Option.some.injEq,Prod.mk.injEq] at hr
  obtain ⟨rfl,rfl⟩:=hr
  exact hQ a w r
 | x::l,k,il,e,e',h,h',a,w,hl,hc,hr,r,hQ=>by
  simp only [Es] at hc
  split at hc
  ·rename_i y il' hy hil
   cases hc
   have hk:ops[k]? = some x:=by simpa using (hl 0).symm
   have hl':∀ j,l[j]? = ops[k+1+j]?:=fun j=>by have:=hl (j+1);simpa [Nat.add_assoc,Nat.add_comm 1 j] using this
   obtain ⟨φ,I,hR,hE,hG,hS⟩:=r.ex
   simp only [List.length_cons,List.range'_succ,wpOps,hk]
   simp only [BQ] at hr
   split at hr
   ·rename_i hw
    rw [Jt hy hE hw]
    simp only [if_true]
    split at hr
    ·rename_i v h1 hrun
     exact .inl (UT ho hy r hrun fun a' w' r'=>Je ho l (k+1) il' _ _ _ _ a' w' hl' hil hr r' hQ)
    ·cases hr
   ·rename_i hw
    rw [Jt hy hE hw]
    simp only [Bool.false_eq_true,if_false]
    obtain ⟨hdst,hd,_,_⟩:=GP hy
    refine Je ho l (k+1) il' _ _ _ _ _ w hl' hil hr ?_ hQ
    rw [hdst]
    exact r.put hE hG hS hR .undef (.refl _ _ _ _ _) hd
   ·cases hr
  ·cases hc
end
end Go.Ev
namespace Go.Ev
open Go
def Fp:Opd→List Nat
 | .t n=>[n]
 | .c _=>[]
def Jb:List Opd→List Nat
 | []=>[]
 | x::r=>Fp x++Jb r
def LP:List (Nat × Nat × Opd)→List Nat
 | []=>[]
 | (_,_,x)::r=>Fp x++LP r
def KX:Option Opd→List Nat
 | none=>[]
 | some x=>Fp x
def CB:IOp→List Nat
 | .mov x | .box x | .nilc x | .eqn _ _ x | .un _ x | .cint _ x | .cstr x | .cbs x | .csb x | .mkif _ x | .fadr _ x | .fld _ _ _ x | .ext x _ | .len x | .lens x | .cap x | .rng x | .next x | .tas _ _ x | .ld _ _ x=>Fp x
 | .pick c a b=>Fp c++Fp a++Fp b
 | .alloc _ | .bad=>[]
 | .build _ ps | .bslice _ _ _ ps=>LP ps
 | .st _ a v | .bin _ a v | .eqb _ a v | .eqa _ _ a v | .iadr _ a v | .iadrA _ _ a v | .idxs a v | .idxA _ _ _ a v | .app _ _ a v | .appz _ _ _ a v | .cpy _ a v | .mm _ a v | .mksl _ _ _ a v=>Fp a++Fp v
 | .mkfn _ cs=>Jb cs
 | .slc _ x a b c=>Fp x++KX a++KX b++KX c
 | .slcs x a b | .slarr _ _ x a b=>Fp x++KX a++KX b
 | .call f xs=>Fp f++Jb xs
def Pl:IOp→Bool
 | .alloc _ | .box _ | .bslice .. | .st .. | .csb _ | .mksl .. | .app .. | .appz .. | .cpy .. | .rng _ | .next _ | .call ..=>true
 | _=>false
def looks:IOp→Bool
 | .ld .. | .cbs _ | .slarr ..=>true
 | _=>false
theorem Ls {e e':Env} {x:Opd} (h:∀ t ∈ Fp x,e.get t=e'.get t):x.ev e=x.ev e':=by
 cases x with
 | t n=>exact h n (by simp [Fp])
 | c v=>rfl
theorem RW {e e':Env}:∀ {xs:List Opd},(∀ t ∈ Jb xs,e.get t=e'.get t)→KG e xs=KG e' xs
 | [],_=>rfl
 | x::r,h=>by
  simp only [KG]
  rw [Ls (x:=x) (fun t ht=>h t (by simp [Jb,ht])),RW (xs:=r) (fun t ht=>h t (by simp [Jb,ht]))]
theorem Ml {e e':Env}:∀ {xs:List (Nat × Nat × Opd)},(∀ t ∈ LP xs,e.get t=e'.get t)→AX e xs=AX e' xs
 | [],_=>rfl
 | (i,n,x)::r,h=>by
  simp only [AX]
  rw [Ls (x:=x) (fun t ht=>h t (by simp [LP,ht])),Ml (xs:=r) (fun t ht=>h t (by simp [LP,ht]))]
theorem UQ {e e':Env} {x:Option Opd} (h:∀ t ∈ KX x,e.get t=e'.get t):Ap e x=Ap e' x:=by
 cases x with
 | none=>rfl
 | some x=>simp only [Ap];rw [Ls (x:=x) (fun t ht=>h t (by simp [KX,ht]))]
theorem US {o:Oracle} {bar:Nat} {e e':Env} {h:H} {op:IOp} (hs:∀ t ∈ CB op,e.get t=e'.get t):Ae o bar e h op=Ae o bar e' h op:=by
 have S1:∀ x:Opd,(∀ t ∈ Fp x,t ∈ CB op)→x.ev e=x.ev e':=fun x hx=>Ls fun t ht=>hs t (hx t ht)
 have S2:∀ x:Option Opd,(∀ t ∈ KX x,t ∈ CB op)→Ap e x=Ap e' x:=fun x hx=>UQ fun t ht=>hs t (hx t ht)
 have S3:∀ xs:List Opd,(∀ t ∈ Jb xs,t ∈ CB op)→KG e xs=KG e' xs:=fun x hx=>RW fun t ht=>hs t (hx t ht)
 have S4:∀ xs:List (Nat × Nat × Opd),(∀ t ∈ LP xs,t ∈ CB op)→AX e xs=AX e' xs:=fun x hx=>Ml fun t ht=>hs t (hx t ht)
 cases op with
 | mov x | box x | nilc x | eqn _ _ x | un _ x | cint _ x | cstr x | cbs x | csb x | mkif _ x | fadr _ x | fld _ _ _ x | ext x _ | len x | lens x | cap x | rng x | next x | tas _ _ x | ld _ _ x =>
  simp only [Ae,BH];rw [S1 x (fun t ht=>ht)]
 | pick c a b=>simp only [Ae,BH];rw [S1 c (fun t ht=>by simp [CB,ht]),S1 a (fun t ht=>by simp [CB,ht]),S1 b (fun t ht=>by simp [CB,ht])]
 | alloc z | bad=>rfl
 | build z ps | bslice _ _ _ ps=>simp only [Ae,BH];rw [S4 ps (fun t ht=>ht)]
 | st _ a v | bin _ a v | eqb _ a v | eqa _ _ a v | iadr _ a v | iadrA _ _ a v | idxs a v | idxA _ _ _ a v | app _ _ a v | appz _ _ _ a v | cpy _ a v | mm _ a v | mksl _ _ _ a v =>
  simp only [Ae,BH];rw [S1 a (fun t ht=>by simp [CB,ht]),S1 v (fun t ht=>by simp [CB,ht])]
 | mkfn _ cs=>simp only [Ae,BH];rw [S3 cs (fun t ht=>ht)]
 | slc _ x a b c=>simp only [Ae,BH];rw [S1 x (fun t ht=>by simp [CB,ht]),S2 a (fun t ht=>by simp [CB,ht]),S2 b (fun t ht=>by simp [CB,ht]),S2 c (fun t ht=>by simp [CB,ht])]
 | slcs x a b | slarr _ _ x a b=>simp only [Ae,BH];rw [S1 x (fun t ht=>by simp [CB,ht]),S2 a (fun t ht=>by simp [CB,ht]),S2 b (fun t ht=>by simp [CB,ht])]
 | call f xs=>simp only [Ae];rw [S1 f (fun t ht=>by simp [CB,ht]),S3 xs (fun t ht=>by simp [CB,ht])]
theorem TP {α:Type} {x:Option α} {h h':H} {v:α} (hh:x.map (·,h)=some (v,h')):h'=h∧x=some v:=by
 cases x with
 | none=>cases hh
 | some u=>simp at hh;exact ⟨hh.2.symm,by rw [hh.1]⟩
set_option maxHeartbeats 2000000 in
theorem Vk {o:Oracle} {bar:Nat} {e:Env} {h h':H} {op:IOp} {v:AV} (he:Pl op=false) (hr:Ae o bar e h op=some (v,h')):h'=h∧(looks op=false→∀ h2,Ae o bar e h2 op=some (v,h2)):=by
 cases op<;>simp only [Pl] at he<;>try (cases he;done)
 all_goals simp only [Ae,BH] at hr ⊢
 all_goals first
  | (obtain ⟨h1,h2⟩:=TP hr;exact ⟨h1,fun _ h3=>by rw [h2];rfl⟩)
  | skip
 all_goals (repeat' split at hr)<;>first
  | (cases hr;done)
  | (cases hr;exact ⟨rfl,fun hl=>by first | (cases hl;done) | (intro h2;simp_all;done) | (intro h2;simp_all;omega)⟩)
  | (obtain ⟨h1,h2⟩:=TP hr;exact ⟨h1,fun hl=>by first | (cases hl;done) | (intro h3;simp_all)⟩)
  | (simp only [Option.map_eq_some_iff,Prod.mk.injEq] at hr;obtain ⟨u,h1,h2,h3⟩:=hr;exact ⟨h3.symm,fun hl=>by first | (cases hl;done) | (intro h4;simp_all)⟩)
def Jd (pu:Nat→Bool):IOp→Bool
 | .call (.c (.fn f [])) _=>pu f
 | _=>false
def eff (pu:Nat→Bool) (op:IOp):Bool:=Pl op&&!Jd pu op
def No (pu:Nat→Bool) (op:IOp):Bool:=looks op||Jd pu op
def Is (o:Oracle) (pu:Nat→Bool):Prop:=∀ f args bar h r h',pu f=true→o f args bar h=some (r,h')→h'=h
theorem Ki {o:Oracle} {pu:Nat→Bool} (hp:Is o pu) {bar:Nat} {e:Env} {h h':H} {op:IOp} {v:AV} (he:eff pu op=false) (hr:Ae o bar e h op=some (v,h')):h'=h∧(No pu op=false→∀ h2,Ae o bar e h2 op=some (v,h2)):=by
 cases hef:Pl op with
 | false =>
  obtain ⟨h1,h2⟩:=Vk hef hr
  exact ⟨h1,fun hl=>h2 (by unfold No at hl;simp only [Bool.or_eq_false_iff] at hl;exact hl.1)⟩
 | true =>
  have hpc:Jd pu op=true:=by unfold eff at he;rw [hef] at he;simpa using he
  refine ⟨?_,fun hl=>by unfold No at hl;rw [hpc] at hl;simp at hl⟩
  unfold Jd at hpc
  split at hpc
  ·rename_i f xs
   simp only [Ae,Opd.ev] at hr
   split at hr
   ·rename_i g caps vs h1 h2
    cases h1
    exact hp _ _ _ _ _ _ hpc hr
   ·cases hr
  ·cases hpc
def Uy:IOp→Bool
 | .alloc z=>z.all AV.free
 | .mksl _ _ z _ _=>z.all AV.free
 | .csb _=>true
 | .bslice _ z _ _=>z.all AV.free
 | _=>false
def Shape (s:Nat→AV):Prop:=(∀ id,s id=.ptr id 0)∨∃ k len full,∀ id,s id=.sl id 0 k len full
theorem YX {z:List AV} (hz:z.all AV.free=true):∀ n,∀ c ∈ rep z n,c.free=true:=by
 intro n
 induction n with
 | zero=>intro c hc;simp [rep] at hc
 | succ n ih =>
  intro c hc
  simp only [rep,List.mem_append] at hc
  rcases hc with hc | hc
  ·exact List.all_eq_true.1 hz c hc
  ·exact ih c hc
theorem Xh {o:Oracle} {bar:Nat} {e:Env} {h h':H} {op:IOp} {v:AV} (ha:Uy op=true) (hr:Ae o bar e h op=some (v,h')) (hf:IY op=true→∀ cs q,h'.get h.n=some (.cells cs q)→cs.all AV.free=true) :
  ∃ s cs,Shape s∧v=s h.n∧h'=h.alloc (.cells cs 0)∧(∀ c ∈ cs,c.free=true)∧∀ bar2 h2,Ae o bar2 e h2 op=some (s h2.n,h2.alloc (.cells cs 0)):=by
 cases op<;>simp only [Uy] at ha<;>try (cases ha;done)
 ·rename_i z
  simp only [Ae,BH] at hr ⊢
  split at hr
  ·rename_i hc
   cases hr
   exact ⟨fun id=>.ptr id 0,z,.inl fun _=>rfl,rfl,rfl,fun c hc=>List.all_eq_true.1 ha c hc,fun bar2 h2=>by simp [hc]⟩
  ·cases hr
 ·rename_i k z len ps
  simp only [Ae,BH] at hr ⊢
  split at hr
  ·rename_i vs hvs
   split at hr
   ·rename_i cs hcs
    split at hr
    ·rename_i hc
     cases hr
     exact ⟨fun id=>.sl id 0 k len true,cs,.inr ⟨k,len,true,fun _=>rfl⟩,rfl,rfl,fun c hc=>List.all_eq_true.1 (hf rfl cs 0 (by simp [H.alloc])) c hc,fun bar2 h2=>by rw [if_pos hc]⟩
    ·cases hr
   ·cases hr
  ·cases hr
 ·rename_i x
  simp only [Ae,BH] at hr ⊢
  split at hr
  ·rename_i s hs
   cases hr
   exact ⟨fun id=>.sl id 0 1 s.size false,_,.inr ⟨1,_,false,fun _=>rfl⟩,rfl,rfl,fun c hc=>by
    simp only [List.mem_map] at hc
    obtain ⟨_,_,rfl⟩:=hc
    rfl,fun bar2 h2=>rfl⟩
  ·cases hr
 ·rename_i k bytes z l c
  simp only [Ae,BH] at hr ⊢
  split at hr
  ·rename_i l' c' h1 h2
   split at hr
   ·rename_i hc
    cases hr
    exact ⟨fun id=>.sl id 0 k l'.toNat (decide (l'=c')),_,.inr ⟨k,_,_,fun _=>rfl⟩,rfl,rfl,YX ha _,fun bar2 h2=>by rw [if_pos hc]⟩
   ·cases hr
  ·cases hr
def Tr (o:Oracle) (bar:Nat) (il:List IOper) (E:Nat→Env) (Hh:Nat→H) (V:Nat→AV) (W:Nat→Bool):Prop :=
 ∀ i x,il[i]? = some x→E (i+1)=(E i).put x.dst (V i)∧EJ (E i) x.guard=some (W i)∧(W i=true→Ae o bar (E i) (Hh i) x.op=some (V i,Hh (i+1)))∧(W i=false→V i=.undef∧Hh (i+1)=Hh i)
theorem ZA {o:Oracle} {bar:Nat}:∀ (il:List IOper) (e e':Env) (h h':H),BQ o bar il e h=some (e',h')→∃ E Hh V W,Tr o bar il E Hh V W∧E 0=e∧Hh 0=h∧E il.length=e'∧Hh il.length=h' ∧
  ∀ k,k≤il.length→BQ o bar (il.take k) e h=some (E k,Hh k)
 | [],e,e',h,h',hr=>by
  simp only [BQ,Option.some.injEq,Prod.mk.injEq] at hr
  obtain ⟨rfl,rfl⟩:=hr
  exact ⟨fun _=>e,fun _=>h,fun _=>.undef,fun _=>true,fun i x hx=>by simp at hx,rfl,rfl,rfl,rfl,fun k _=>by simp [BQ]⟩
 | x::il,e,e',h,h',hr=>by
  simp only [BQ] at hr
  have go:∀ v h1 b,EJ e x.guard=some b→(b=true→Ae o bar e h x.op=some (v,h1))→(b=false→v=.undef∧h1=h)→BQ o bar il (e.put x.dst v) h1=some (e',h') →
    ∃ E Hh V W,Tr o bar (x::il) E Hh V W∧E 0=e∧Hh 0=h∧E (x::il).length=e'∧Hh (x::il).length=h'∧∀ k,k≤(x::il).length→BQ o bar ((x::il).take k) e h=some (E k,Hh k):=fun v h1 b hw h2 h3 h4=>by
   obtain ⟨E,Hh,V,W,ht,t1,t2,t3,t4,t5⟩:=ZA il _ _ _ _ h4
   refine ⟨fun i=>match i with | 0=>e | i+1=>E i,fun i=>match i with | 0=>h | i+1=>Hh i,fun i=>match i with | 0=>v | i+1=>V i,fun i=>match i with | 0=>b | i+1=>W i,?_,rfl,rfl,t3,t4,?_⟩
   rotate_left
   ·intro k hk
    cases k with
    | zero=>simp [BQ]
    | succ k =>
     simp only [List.take_succ_cons,BQ,hw]
     cases b with
     | true=>simp only [h2 rfl];exact t5 k (by simpa using hk)
     | false=>obtain ⟨rfl,rfl⟩:=h3 rfl;exact t5 k (by simpa using hk)
   intro i y hy
   cases i with
   | zero =>
    simp only [List.getElem?_cons_zero,Option.some.injEq] at hy;subst hy
    exact ⟨t1,hw,fun hb=>by rw [h2 hb];simp [t2],fun hb=>⟨(h3 hb).1,by simp only [t2];exact (h3 hb).2⟩⟩
   | succ i=>exact ht i y (by simpa using hy)
  split at hr
  ·rename_i hw
   split at hr
   ·rename_i v h1 hrun
    exact go v h1 true hw (fun _=>hrun) (fun hf=>by cases hf) hr
   ·cases hr
  ·rename_i hw
   exact go .undef h false hw (fun hf=>by cases hf) (fun _=>⟨rfl,rfl⟩) hr
  ·cases hr
def GF:Option (Nat × Bool)→List Nat
 | none=>[]
 | some (s,_)=>[s]
def Hp (x y:IOper):Bool :=
 (match x.dst with | some t=>(CB y.op++GF y.guard).contains t||y.dst == some t | none=>false) ||
 (match y.dst with | some t=>(CB x.op++GF x.guard).contains t | none=>false)
def IT (ops:List Oper):List Nat→List Nat
 | acc=>match ops with
  | []=>acc
  | o::r=>IT r (acc++[o.after.toList.foldl (fun s e=>if Region.binds .any e then s ||| 2 ^ e.on ||| acc.getD e.on 0 else s) 0])
def GN (ops:Array Oper):List Nat:=IT ops.toList []
def BV (pu:Nat→Bool) (il:List IOper) (j:Nat):Bool:=match il[j]? with
 | some y=>eff pu y.op
 | none=>false
def IW (pu:Nat→Bool) (b:List Nat) (il:List IOper) (j:Nat) (y:IOper):Bool :=
 Uy y.op&&y.guard.isNone&&il.zipIdx.all fun (z,q) =>
  !(decide (j<q)&&match y.dst with | some t=>(CB z.op++GF z.guard).contains t||z.dst == some t | none=>false)||(List.range j).all fun i=>!BV pu il i||(b.getD q 0).testBit i
def VV (pu:Nat→Bool) (b:List Nat) (il:List IOper) (i k:Nat):Bool :=
 (List.range il.length).all fun j=>!BV pu il j||((!(decide (k≤j)&&decide (j<i))||!(b.getD i 0).testBit j||(match il[j]? with | some y=>IW pu b il j y | none=>false))&&(!(decide (i<j)&&decide (j<k))||!(b.getD j 0).testBit i))
def asks (pu:Nat→Bool) (ops:Array Oper) (il:List IOper):List (Nat × Nat) :=
 let b:=GN ops
 (il.zipIdx.flatMap fun (y,i)=>if No pu y.op then (List.range (il.length+1)).filterMap fun k=>if (decide (k=il.length)||(BV pu il k&&!(b.getD i 0).testBit k))&&VV pu b il i k&&(List.range il.length).any (fun j=>BV pu il j&&((decide (k≤j)&&decide (j<i))||(decide (i≤j)&&decide (j<k)))) then some (i,k) else none else []) ++
 il.zipIdx.filterMap fun (y,i)=>if IY y.op&&(List.range i).any (fun j=>BV pu il j&&!(b.getD i 0).testBit j) then some (i,i) else none
def Gw (pu:Nat→Bool) (ops:Array Oper) (il:List IOper):Bool :=
 let b:=GN ops
 (il.zipIdx.all fun (y,j)=>(il.take j).zipIdx.all fun (x,i)=>(b.getD j 0).testBit i||(!Hp x y&&(!(eff pu x.op&&eff pu y.op)||IW pu b il j y))) &&
 ops.toList.zipIdx.all fun (o,j)=>o.after.toList.all fun e=>!Region.binds .any e||decide (e.on<j)
end Go.Ev
namespace Go.Ev
open Go
section
variable {φ:Phi} {w:World}
theorem Wc (l:List AV) (h:AV.free.freeL l=true) (i:Nat) (c:AV) (hc:l[i]? = some c):c.free=true:=by
 induction l generalizing i with
 | nil=>simp at hc
 | cons x r ih =>
  simp only [AV.free.freeL,Bool.and_eq_true] at h
  cases i with
  | zero=>simp at hc;subst hc;exact h.1
  | succ i=>exact ih h.2 i (by simpa using hc)
theorem VR.free {φ':Phi} {I:Imm} {c:AV} {v:Value} (h:VR φ I c v):c.free=true→VR φ' I c v:=by
 have hL:∀ (l:List AV),AV.free.freeL l=true→∀ (i:Nat) (c:AV),l[i]? = some c→c.free=true:=by
  intro l
  induction l with
  | nil=>intro _ i c h;simp at h
  | cons x r ih =>
   intro h i c hc
   simp only [AV.free.freeL,Bool.and_eq_true] at h
   cases i with
   | zero=>simp at hc;subst hc;exact h.1
   | succ i=>exact ih h.2 i c (by simpa using hc)
 induction h with
 | bool b=>intro _;exact .bool b
 | int k n=>intro _;exact .int k n
 | flt k n=>intro _;exact .flt k n
 | str s=>intro _;exact .str s
 | nilptr=>intro _;exact .nilptr
 | ptr=>intro hf;simp [AV.free] at hf
 | fptr cs off b o vs h1 _ h3 ih=>intro _;exact .fptr cs off b o vs h1 (fun i c hc=>ih i c hc (h3 i c hc).1) h3
 | nilsl=>intro _;exact .nilsl
 | sl=>intro hf;simp [AV.free] at hf
 | sl0=>intro hf;simp [AV.free] at hf
 | fz k len cs full b o cap vs h1 _ h3 h4 h5 h6 ih=>intro _;exact .fz k len cs full b o cap vs h1 (fun i c hc=>ih i c hc (h3 i c hc).1) h3 h4 h5 h6
 | fz0 k full a cap h5=>intro _;exact .fz0 k full a cap h5
 | nilmap=>intro _;exact .nilmap
 | map=>intro hf;simp [AV.free] at hf
 | fn f cs vs h1 _ ih=>intro hf;exact .fn f cs vs h1 (fun i c v g1 g2=>ih i c v g1 g2 (hL cs (by simpa [AV.free] using hf) i c g1))
 | nilfn=>intro _;exact .nilfn
 | ifc t c v _ ih=>intro hf;exact .ifc t c v (ih (by simpa [AV.free] using hf))
 | nilifc=>intro _;exact .nilifc
 | agg cs vs h1 _ ih=>intro hf;exact .agg cs vs h1 (fun i c v g1 g2=>ih i c v g1 g2 (hL cs (by simpa [AV.free] using hf) i c g1))
 | tup cs vs h1 _ ih=>intro hf;exact .tup cs vs h1 (fun i c v g1 g2=>ih i c v g1 g2 (hL cs (by simpa [AV.free] using hf) i c g1))
theorem R.back {φ1:Phi} {I I1:Imm} {h h1:H} {w1:World} (hR:R φ I h w) (hR1:R φ1 I1 h1 w1) (hs:Stp h.n φ I h w φ1 I1 h1 w1):R φ I1 h w1:=by
 have hblk:∀ b,b<w.heap.size→w1.heap[b]? = w.heap[b]?:=fun b hb=>hs.frame b hb fun i hi hl=>absurd (hR.wf i hi) hl
 refine ⟨hR.wf,hR.dom,fun i x hx=>?_,hR.inj,hR1.imm⟩
 have hi:i<h.n:=by
  by_cases hi:i<h.n
  ·exact hi
  ·rw [hR.wf i (by omega)] at hx;cases hx
 have hx1:h1.get i=some x:=by rw [hs.old i hi];exact hx
 have ho:=hR.obj i x hx
 have ho1:=hR1.obj i x hx1
 cases x with
 | cells cs p =>
  obtain ⟨b,o,rc,el,fr,g1,g2,g3,g4,g5,g6⟩:=ho
  obtain ⟨b1,o1,rc1,el1,fr1,k1,k2,k3,k4,k5,k6⟩:=ho1
  have e:=hs.phi _ _ g1
  rw [k1] at e
  simp only [Option.some.injEq,Prod.mk.injEq] at e
  obtain ⟨rfl,rfl,e3⟩:=e
  have hb:=(Array.getElem?_eq_some_iff.1 g2).1
  exact ⟨b1,o1,rc,el,fr,g1,by rw [hblk b1 hb];exact g2,g3,fun j c hc=>⟨(g4 j c hc).1,let ⟨v,hv,hr⟩:=(g4 j c hc).2;⟨v,hv,hr.mono (.refl _) hs.imm⟩⟩,g5,k6⟩
 | map es=>exact ho.elim
 | iter s pos =>
  obtain ⟨b,g1,g2⟩:=ho
  have hb:=(Array.getElem?_eq_some_iff.1 g2).1
  exact ⟨b,g1,by rw [hblk b hb];exact g2⟩
theorem Stp.back {bar:Nat} {φ1:Phi} {I I1:Imm} {h h1:H} {w1:World} (hR:R φ I h w) (hs:Stp h.n φ I h w φ1 I1 h1 w1):Stp bar φ I h w φ I1 h w1:=by
 refine ⟨.refl _,hs.imm,hs.size,fun b hb hd=>hs.frame b hb fun i hi hl=>absurd (hR.wf i hi) hl,fun i x hi hl hp=>.inr ⟨i,x,hi,hl,hp,rfl⟩,fun _ _=>rfl,Nat.le_refl _,hs.os,hs.output,fun b j v hv=>?_⟩
 rcases hs.immT b j v hv with h1 | h1 | ⟨i,x,hi,hl,_⟩
 ·exact .inl h1
 ·exact .inr (.inl h1)
 ·exact absurd (hR.wf i hi) hl
theorem Shape.vr {s:Nat→AV} (hs:Shape s) {φ φ':Phi} {I:Imm} {id id':Nat} {x:Nat × Nat × Nat} {v:Value} (h1:φ id=some x) (h:VR φ I (s id) v) (h2:φ' id'=some x):VR φ' I (s id') v:=by
 rcases hs with hs | ⟨k,len,full,hs⟩
 ·rw [hs] at h ⊢
  cases h with
  | ptr _ _ b o sz hp=>rw [h1] at hp;cases hp;exact .ptr id' 0 b o sz h2
 ·rw [hs] at h ⊢
  cases h with
  | sl _ _ _ _ _ b o sz cap hp g1 g2 g3=>rw [h1] at hp;cases hp;exact .sl id' 0 k len full b o sz cap h2 g1 g2 g3
  | sl0 _ _ _ _ a y hp=>exact .sl0 id' 0 k full a x h2
end
theorem Sx {acc:List Nat} {i:Nat}:∀ (l:List Edge) (s:Nat),(l.foldl (fun s e=>if Region.binds .any e then s ||| 2 ^ e.on ||| acc.getD e.on 0 else s) s).testBit i=true →
  s.testBit i=true∨∃ e ∈ l,Region.binds .any e=true∧(i=e.on∨(acc.getD e.on 0).testBit i=true)
 | [],s,h=>.inl h
 | e::l,s,h=>by
  simp only [List.foldl_cons] at h
  rcases Sx l _ h with h1 | ⟨e',he',hb⟩
  ·split at h1
   ·rename_i hb
    simp only [Nat.testBit_or,Bool.or_eq_true] at h1
    rcases h1 with (h1 | h1) | h1
    ·exact .inl h1
    ·right
     refine ⟨e,by simp,hb,.inl ?_⟩
     simp [Nat.testBit_two_pow] at h1
     exact h1.symm
    ·exact .inr ⟨e,by simp,hb,.inr h1⟩
   ·exact .inl h1
  ·exact .inr ⟨e',by simp [he'],hb⟩
theorem JM:∀ (ops:List Oper) (acc:List Nat) (i:Nat),i<acc.length→(IT ops acc).getD i 0=acc.getD i 0
 | [],acc,i,h=>rfl
 | o::r,acc,i,h=>by
  simp only [IT]
  rw [JM r _ i (by simp;omega)]
  simp [List.getElem?_append_left h]
theorem RK:∀ (ops:List Oper) (acc:List Nat) (j:Nat) (o:Oper),ops[j]? = some o→∃ acc':List Nat,(∀ i,i<acc.length+j→acc'.getD i 0=(IT ops acc).getD i 0) ∧
  (IT ops acc).getD (acc.length+j) 0=o.after.toList.foldl (fun s e=>if Region.binds .any e then s ||| 2 ^ e.on ||| acc'.getD e.on 0 else s) 0
 | [],acc,j,o,h=>by simp at h
 | x::r,acc,0,o,h=>by
  simp only [List.getElem?_cons_zero,Option.some.injEq] at h;subst h
  refine ⟨acc,fun i hi=>?_,?_⟩
  ·simp only [IT];rw [JM r _ i (by simp;omega)];simp [List.getElem?_append_left (show i<acc.length by omega)]
  ·simp only [IT,Nat.add_zero];rw [JM r _ _ (by simp)];simp
 | x::r,acc,j+1,o,h=>by
  simp only [List.getElem?_cons_succ] at h
  obtain ⟨acc',h1,h2⟩:=RK r (acc++[x.after.toList.foldl (fun s e=>if Region.binds .any e then s ||| 2 ^ e.on ||| acc.getD e.on 0 else s) 0]) j o h
  simp only [List.length_append,List.length_cons,List.length_nil] at h1 h2
  refine ⟨acc',fun i hi=>?_,?_⟩
  ·simp only [IT];exact h1 i (by omega)
  ·simp only [IT];rw [← h2];congr 1;omega
theorem Pe {ops:Array Oper} (hon:∀ j o,ops[j]? = some o→∀ e ∈ o.after,Region.binds .any e=true→e.on<j) {L:Nat→Prop}
  (hcl:∀ j o,ops[j]? = some o→L j→∀ e ∈ o.after,Region.binds .any e=true→L e.on) :
  ∀ j o,ops[j]? = some o→(∀ e ∈ o.after,Region.binds .any e=true→L e.on)→∀ i,((GN ops).getD j 0).testBit i=true→L i:=by
 intro j
 induction j using Nat.strongRecOn with
 | _ j ih =>
  intro o ho hr i hi
  obtain ⟨acc',h1,h2⟩:=RK ops.toList [] j o (by simpa using ho)
  simp only [List.length_nil,Nat.zero_add] at h1 h2
  rw [GN,h2] at hi
  rcases Sx _ _ hi with h3 | ⟨e,he,hb,h3⟩
  ·simp at h3
  ·have he':e ∈ o.after:=by simpa using he
   have hlt:=hon j o ho e he' hb
   have hL:=hr e he' hb
   rcases h3 with rfl | h3
   ·exact hL
   ·rw [h1 _ hlt] at h3
    have:e.on<ops.size:=by have:=(Array.getElem?_eq_some_iff.1 ho).1;omega
    exact ih e.on hlt _ (Array.getElem?_eq_getElem this) (hcl e.on _ (Array.getElem?_eq_getElem this) hL) i h3
theorem RR {p q:Nat→Bool}:∀ {l:List Nat} {i:Nat},i ∈ l→p i=true→q i=false→(∀ x,q x=true→p x=true)→l.countP q<l.countP p
 | [],i,h,_,_,_=>by cases h
 | x::l,i,h,h1,h2,h3=>by
  have hle:l.countP q≤l.countP p:=List.countP_mono_left (fun x _=>h3 x)
  simp only [List.countP_cons]
  rcases List.mem_cons.1 h with rfl | h
  ·simp [h1,h2];omega
  ·have:=RR h h1 h2 h3
   have:=h3 x
   cases hq:q x<;>cases hp:p x<;>simp [hq,hp] at*<;> omega
theorem Oo {P:Program} {G:Glob} {N:Nat} {ops:Array Oper}:∀ (l:List Oper) (il:List IOper),Es P G N ops l=some il→il.length=l.length∧∀ (i:Nat) (x:Oper),l[i]? = some x→∃ y,il[i]? = some y∧HN P G N ops x=some y
 | [],il,h=>by simp only [Es,Option.some.injEq] at h;subst h;exact ⟨rfl,fun i x hx=>by simp at hx⟩
 | x::l,il,h=>by
  simp only [Es] at h
  split at h
  ·rename_i y il' hy hil
   cases h
   obtain ⟨h1,h2⟩:=Oo l il' hil
   refine ⟨by simp [h1],fun i z hz=>?_⟩
   cases i with
   | zero=>simp at hz;subst hz;exact ⟨y,by simp,hy⟩
   | succ i=>simpa using h2 i z (by simpa using hz)
  ·cases h
section
variable {P:Program} {G:Glob} {N bar:Nat} {φ0:Phi} {I0:Imm} {h0:H} {w0:World} {o:Oracle} {pu:Nat→Bool}
theorem PJ {il:List IOper} {E:Nat→Env} {Hh:Nat→H} {V:Nat→AV} {W:Nat→Bool} (ht:Tr o bar il E Hh V W) (t:Nat) (v:AV):∀ i,i≤il.length→(E i).get t=some v →
  (∃ j x,j<i∧il[j]? = some x∧x.dst=some t∧V j=v∧∀ k y,j<k→k<i→il[k]? = some y→y.dst≠some t)∨((∀ k y,k<i→il[k]? = some y→y.dst≠some t)∧(E 0).get t=some v)
 | 0,_,h=>.inr ⟨fun k y hk=>by omega,h⟩
 | i+1,hi,h=>by
  have hlt:i<il.length:=by omega
  have hx:=List.getElem?_eq_getElem hlt
  obtain ⟨h1,_⟩:=ht i _ hx
  rw [h1] at h
  by_cases hd:(il[i]).dst=some t
  ·rw [hd] at h
   simp only [Env.put,Env.set,Env.get,if_true,Option.some.injEq] at h
   exact .inl ⟨i,_,by omega,hx,hd,h,fun k y h2 h3=>by omega⟩
  ·have hget:((E i).put (il[i]).dst (V i)).get t=(E i).get t:=by
    cases hdd:(il[i]).dst with
    | none=>rfl
    | some s =>
     rw [hdd] at hd
     have:t≠s:=fun hts=>hd (by rw [hts])
     simp [Env.put,Env.set,Env.get,this]
   rw [hget] at h
   rcases PJ ht t v i (by omega) h with ⟨j,x,g1,g2,g3,g4,g5⟩ | ⟨g1,g2⟩
   ·refine .inl ⟨j,x,by omega,g2,g3,g4,fun k y hk hk' hy=>?_⟩
    by_cases hki:k=i
    ·subst hki;rw [hx] at hy;cases hy;exact hd
    ·exact g5 k y hk (by omega) hy
   ·refine .inr ⟨fun k y hk hy=>?_,g2⟩
    by_cases hki:k=i
    ·subst hki;rw [hx] at hy;cases hy;exact hd
    ·exact g1 k y (by omega) hy
theorem Ly {il:List IOper} {j:Nat} {y:IOper} (hy:il[j]? = some y):BV pu il j=eff pu y.op:=by simp [BV,hy]
theorem HQ {il:List IOper} {j:Nat} (h:BV pu il j=true):j<il.length:=by
 unfold BV at h
 split at h
 ·rename_i y hy;exact (List.getElem?_eq_some_iff.1 hy).1
 ·cases h
theorem KI (hp:Is o pu) {il:List IOper} {E:Nat→Env} {Hh:Nat→H} {V:Nat→AV} {W:Nat→Bool} (ht:Tr o bar il E Hh V W) (i:Nat):∀ d,i+d≤il.length→(∀ k,i≤k→k<i+d→BV pu il k=false)→Hh (i+d)=Hh i
 | 0,_,_=>rfl
 | d+1,hd,hn=>by
  have hlt:i+d<il.length:=by omega
  have hx:=List.getElem?_eq_getElem hlt
  obtain ⟨_,h2,h3,h4⟩:=ht (i+d) _ hx
  have he:=hn (i+d) (by omega) (by omega)
  rw [Ly hx] at he
  have:Hh (i+d+1)=Hh (i+d):=by
   cases hw:W (i+d) with
   | true=>exact (Ki hp he (h3 hw)).1
   | false=>exact (h4 hw).2
  rw [show i+(d+1)=i+d+1 by omega,this]
  exact KI hp ht i d (by omega) (fun k h1 h2=>hn k h1 (by omega))
theorem Gh {x y:IOper} {t:Nat} (h:x.dst=some t) (hy:t ∈ CB y.op++GF y.guard∨y.dst=some t):Hp x y=true:=by
 unfold Hp
 rw [h]
 have:((CB y.op++GF y.guard).contains t||y.dst == some t)=true:=by
  rcases hy with hy | hy
  ·simp only [Bool.or_eq_true];left;simpa using hy
  ·simp [hy]
 simp only [this,Bool.true_or]
theorem KE {x y:IOper} {t:Nat} (h:y.dst=some t) (hx:t ∈ CB x.op++GF x.guard):Hp x y=true:=by
 unfold Hp
 rw [h]
 have:(CB x.op++GF x.guard).contains t=true:=by simpa using hx
 simp only [Bool.or_eq_true]
 right;exact this
theorem JU (e:Env):∀ (l:List Nat) (t:Nat),(e.keep l).get t=if t ∈ l then e.get t else none
 | [],t=>rfl
 | i::r,t=>by
  simp only [Env.keep]
  cases hi:e.get i with
  | none =>
   rw [JU e r t]
   by_cases ht:t=i
   ·subst ht;simp [hi]
   ·simp [ht]
  | some v =>
   simp only [Env.get]
   by_cases ht:t=i
   ·subst ht;simp [hi]
   ·simp [ht,JU e r t]
theorem Oq {ops:Array Oper} {il:List IOper} (h:Gw pu ops il=true) {i j:Nat} {x y:IOper} (hij:i<j) (hx:il[i]? = some x) (hy:il[j]? = some y) :
  ((GN ops).getD j 0).testBit i=true∨(Hp x y=false∧((eff pu x.op=true∧eff pu y.op=true)→IW pu (GN ops) il j y=true)):=by
 unfold Gw at h
 simp only [Bool.and_eq_true,List.all_eq_true] at h
 have h1:=h.1 (y,j) (by rw [List.mem_iff_getElem?];exact ⟨j,by simp [List.getElem?_zipIdx,hy]⟩) (x,i) (by
  rw [List.mem_iff_getElem?]
  exact ⟨i,by simp [List.getElem?_zipIdx,List.getElem?_take,hij,hx]⟩)
 simp only [Bool.or_eq_true,Bool.and_eq_true,Bool.not_eq_true'] at h1
 rcases h1 with h1 | ⟨h1,h2⟩
 ·exact .inl h1
 ·refine .inr ⟨h1,fun ⟨g1,g2⟩=>?_⟩
  rcases h2 with h2 | h2
  ·rw [g1,g2] at h2;cases h2
  ·exact h2
theorem NY {ops:Array Oper} {il:List IOper} (h:Gw pu ops il=true) {i j:Nat} {x y:IOper} (hij:i<j) (hx:il[i]? = some x) (hy:il[j]? = some y) (hc:Hp x y=true):((GN ops).getD j 0).testBit i=true:=by
 rcases Oq h hij hx hy with h1 | ⟨h1,_⟩
 ·exact h1
 ·rw [hc] at h1;cases h1
theorem WY {ops:Array Oper} {il:List IOper} (h:Gw pu ops il=true):∀ j o,ops[j]? = some o→∀ e ∈ o.after,Region.binds .any e=true→e.on<j:=by
 unfold Gw at h
 simp only [Bool.and_eq_true,List.all_eq_true] at h
 intro j o ho e he hb
 have h1:=h.2 (o,j) (by rw [List.mem_iff_getElem?];exact ⟨j,by simp [List.getElem?_zipIdx,ho]⟩) e (by simpa using he)
 simpa [hb] using h1
theorem UA {b:List Nat} {il:List IOper} {j:Nat} {y:IOper} (h:IW pu b il j y=true):Uy y.op=true∧y.guard=none:=by
 unfold IW at h
 simp only [Bool.and_eq_true,Option.isNone_iff_eq_none] at h
 exact h.1
theorem WZ {b:List Nat} {il:List IOper} {j:Nat} {y:IOper} (h:IW pu b il j y=true) {q:Nat} {z:IOper} {t:Nat} (hz:il[q]? = some z) (hjq:j<q) (hd:y.dst=some t)
  (hu:t ∈ CB z.op++GF z.guard∨z.dst=some t):∀ i,i<j→BV pu il i=true→(b.getD q 0).testBit i=true:=by
 unfold IW at h
 simp only [Bool.and_eq_true,List.all_eq_true] at h
 intro i hi he
 have h1:=h.2 (z,q) (by rw [List.mem_iff_getElem?];exact ⟨q,by simp [List.getElem?_zipIdx,hz]⟩)
 rw [hd] at h1
 have h2:((CB z.op++GF z.guard).contains t||z.dst == some t)=true:=by
  rcases hu with hu | hu
  ·simp only [Bool.or_eq_true];left;simpa using hu
  ·simp [hu]
 simp only [h2,hjq,decide_true,Bool.and_true,Bool.not_true,Bool.false_or,List.all_eq_true] at h1
 have:=h1 i (by simpa using hi)
 simpa [he] using this
theorem Xs {ops:Array Oper} {il:List IOper} {i j:Nat} {y:IOper} (hy:il[i]? = some y) (hm:IY y.op=true) (hj:j<i) (he:BV pu il j=true) (hb:((GN ops).getD i 0).testBit j=false):(i,i) ∈ asks pu ops il:=by
 unfold asks
 rw [List.mem_append]
 right
 rw [List.mem_filterMap]
 refine ⟨(y,i),by rw [List.mem_iff_getElem?];exact ⟨i,by simp [List.getElem?_zipIdx,hy]⟩,?_⟩
 have:(List.range i).any (fun j=>BV pu il j&&!((GN ops).getD i 0).testBit j)=true:=by
  rw [List.any_eq_true]
  exact ⟨j,List.mem_range.mpr hj,by rw [he,hb];rfl⟩
 simp only [hm,this,Bool.and_self,if_true]
theorem Zo {op:IOp} (h:No pu op=true):IY op=false:=by
 cases op<;>first | rfl | (simp [No,looks,Jd] at h)
theorem ZL {ops:Array Oper} {il:List IOper} {i k:Nat} {y:IOper} (hy:il[i]? = some y) (hl:No pu y.op=true) (hk:k≤il.length) (hk2:k=il.length∨(BV pu il k=true∧((GN ops).getD i 0).testBit k=false))
  (h1:∀ j,BV pu il j=true→k≤j→j<i→((GN ops).getD i 0).testBit j=false∨∃ y,il[j]? = some y∧IW pu (GN ops) il j y=true) (h2:∀ j,BV pu il j=true→i<j→j<k→((GN ops).getD j 0).testBit i=false)
  (h3:∃ j,BV pu il j=true∧((k≤j∧j<i)∨(i≤j∧j<k))):(i,k) ∈ asks pu ops il:=by
 unfold asks
 rw [List.mem_append]
 left
 simp only [List.mem_flatMap]
 refine ⟨(y,i),by rw [List.mem_iff_getElem?];exact ⟨i,by simp [List.getElem?_zipIdx,hy]⟩,?_⟩
 simp only [hl,if_true,List.mem_filterMap]
 refine ⟨k,by simp;omega,?_⟩
 have g1:(decide (k=il.length)||(BV pu il k&&!((GN ops).getD i 0).testBit k))=true:=by
  rcases hk2 with h | h
  ·simp [h]
  ·rw [h.1,h.2];simp
 have g2:VV pu (GN ops) il i k=true:=by
  unfold VV
  simp only [List.all_eq_true]
  intro j hj
  cases he:BV pu il j with
  | false=>simp
  | true =>
   simp only [Bool.not_true,Bool.false_or,Bool.and_eq_true]
   constructor
   ·by_cases hc:k≤j∧j<i
    ·rcases h1 j he hc.1 hc.2 with h | ⟨y,g1,g2⟩
     ·rw [h];simp
     ·rw [g1];simp [g2]
    ·have:(decide (k≤j)&&decide (j<i))=false:=by
      rw [Bool.and_eq_false_iff];simp;omega
     simp [this]
   ·by_cases hc:i<j∧j<k
    ·rw [h2 j he hc.1 hc.2];simp
    ·have:(decide (i<j)&&decide (j<k))=false:=by
      rw [Bool.and_eq_false_iff];simp;omega
     simp [this]
 have g3:((List.range il.length).any fun j=>BV pu il j&&((decide (k≤j)&&decide (j<i))||(decide (i≤j)&&decide (j<k))))=true:=by
  obtain ⟨j,he,hc⟩:=h3
  simp only [List.any_eq_true]
  refine ⟨j,by simpa using HQ he,?_⟩
  rcases hc with hc | hc<;>simp [he,hc.1,hc.2]
 simp only [g1,g2,g3,Bool.and_true,if_true]
theorem By {L:Array Bool} {i j:Nat} (hi:i<L.size):(L.setIfInBounds i true).getD j false=if j=i then true else L.getD j false:=by
 by_cases hji:j=i
 ·subst hji;simp [hi]
 ·simp [hji,Array.getElem?_setIfInBounds_ne (Ne.symm hji)]
def Ux (il:List IOper) (V:Nat→AV) (e0:Env) (L:Nat→Prop) (t:Nat) (v:AV):Prop :=
 (∃ j x,il[j]? = some x∧L j∧x.dst=some t∧V j=v∧∀ k y,j<k→il[k]? = some y→L k→y.dst≠some t) ∨
 ((∀ k y,il[k]? = some y→L k→y.dst≠some t)∧e0.get t=some v)
structure Pend (pu:Nat→Bool) (ops:Array Oper) (w0:World) (il:List IOper) (V:Nat→AV) (Hh:Nat→H) (L:Array Bool) (h:H) (φ:Phi) (I:Imm) (w:World) (a:Act) (j b:Nat):Prop where
 mk' ::
 ex:∃ y s cs p rc el fr,il[j]? = some y∧IW pu (GN ops) il j y=true∧V j=s (Hh j).n∧Hh (j+1)=(Hh j).alloc (.cells cs 0)∧Shape s∧w.heap[b]? = some (.cells rc el fr)∧p+cs.length≤rc.size ∧
  (∀ q c,cs[q]? = some c→c.one=true∧∃ v,rc[p+q]? = some v∧VR φ I c v)∧(∀ q,p≤q→q<rc.size→¬ frz fr q)∧(∀ q v,I b q=some v→q<p) ∧
  (∀ t,y.dst=some t→t<a.tmps.size∧∀ (φ':Phi) (id:Nat),φ' id=some (b,p,rc.size)→VR φ' I (s id) (a.tmps.getD t Go.undef))
 low:w0.heap.size≤b
 own:∀ q x,h.get q≠none→φ q=some x→x.1≠b
 use:∀ q z y t,il[q]? = some z→L.getD q false=true→j<q→il[j]? = some y→y.dst=some t→¬ (t ∈ CB z.op++GF z.guard∨z.dst=some t)
theorem Pend.lt {ops:Array Oper} {il:List IOper} {V:Nat→AV} {Hh:Nat→H} {L:Array Bool} {h:H} {φ:Phi} {I:Imm} {w:World} {a:Act} {j b:Nat} (p:Pend pu ops w0 il V Hh L h φ I w a j b):b<w.heap.size:=by
 obtain ⟨y,s,cs,q,rc,el,fr,_,_,_,_,_,h6,_⟩:=p.ex
 exact (Array.getElem?_eq_some_iff.1 h6).1
theorem Pend.step {ops:Array Oper} {il:List IOper} {V:Nat→AV} {Hh:Nat→H} {L:Array Bool} {h h':H} {φ φ':Phi} {I I':Imm} {w w':World} {a:Act} {j b i:Nat} {d:Option Nat} {xv:Value} {y:IOper} (p:Pend pu ops w0 il V Hh L h φ I w a j b)
  (hR:R φ I h w) (hs:Stp bar φ I h w φ' I' h' w') (hi:i<L.size) (hy:il[i]? = some y) (hyd:y.dst=d)
  (hc:∀ z t,il[j]? = some z→z.dst=some t→¬ (t ∈ CB y.op++GF y.guard∨y.dst=some t)):Pend pu ops w0 il V Hh (L.setIfInBounds i true) h' φ' I' w' (a.put d xv) j b:=by
 have hlt:=p.lt
 obtain ⟨z,s,cs,q,rc,el,fr,h1,h2,h3,h4,h5,h6,h7,h8,h9,h10,h11⟩:=p.ex
 have hIb:∀ k v,I' b k=some v→I b k=some v:=fun k v hv=>by
  rcases hs.immT b k v hv with g | g | ⟨r,x,_,hl,hx,he⟩
  ·exact g
  ·omega
  ·exact absurd he (p.own r x hl hx)
 refine ⟨⟨z,s,cs,q,rc,el,fr,h1,h2,h3,h4,h5,?_,h7,fun k c hcc=>⟨(h8 k c hcc).1,let ⟨v,g1,g2⟩:=(h8 k c hcc).2;⟨v,g1,g2.mono hs.phi hs.imm⟩⟩,h9,fun k v hv=>h10 k v (hIb k v hv),fun t ht=>?_⟩,p.low,fun r x hl hx=>?_,fun r z' y' t hz' hL' hjr hy' hd'=>?_⟩
 ·rw [hs.frame b hlt fun r _ hl x hx=>p.own r x hl hx];exact h6
 ·obtain ⟨g1,g2⟩:=h11 t ht
  have hdt:d≠some t:=fun hdt=>hc z t h1 ht (.inr (by rw [hyd,hdt]))
  refine ⟨by rw [IQ];exact g1,fun φ'' id hid=>?_⟩
  have:(a.put d xv).tmps.getD t Go.undef=a.tmps.getD t Go.undef:=by
   cases hd:d with
   | none=>rfl
   | some r =>
    have hst:r≠t:=fun hst=>hdt (by rw [hd,hst])
    simp [Act.put,Array.getElem?_setIfInBounds_ne hst]
  rw [this]
  exact (g2 φ'' id hid).mono (.refl _) hs.imm
 ·by_cases hr:bar≤r
  ·rcases hs.terr r x hr hl hx with g | ⟨m,u,hm,hlm,hu,he⟩
   ·omega
   ·rw [← he];exact p.own m u hlm hu
  ·have hl':h.get r≠none:=by rw [← hs.old r (by omega)];exact hl
   cases hg:h.get r with
   | none=>exact absurd hg hl'
   | some ob =>
    obtain ⟨c,s',t',g1,_⟩:=(hR.obj r ob hg).block
    have:=hs.phi _ _ g1
    rw [hx] at this;cases this
    exact p.own r _ hl' g1
 ·rw [By hi] at hL'
  split at hL'
  ·rename_i hri
   subst hri
   rw [hy] at hz';cases hz'
   exact hc y' t hy' hd'
  ·exact p.use r z' y' t hz' hL' hjr hy' hd'
end
end Go.Ev
