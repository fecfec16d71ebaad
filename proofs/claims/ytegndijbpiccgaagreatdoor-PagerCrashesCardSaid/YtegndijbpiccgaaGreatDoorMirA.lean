import Derived.Orders
import Derived.Below
namespace Go.Mir
set_option linter.unusedVariables false
set_option linter.unusedSimpArgs false
universe u v
theorem oI {α:Type u}{a b:α}:(some a=some b)=(a=b):=Option.some.injEq a b
theorem pI {α:Type u}{β:Type v}{a c:α}{b d:β}:((a,b)=(c,d))=(a=c/\b=d):=Prod.mk.injEq a b c d
theorem gI {α:Type u}{l:List α}{i:Nat}(h:i<l.length):l[i]?=some l[i]:=List.getElem?_eq_getElem h
abbrev bA:=ByteArray
inductive D where
 | int (k:IntKind) (n:Int)
 | bool (b:Bool)
 | str (s:bA)
 | nil
 | sl (sz:Nat) (els:List D)
 | rcd (fs:List D)
 | any
deriving Inhabited
def D.cells:D->List D
 | .rcd fs=>fs
 | x=>[x]
inductive AV where
 | n (x:D)
 | o (x:D)
 | agg (cs:List AV)
 | tup (vs:List AV)
 | ptr (id off:Nat)
 | elt (id ver sz i off:Nat)
 | nilp
 | row (id ver:Nat)
 | dat (nw:Bool) (cs:List D)
 | fn (f:Nat) (cap:List AV)
 | undef
deriving Inhabited
inductive Ob where
 | box (cs:List AV)
 | row (fz nw : Bool) (ver e sz : Nat) (els : List D)   -- 'fz': handed on, never written again; 'nw': its block and all that it leads to is new; e: the elements' type; sz: their cells
deriving Inhabited
abbrev Heap:=List (Nat×Ob)
def Heap.get:Heap->Nat->Option Ob
 | [],_=>none
 | (i,o)::r,j=>if i=j then some o else Heap.get r j
def Heap.ins (j:Nat)(x:Ob):Heap->Heap
 | []=>[(j,x)]
 | (i,o)::r=>if j<i then (j,x)::(i,o)::r else if j=i then (j,x)::r else (i,o)::Heap.ins j x r
def Heap.keep (ids:List Nat):Heap->Heap
 | []=>[]
 | (i,o)::r=>if ids.contains i then (i,o)::Heap.keep ids r else Heap.keep ids r
abbrev Slots:=List AV
def Slots.get:Slots->Nat->AV
 | [],_ => .n .any
 | x::_,0=>x
 | _::r,i+1=>Slots.get r i
def Slots.put:Slots->Nat->AV->Slots
 | [],_,_=>[]
 | _::r,0,v=>v::r
 | x::r,i+1,v=>x::Slots.put r i v
def Y1:Value->Option AV
 | .int k n=>some (.n (.int k n))
 | .bool b=>some (.n (.bool b))
 | .string s=>some (.n (.str s))
 | .slice none 0 0=>some (.n .nil)
 | .pointer none=>some .nilp
 | _=>none
def ev (σ:Slots):Operand->Option AV
 | .tmp t=>some (σ.get t)
 | .const v=>Y1 v
 | .func f=>some (.fn f [])
 | .global _=>none
inductive Lf where
 | int (k:IntKind)
 | bool
 | str
 | raw
 | sln (sz:Nat)
 | slo (sz:Nat)
 | row (id:Nat)
 | nil
 | nilp
 | ptr (id off:Nat)
deriving Inhabited
inductive Opn where
 | mov (x:Operand)
 | pick (c a b:Operand)
 | bin (op:BinOp) (x y:Operand)
 | bb (neq:Bool) (x y:Operand)
 | un (op:UnOp) (x:Operand)
 | conv (k:IntKind) (x:Operand)
 | sid (x:Operand)
 | ext (x:Operand) (i:Nat)
 | nilck (x:Operand)
 | fadr (x:Operand) (off:Nat)
 | fld (x:Operand) (off:Nat) (size:Option Nat)
 | ld (x:Operand) (size:Option Nat)
 | st (x y:Operand) (size:Nat)
 | idxA (x i:Operand) (sz:Nat)
 | idx (x i:Operand)
 | idxG (x i:Operand) (n:Nat)
 | scut (x:Operand) (lo hi:Option Operand)
 | cut (x:Operand) (lo hi mx:Option Operand) (sz:Nat)
 | build (zero:List AV) (parts:List (Nat×Nat×Operand))
 | lit (id e sz:Nat) (parts:List Operand)
 | mk (id e:Nat) (zero:D) (bytes:Nat) (n:Operand)
 | alloc (id:Nat) (zero:List AV)
 | box (id:Nat) (x:Operand)
 | app (id e sz bytes:Nat) (x y:Operand)
 | apps (id e:Nat) (x y:Operand)
 | slen (x:Operand)
 | len (x:Operand)
 | mm (max:Bool) (xs:List Operand)
 | s2b (x:Operand)
 | b2s (x:Operand)
 | eqs (neq:Bool) (ks:List Lf) (x y:Operand)
 | mkf (f:Nat) (cap:List Operand)
 | call (own:Bool) (f:Nat) (args:List Operand)
 | dyn (own:Bool) (f:Operand) (args:List Operand)
deriving Inhabited
inductive S1 where
 | one (l:Lf)
 | agg (ls:List Lf)
deriving Inhabited
inductive Sh where
 | val (s:S1)
 | tup (l:List S1)
deriving Inhabited
def Lf.wk:Lf->AV->AV
 | .slo sz,.n .nil => .o (.sl sz [])
 | .slo _,.n (.sl s els) => .o (.sl s els)
 | .sln sz,.n .nil => .n (.sl sz [])
 | _,x=>x
def ML:List Lf->List AV->List AV
 | l::r,x::s=>l.wk x::ML r s
 | _,s=>s
def S1.wk:S1->AV->AV
 | .one l,x=>l.wk x
 | .agg ls,.agg cs => .agg (ML ls cs)
 | _,x=>x
def Ns:List S1->List AV->List AV
 | l::r,x::s=>l.wk x::Ns r s
 | _,s=>s
def Sh.wk:Sh->AV->AV
 | .val s,x=>s.wk x
 | .tup l,.tup vs => .tup (Ns l vs)
 | _,x=>x
inductive It where
 | slot (t:Nat) (s:S1)
 | row (id e sz:Nat) (nw:Bool)
 | box (id:Nat) (ls:List Lf)
 | rowIn (t id:Nat)
 | ptr (t id off:Nat)
 | nilp (t:Nat)
 | keep (t:Nat)
 | keepO (id:Nat)
 | keepF (fn:Nat)
deriving Inhabited
structure RO where
 dst:Option Nat
 op:Opn
 guard:Option (Nat×Bool):=none
 sh:Sh := .val (.one .raw)
deriving Inhabited
inductive Cmd where
 | skip
 | region (ops:List RO)
 | drawn (ops:List RO) (pairs:List (Nat×Nat))
 | seq (a b:Cmd)
 | cond (c:Operand) (a b:Cmd)
 | block (id:Nat) (c:Cmd)
 | loop (is:List It) (c:Cmd)
 | exit (id:Nat)
 | ret
 | hint (fn:Nat) (keep drop:List Nat) (rows:List (Nat×Nat×Nat×Nat)) (data:List Nat)
deriving Inhabited
inductive Ex where
 | norm
 | exit (id:Nat)
 | ret
deriving DecidableEq,Inhabited
abbrev Al:=Nat->List AV->Heap->Option (AV×Heap)
def AV.data:AV->Option (Bool×D)
 | .n x=>some (true,x)
 | .o x=>some (false,x)
 | _=>none
def old (x:D):AV:=match x with
 | .sl sz els => .o (.sl sz els)
 | .rcd fs => .o (.rcd fs)
 | x => .n x
def sub (nw:Bool)(x:D):AV:=if nw then .n x else old x
mutual
def AN (H:Heap):AV->Option AV
 | .n x=>some (.n x)
 | .o x=>some (.o x)
 | .row id ver=>match H.get id with
   | some (.row _ nw v _ sz els)=>if v=ver then some (sub nw (.sl sz els)) else none
   | _=>none
 | .agg cs=>(snapL H cs).map .agg
 | .tup vs=>(snapL H vs).map .tup
 | .fn f cap=>(snapL H cap).map (.fn f)
 | .ptr id off=>some (.ptr id off)
 | .nilp=>some .nilp
 | .elt .. | .dat .. | .undef=>none
def snapL (H:Heap):List AV->Option (List AV)
 | []=>some []
 | x::r=>match AN H x,snapL H r with
   | some y,some s=>some (y::s)
   | _,_=>none
end
mutual
/-- As a callee sees what its caller made: nothing is new. -/
def age:AV->AV
 | .n x=>old x
 | .agg cs => .agg (ageL cs)
 | .tup cs => .tup (ageL cs)
 | .fn f cap => .fn f (ageL cap)
 | .dat _ cs => .dat false cs
 | x=>x
def ageL:List AV->List AV
 | []=>[]
 | x::r=>age x::ageL r
end
mutual
/-- The own objects that a value leads to, by pointers. -/
def Ek:AV->List Nat
 | .ptr id _=>[id]
 | .elt id _ _ _ _=>[id]
 | .agg cs=>refsL cs
 | .tup cs=>refsL cs
 | .fn _ cap=>refsL cap
 | _=>[]
def refsL:List AV->List Nat
 | []=>[]
 | x::r=>Ek x++refsL r
end
mutual
/-- The own rows that a value holds. -/
def Ak:AV->List Nat
 | .row id _=>[id]
 | .agg cs=>rowsInL cs
 | .tup cs=>rowsInL cs
 | .fn _ cap=>rowsInL cap
 | _=>[]
def rowsInL:List AV->List Nat
 | []=>[]
 | x::r=>Ak x++rowsInL r
end
mutual
def Gc:AV->Bool
 | .o _=>true
 | .dat nw _ => !nw
 | .agg cs=>hasOL cs
 | .tup cs=>hasOL cs
 | .fn _ cap=>hasOL cap
 | _=>false
def hasOL:List AV->Bool
 | []=>false
 | x::r=>Gc x||hasOL r
end
def Ob.age:Ob->Ob
 | .box cs => .box (ageL cs)
 | .row fz _ v e sz els => .row fz false v e sz els
def Ob.thaw:Ob->Bool
 | .row fz _ _ _ _ _ => !fz
 | _=>true
def Heap.age:Heap->Heap
 | []=>[]
 | (i,o)::r=>(i,o.age)::Heap.age r
def Heap.dom (H:Heap):List Nat:=H.map (·.1)
def Heap.freeze:List Nat->Heap->Heap
 | [],H=>H
 | i::r,H=>match H.get i with
   | some (.row _ nw v e sz els)=>Heap.freeze r (H.ins i (.row true nw v e sz els))
   | _=>Heap.freeze r H
def Heap.merge:Heap->Heap->Heap
 | H,[]=>H
 | H,(i,o)::r=>(Heap.merge H r).ins i o
def Heap.reach (H:Heap):Nat->List Nat->List Nat->List Nat
 | 0,_,seen=>seen
 | _+1,[],seen=>seen
 | k+1,i::todo,seen=>
   if seen.contains i then Heap.reach H k todo seen else
   match H.get i with
   | some (.box cs)=>Heap.reach H k (refsL cs++rowsInL cs++todo) (i::seen)
   | _=>Heap.reach H k todo (i::seen)
mutual
/-- Data alone. -/
def plain:AV->Bool
 | .n _ | .o _ | .nilp=>true
 | .agg cs=>plainL cs
 | .tup cs=>plainL cs
 | .fn _ cs=>plainL cs
 | _=>false
def plainL:List AV->Bool
 | []=>true
 | x::r=>plain x&&plainL r
end
mutual
theorem GV {H:Heap}:∀ {x:AV},plain x=true->Ek x=[]/\Ak x=[]/\AN H x=some x
 | .n _,_=>⟨rfl,rfl,by simp[AN]⟩
 | .o _,_=>⟨rfl,rfl,by simp[AN]⟩
 | .nilp,_=>⟨rfl,rfl,by simp[AN]⟩
 | .agg cs,h=>by obtain⟨h1,h2,h3⟩:=plainL_ok (H:=H) (x:=cs) h;exact⟨h1,h2,by simp[AN,h3]⟩
 | .tup cs,h=>by obtain⟨h1,h2,h3⟩:=plainL_ok (H:=H) (x:=cs) h;exact⟨h1,h2,by simp[AN,h3]⟩
 | .fn f cs,h=>by obtain⟨h1,h2,h3⟩:=plainL_ok (H:=H) (x:=cs) h;exact⟨h1,h2,by simp[AN,h3]⟩
theorem plainL_ok {H:Heap}:∀ {x:List AV},plainL x=true->refsL x=[]/\rowsInL x=[]/\snapL H x=some x
 | [],_=>⟨rfl,rfl,by simp[snapL]⟩
 | x::r,h=>by simp only[plainL,Bool.and_eq_true]at h;obtain⟨h1,h2,h3⟩:=GV (H:=H) h.1;obtain⟨g1,g2,g3⟩:=plainL_ok (H:=H) h.2;exact⟨by simp[refsL,h1,g1],by simp[rowsInL,h2,g2],by simp[snapL,h3,g3]⟩
end
theorem EI:∀H:Heap,H.keep []=[]:=λH=>by
 induction H with
 | nil=>rfl
 | cons x r ih=>obtain⟨i,o⟩:=x;simpa[Heap.keep] using ih
def F6 (op:BinOp)(k:IntKind)(x y:Int):Option D:=
 match op with
 | .add=>some (.int k (k.wrap (x+y)))
 | .sub=>some (.int k (k.wrap (x-y)))
 | .mul=>some (.int k (k.wrap (x*y)))
 | .quo=>if y=0 then none else some (.int k (k.wrap (x.tdiv y)))
 | .rem=>if y=0 then none else some (.int k (x.tmod y))
 | .and=>some (.int k (k.wrap (BitVec.ofInt k.bits x &&& BitVec.ofInt k.bits y).toNat))
 | .or=>some (.int k (k.wrap (BitVec.ofInt k.bits x ||| BitVec.ofInt k.bits y).toNat))
 | .xor=>some (.int k (k.wrap (BitVec.ofInt k.bits x ^^^ BitVec.ofInt k.bits y).toNat))
 | .andNot=>some (.int k (k.wrap (BitVec.ofInt k.bits x &&& ~~~(BitVec.ofInt k.bits y)).toNat))
 | .eql=>some (.bool (x==y))
 | .neq=>some (.bool (x != y))
 | .lss=>some (.bool (decide (x<y)))
 | .leq=>some (.bool (decide (x<=y)))
 | .gtr=>some (.bool (decide (x > y)))
 | .geq=>some (.bool (decide (x>=y)))
 | _=>none
def Lj (op:BinOp)(x y:bA):Option D:=
 match op with
 | .add=>if ((x.size+y.size:Nat):Int)<=9223372036854775807 then some (.str (x++y)) else none
 | .eql=>some (.bool (x.toList==y.toList))
 | .neq=>some (.bool (!(x.toList==y.toList)))
 | .lss=>some (.bool (Op.bytesLess x.toList y.toList))
 | .leq=>some (.bool (Op.bytesLess x.toList y.toList||x.toList==y.toList))
 | .gtr=>some (.bool (!(Op.bytesLess x.toList y.toList||x.toList==y.toList)))
 | .geq=>some (.bool (!Op.bytesLess x.toList y.toList))
 | _=>none
def M1 (op:BinOp):D->D->Option D
 | .int k x,.int k' y=>
   match op with
   | .shl=>if y<0 then none else some (.int k (k.wrap (x*2 ^ (min y.toNat k.bits))))
   | .shr=>if y<0 then none else some (.int k (x.fdiv (2 ^ (min y.toNat k.bits))))
   | op=>if k=k' then F6 op k x y else none
 | .str x,.str y=>Lj op x y
 | _,_=>none
def unD (op:UnOp):D->Option D
 | .int k x=>match op with
   | .neg=>F6 .sub k 0 x
   | .xor=>F6 .xor k (if k.signed then -1 else k.max) x
   | _=>none
 | .bool b=>match op with
   | .not=>some (.bool (!b))
   | _=>none
 | _=>none
def BC (H:Heap):AV->Option (Bool×Nat×List D)
 | .n .nil=>some (true,0,[])
 | .n (.sl sz els)=>some (true,sz,els)
 | .o (.sl sz els)=>some (false,sz,els)
 | .row id ver=>match H.get id with
   | some (.row _ nw v _ sz els)=>if v=ver then some (nw,sz,els) else none
   | _=>none
 | _=>none
def byteOf (x:D):UInt8:=match x with
 | .int _ n=>UInt8.ofNat n.toNat
 | _=>0
def D.isU8:D->Bool
 | .int .u8 _=>true
 | _=>false
def bytesD (s:bA):List D:=s.data.toList.map λb => .int .u8 (b.toNat:Int)
def Tg (t:Bool):AV->AV->AV
 | .n (.bool x),.n (.bool y) => .n (.bool (if t then x else y))
 | x,y=>if t then x else y
def AV.cellOK:AV->Bool
 | .n .any | .n (.rcd _) | .o (.rcd _) | .o .any | .agg _ | .tup _ | .undef=>false
 | _=>true
def AB:AV->List AV
 | .agg cs=>cs
 | x=>[x]
def G7:List AV->Option (Bool×List D)
 | []=>some (true,[])
 | x::r=>match x.data,G7 r with
   | some (b,y),some (c,s)=>some (b&&c,y::s)
   | _,_=>none
def Vf (sz:Nat)(v:AV):Option (Bool×D):=
 match v with
 | .agg cs=>match G7 cs with
   | some (b,ds)=>if ds.length=sz&&cs.all AV.cellOK then some (b,.rcd ds) else none
   | none=>none
 | v=>match v.data with
   | some (b,d)=>if sz=1&&v.cellOK then some (b,d) else none
   | none=>none
def QU (cs:List D)(off:Nat):List D->List D
 | []=>cs
 | x::r=>QU (cs.set off x) (off+1) r
def Ka (sz o size:Nat)(old d:D):D:=match Nat.beq o 0&&Nat.beq sz size with
 | true=>d
 | false => .rcd (QU old.cells o d.cells)
def LC (sz:Nat):List AV->Option (Bool×List D)
 | []=>some (true,[])
 | x::r=>match Vf sz x,LC sz r with
   | some (b,y),some (c,s)=>some (b&&c,y::s)
   | _,_=>none
def Jj (σ:Slots):List Operand->Option (List AV)
 | []=>some []
 | x::r=>match ev σ x,Jj σ r with
   | some y,some s=>some (y::s)
   | _,_=>none
def setCells (cs:List AV)(off:Nat):List AV->List AV
 | []=>cs
 | x::r=>setCells (cs.set off x) (off+1) r
def E5 (σ:Slots)(cs:List AV):List (Nat×Nat×Operand)->Option (List AV)
 | []=>some cs
 | (off,size,x)::r=>match ev σ x with
   | some v=>if (AB v).length=size&&off+size<=cs.length&&(AB v).all AV.cellOK then E5 σ (setCells cs off (AB v)) r else none
   | none=>none
def Ct (σ:Slots)(x:Option Operand)(dflt hi:Nat):Option Nat:=
 match x with
 | none=>some dflt
 | some x=>match ev σ x with
   | some (.n (.int _ i))=>if 0<=i/\i<=hi then some i.toNat else none
   | _=>none
def Ck (max:Bool)(x y:Int):Int:=if max then (if y > x then y else x) else (if y<x then y else x)
def tW (max:Bool)(k:IntKind)(acc:Int):List AV->Option Int
 | []=>some acc
 | .n (.int k' y)::r=>if k=k' then tW max k (Ck max acc y) r else none
 | _=>none
def Heap.closed (H:Heap)(ids:List Nat)(xs:List AV):Bool:=
 (refsL xs++rowsInL xs).all ids.contains&&ids.all λi=>match H.get i with
   | some (.box cs)=>(refsL cs++rowsInL cs).all ids.contains
   | _=>true
def I9 (a b i:Nat):Nat:=if i=a then b else if i=b then a else i
mutual
def RU (a b:Nat):AV->AV
 | .row i v => .row (I9 a b i) v
 | .ptr i x => .ptr (I9 a b i) x
 | .elt i v s k x => .elt (I9 a b i) v s k x
 | .agg cs => .agg (swpL a b cs)
 | .tup cs => .tup (swpL a b cs)
 | .fn f cs => .fn f (swpL a b cs)
 | .n d => .n d
 | .o d => .o d
 | .dat nw cs => .dat nw cs
 | .nilp => .nilp
 | .undef => .undef
def swpL (a b:Nat):List AV->List AV
 | []=>[]
 | x::r=>RU a b x::swpL a b r
end
def Ob.swp (a b:Nat):Ob->Ob
 | .box cs => .box (swpL a b cs)
 | .row fz nw v e sz els => .row fz nw v e sz els
def Heap.swp (a b:Nat):Heap->Heap
 | []=>[]
 | (i,o)::r=>(Heap.swp a b r).ins (I9 a b i) (o.swp a b)
def CY (s:Nat)(ids:List Nat):Nat->Heap->List (Nat×Nat)
 | _,[]=>[]
 | k,(i,_)::r=>if ids.contains i then CY s ids k r else (i,s+50000+10000*k)::CY s ids (k+1) r
def Gg:List (Nat×Nat)->AV×Heap->AV×Heap
 | [],p=>p
 | (a,b)::r,p=>Gg r (RU a b p.1,p.2.swp a b)
def Np (ids:List Nat)(H:Heap)(prs:List (Nat×Nat)):Bool:=
 prs.any λp=>ids.contains p.1||ids.contains p.2||(H.get p.1).isSome||(H.get p.2).isSome
def ER (s g:Nat)(ids lent:List Nat)(H:Heap)(p:AV×Heap):Option (AV×Heap):=
 let prs:=if s=0 then [] else CY s ids 0 p.2
 if Nat.blt 3 prs.length||prs.any (λq => !(Nat.beq (q.1 / 100000) g)) then none else
 if Np ids H prs then none else
 let q:=Gg prs p
 if q.2.any (λp => !ids.contains p.1&&(H.get p.1).isSome) then none else
 some (q.1,(H.freeze (if q.2.isEmpty && !Gc q.1 then [] else lent)).merge q.2)
def CQ (f:Nat):Nat:=f % 1000000
def Bz (f:Nat):Nat:=f / 1000000 / 2
def Gk (f:Nat):Bool:=f / 1000000 % 2==1
def Gz (keep:List Nat)(id f:Nat):Bool×Nat:=
 match Nat.ble f 999999 with
 | true=>
   if keep.contains f then (true,f) else
   if keep.contains (f+1000000) then (true,f+1000000*(2*id)) else
   if keep.contains (f+2000000) then (true,f+1000000) else
   if keep.contains (f+3000000) then (true,f+1000000*(2*id+1)) else (false,f)
 | false=>(false,f)
def Cd (own:Bool)(f:Nat):Nat:=match own with
 | true=>CQ f
 | false=>f
theorem Qx (keep:List Nat)(id f:Nat):Cd (Gz keep id f).1 (Gz keep id f).2=f:=by
 unfold Gz
 cases h:Nat.ble f 999999 with
 | false=>rfl
 | true=>
  have h:f<=999999:=Nat.le_of_ble_eq_true h;dsimp only;by_cases h1:keep.contains f=true;·rw[if_pos h1];show f % 1000000=f;omega
  ·rw[if_neg h1];by_cases h2:keep.contains (f+1000000)=true;·rw[if_pos h2];show(f+1000000*(2*id)) % 1000000=f;omega
   ·rw[if_neg h2];by_cases h3:keep.contains (f+2000000)=true;·rw[if_pos h3];show(f+1000000) % 1000000=f;omega
    ·rw[if_neg h3];by_cases h4:keep.contains (f+3000000)=true;·rw[if_pos h4];show(f+1000000*(2*id+1)) % 1000000=f;omega
     ·rw[if_neg h4];rfl
def BJ (own:Bool)(f:Nat)(as:List AV):List Nat:=match own with
 | true=>match Gk f with
   | true=>refsL as++rowsInL as
   | false=>refsL as
 | false=>refsL as
def Be (own:Bool)(H:Heap)(f:Nat)(as:List AV):Option (List AV):=match own with
 | true=>match Gk f with
   | true=>some as
   | false=>snapL H as
 | false=>snapL H as
def BY (own:Bool)(f:Nat)(as:List AV):List Nat:=match own with
 | true=>match Gk f with
   | true=>[]
   | false=>rowsInL as
 | false=>rowsInL as
def AF (call:Al)(own:Bool)(H:Heap)(f:Nat)(as:List AV):Option (AV×Heap):=
 match Be own H f as with
 | none=>none
 | some as'=>
   let ids:=H.reach 1000 (BJ own f as') []
   let lent:=BY own f as
   if lent.any ids.contains || !H.closed ids as' then none else
   match call (Cd own f) (ageL as') (H.keep ids).age with
   | none=>none
   | some (r,H1)=>
     match own with
     | true=>ER (Bz f) (CQ f) ids lent H (r,H1)
     | false=>match AN H1 r with
       | none=>none
       | some r'=>
         if !H1.closed ids [r'] then none else
         some (r',(H.freeze (if ids.isEmpty && !Gc r' then [] else lent)).merge ((H1.freeze (Ak r)).keep ids))
def rV:Lf->D->D->Option Bool
 | .int _,.int k x,.int k' y=>if k=k' then some (x==y) else none
 | .bool,.bool x,.bool y=>some (x==y)
 | .str,.str x,.str y=>some (x.toList==y.toList)
 | _,_,_=>none
def ZS:List Lf->List AV->List AV->Option Bool
 | [],[],[]=>some true
 | l::ks,.n x::r,.n y::s=>match rV l x y,ZS ks r s with
   | some b,some c=>some (b&&c)
   | _,_=>none
 | _,_,_=>none
def Ac (call:Al)(σ:Slots)(H:Heap):Opn->Option (AV×Heap)
 | .mov x=>match ev σ x with
   | some v=>some (v,H)
   | none=>none
 | .pick c a b=>match ev σ c,ev σ a,ev σ b with
   | some (.n (.bool t)),some x,some y=>some (Tg t x y,H)
   | _,_,_=>none
 | .bin op x y=>match ev σ x,ev σ y with
   | some (.n a),some (.n b)=>match M1 op a b with
     | some d=>some (.n d,H)
     | none=>none
   | _,_=>none
 | .bb neq x y=>match ev σ x,ev σ y with
   | some (.n (.bool a)),some (.n (.bool b))=>some (.n (.bool (if neq then !(a==b) else a==b)),H)
   | _,_=>none
 | .un op x=>match ev σ x with
   | some (.n a)=>match unD op a with
     | some d=>some (.n d,H)
     | none=>none
   | _=>none
 | .conv k x=>match ev σ x with
   | some (.n (.int _ n))=>some (.n (.int k (k.wrap n)),H)
   | _=>none
 | .sid x=>match ev σ x with
   | some (.n (.str s))=>some (.n (.str s),H)
   | _=>none
 | .ext x i=>match ev σ x with
   | some (.tup vs)=>match vs[i]? with
     | some v=>some (v,H)
     | none=>none
   | _=>none
 | .nilck x=>match ev σ x with
   | some (.ptr id off)=>some (.ptr id off,H)
   | some (.elt id v s i off)=>some (.elt id v s i off,H)
   | some (.dat nw cs)=>some (.dat nw cs,H)
   | some (.fn f cap)=>some (.fn f cap,H)
   | _=>none
 | .fadr x off=>match ev σ x with
   | some (.ptr id o)=>some (.ptr id (o+off),H)
   | some (.elt id v s i o)=>some (.elt id v s i (o+off),H)
   | some (.dat nw cs)=>some (.dat nw (cs.drop off),H)
   | _=>none
 | .fld x off size=>match ev σ x with
   | some (.agg cs)=>match size with
     | none=>match cs[off]? with
       | some v=>some (v,H)
       | none=>none
     | some n=>if off+n<=cs.length then some (.agg ((cs.drop off).take n),H) else none
   | _=>none
 | .ld x size=>match ev σ x with
   | some (.ptr id o)=>match H.get id with
     | some (.box cs)=>match size with
       | none=>match cs[o]? with
         | some v=>some (v,H)
         | none=>none
       | some n=>if o+n<=cs.length then some (.agg ((cs.drop o).take n),H) else none
     | _=>none
   | some (.elt id v s i o)=>match H.get id with
     | some (.row _ nw v' _ sz els)=>if v=v'&&s=sz then match els[i]? with
         | some el=>match size with
           | none=>match el.cells[o]? with
             | some x=>some (sub nw x,H)
             | none=>none
           | some n=>if o+n<=el.cells.length then some (.agg (((el.cells.drop o).take n).map (sub nw)),H) else none
         | none=>none
       else none
     | _=>none
   | some (.dat nw cs)=>match size with
     | none=>match cs[0]? with
       | some x=>some (sub nw x,H)
       | none=>none
     | some n=>if n<=cs.length then some (.agg ((cs.take n).map (sub nw)),H) else none
   | _=>none
 | .st x y size=>match ev σ x,ev σ y with
   | some (.ptr id o),some v=>match H.get id with
     | some (.box cs)=>if (AB v).length=size&&o+size<=cs.length&&(AB v).all AV.cellOK then some (.n .any,H.ins id (.box (setCells cs o (AB v)))) else none
     | _=>none
   | some (.elt id ver s i o),some v=>match (H.freeze (Ak v)).get id with
     | some (.row false nw vr e sz els)=>if ver=vr&&o+size<=sz&&s=sz then match els[i]? with
         | some el=>match AN H v with
           | some v'=>match Vf size v' with
             | some (b,d)=>some (.n .any,(H.freeze (Ak v)).ins id (.row false (nw&&b) vr e sz (els.set i (Ka sz o size el d))))
             | none=>none
           | none=>none
         | none=>none
       else none
     | _=>none
   | _,_=>none
 | .idxA x i sz=>match ev σ x,ev σ i with
   | some x,some (.n (.int _ j))=>match x with
     | .row id ver=>match H.get id with
       | some (.row _ _ v _ s els)=>if v=ver&&s=sz&&0<=j&&j<els.length then some (.elt id ver sz j.toNat 0,H) else none
       | _=>none
     | x=>match BC H x with
       | some (nw,s,els)=>if s=sz&&0<=j then match els[j.toNat]? with
           | some d=>some (.dat nw d.cells,H)
           | none=>none
         else none
       | none=>none
   | _,_=>none
 | .idx x i=>match ev σ x,ev σ i with
   | some (.n (.str s)),some (.n (.int _ j))=>if 0<=j then match s.data.toList[j.toNat]? with
       | some b=>some (.n (.int .u8 (b.toNat:Int)),H)
       | none=>none
     else none
   | _,_=>none
 | .idxG x i n=>match ev σ x,ev σ i with
   | some (.agg cs),some (.n (.int _ j))=>if 0<=j/\j<n then match cs[j.toNat]? with
       | some v=>some (v,H)
       | none=>none
     else none
   | _,_=>none
 | .scut x lo hi=>match ev σ x with
   | some (.n (.str s))=>match Ct σ hi s.size s.size with
       | some h=>match Ct σ lo 0 h with
         | some l=>some (.n (.str (s.extract l h)),H)
         | none=>none
       | none=>none
   | _=>none
 | .cut x lo hi mx sz=>match ev σ x with
   | some (.n .nil)=>match Ct σ mx 0 0 with
     | some m=>match Ct σ hi 0 m with
       | some h=>match Ct σ lo 0 h with
         | some _=>some (.n .nil,H)
         | none=>none
       | none=>none
     | none=>none
   | some x=>match BC H x with
     | some (nw,s,els)=>if s=sz then match Ct σ mx els.length els.length with
         | some m=>match (match hi with|none=>some els.length|some _=>Ct σ hi 0 m) with
           | some h=>match Ct σ lo 0 h with
             | some l=>some (sub nw (.sl sz ((els.take h).drop l)),H.freeze (Ak x))
             | none=>none
           | none=>none
         | none=>none
       else none
     | none=>none
   | none=>none
 | .build zero parts=>match E5 σ zero parts with
   | some cs=>some (.agg cs,H)
   | none=>none
 | .lit id e sz parts=>if (H.get id).isSome then none else match Jj σ parts with
   | some vs=>match snapL H vs with
     | some vs'=>match LC sz vs' with
       | some (nw,els)=>some (.row id 0,(H.freeze (rowsInL vs)).ins id (.row false nw 0 e sz els))
       | none=>none
     | none=>none
   | none=>none
 | .mk id e zero bytes n=>if (H.get id).isSome then none else match ev σ n with
   | some (.n (.int _ k))=>if 0<=k/\k.toNat*bytes<=140737488355328 then some (.row id 0,H.ins id (.row false true 0 e zero.cells.length (List.replicate k.toNat zero))) else none
   | _=>none
 | .alloc id zero=>if (H.get id).isSome then none else some (.ptr id 0,H.ins id (.box zero))
 | .box id x=>if (H.get id).isSome then none else match ev σ x with
   | some v=>if (AB v).all AV.cellOK then some (.ptr id 0,H.ins id (.box (AB v))) else none
   | none=>none
 | .app id e sz bytes x y=>match ev σ x,ev σ y with
   | some x,some y=>
     match (match BC H y with
       | some (b,s,ys)=>if s=sz||ys.isEmpty then some (b,ys) else none
       | none=>none) with
     | some (b,ys)=>match x with
       | .n .nil=>if (H.get id).isSome then none else
         if ys.length*bytes<=140737488355328 then some (.row id 0,(H.freeze (Ak y)).ins id (.row false b 0 e sz ys)) else none
       | .row i ver=>match (H.freeze (Ak y)).get i with
         | some (.row false nw v e' s els)=>if v=ver&&e'=e&&s=sz&&decide ((els.length+ys.length)*bytes<=140737488355328) then
             some (.row i (ver+1),(H.freeze (Ak y)).ins i (.row false (nw&&b) (ver+1) e sz (els++ys))) else none
         | _=>none
       | _=>none
     | none=>none
   | _,_=>none
 | .apps id e x y=>match ev σ x,ev σ y with
   | some x,some (.n (.str s))=>match x with
       | .n .nil=>if (H.get id).isSome then none else
         if s.size<=140737488355328 then some (.row id 0,H.ins id (.row false true 0 e 1 (bytesD s))) else none
       | .row i ver=>match H.get i with
         | some (.row false nw v e' z els)=>if v=ver&&e'=e&&z=1&&decide (els.length+s.size<=140737488355328) then
             some (.row i (ver+1),H.ins i (.row false nw (ver+1) e 1 (els++bytesD s))) else none
         | _=>none
       | _=>none
   | _,_=>none
 | .slen x=>match ev σ x with
   | some (.n (.str s))=>some (.n (.int .i64 s.size),H)
   | _=>none
 | .len x=>match ev σ x with
   | some x=>match BC H x with
     | some (_,_,els)=>some (.n (.int .i64 els.length),H)
     | none=>none
   | none=>none
 | .mm max xs=>match Jj σ xs with
   | some (.n (.int k x)::r)=>match tW max k x r with
     | some z=>some (.n (.int k z),H)
     | none=>none
   | _=>none
 | .s2b x=>match ev σ x with
   | some (.n (.str s))=>some (.n (.sl 1 (bytesD s)),H)
   | _=>none
 | .b2s x=>match ev σ x with
   | some x=>match BC H x with
     | some (_,s,els)=>if (s=1||els.isEmpty)&&els.all D.isU8 then some (.n (.str ⟨(els.map byteOf).toArray⟩),H) else none
     | none=>none
   | none=>none
 | .eqs neq ks x y=>match ev σ x,ev σ y with
   | some (.agg xs),some (.agg ys)=>match ZS ks xs ys with
     | some b=>some (.n (.bool (if neq then !b else b)),H)
     | none=>none
   | _,_=>none
 | .mkf f cap=>match Jj σ cap with
   | some vs=>some (.fn f vs,H)
   | none=>none
 | .call own f args=>match Jj σ args with
   | some as=>AF call own H f as
   | none=>none
 | .dyn own x args=>match ev σ x,Jj σ args with
   | some (.fn f cap),some as=>AF call own H f (as++cap)
   | _,_=>none
def BG (call:Al):List RO->Slots->Heap->Option (Slots×Heap)
 | [],σ,H=>some (σ,H)
 | o::r,σ,H=>
   match o.guard with
   | none=>match Ac call σ H o.op with
     | some (v,H')=>BG call r (match o.dst with|some d=>σ.put d v|none=>σ) H'
     | none=>none
   | some (g,want)=>match σ.get g with
     | .n (.bool b)=>if b=want then match Ac call σ H o.op with
        | some (v,H')=>BG call r (match o.dst with|some d=>σ.put d v|none=>σ) H'
        | none=>none
       else BG call r (match o.dst with|some d=>σ.put d .undef|none=>σ) H
     | .undef=>BG call r (match o.dst with|some d=>σ.put d .undef|none=>σ) H
     | _=>none
def GU (f:Slots->Heap->Option (Ex×Slots×Heap)):Nat->Slots->Heap->Option (Ex×Slots×Heap)
 | 0,_,_=>none
 | k+1,σ,H=>match f σ H with
   | some (.norm,σ',H')=>GU f k σ' H'
   | r=>r
def J9 (s:Nat):Nat:=(s-10000000000) / 64
def LY (s:Nat):Nat:=(s-10000000000) % 64
def BN:List Nat->Slots->Heap->Option (Slots×Heap)
 | [],σ,H=>some (σ,H)
 | s::r,σ,H=>match Nat.ble s 99999 with
   | true=>match AN H (σ.get s) with
     | some v=>BN r (σ.put s (age v)) (H.freeze (Ak (σ.get s)))
     | none=>none
   | false=>match Nat.ble s 9999999999 with
     | true=>match H.get s with
       | some o=>if o.thaw then BN r σ (H.ins s o.age) else BN r σ H
       | none=>BN r σ H
     | false=>match H.get (J9 s) with
       | some (.box cs)=>match cs[LY s]? with
         | some x=>match AN H x with
           | some v=>BN r σ ((H.freeze (Ak x)).ins (J9 s) (.box (cs.set (LY s) (age v))))
           | none=>none
         | none=>none
       | _=>none
def A2 (keep:List Nat)(i:Nat):Slots->Slots
 | []=>[]
 | x::r=>(if keep.contains i then x else .n .any)::A2 keep (i+1) r
def Df:List (Nat×Nat×Nat×Nat)->Slots->Heap->Option (Slots×Heap)
 | [],σ,H=>some (σ,H)
 | (s,id,e,sz)::r,σ,H=>match Nat.ble s 99999 with
   | true=>match σ.get s with
     | .n .nil=>if (H.get id).isSome then none else Df r (σ.put s (.row id 0)) (H.ins id (.row false true 0 e sz []))
     | .row i _=>if i=id then Df r σ H else none
     | _=>none
   | false=>match H.get (s / 64) with
     | some (.box cs)=>match cs[s % 64]? with
       | some (.n .nil)=>if (H.get id).isSome then none else Df r σ ((H.ins id (.row false true 0 e sz [])).ins (s / 64) (.box (cs.set (s % 64) (.row id 0))))
       | some (.row i _)=>if i=id then Df r σ H else none
       | _=>none
     | _=>none
def Fi (fn:Nat)(keep drop:List Nat)(rows:List (Nat×Nat×Nat×Nat))(data:List Nat)(σ:Slots)(H:Heap):Option (Slots×Heap):=
 match BN data σ H with
 | none=>none
 | some (σ,H)=>
   let σ:=A2 keep 0 σ
   let ids:=H.dom.filter λi => !drop.contains i
   if !H.closed ids σ||drop.any (λi=>i / 100000 != fn) then none else Df rows σ (H.keep ids)
def Opn.squiet:Opn->Bool
 | .mov .. | .pick .. | .bin .. | .bb .. | .un .. | .conv .. | .sid .. | .ext .. | .nilck .. | .fadr .. | .fld .. | .idx .. | .idxG .. | .scut .. | .slen .. | .mm .. | .s2b .. | .eqs .. | .build .. | .mkf ..=>true
 | _=>false
def Ii:Option AV->Bool
 | some (.n _)=>true
 | some (.o _)=>true
 | some (.dat ..)=>true
 | _=>false
def SU:Option (List AV)->Bool
 | some as=>plainL as
 | none=>false
def Opn.quiet (σ:Slots):Opn->Bool
 | .len x=>Ii (ev σ x)
 | .b2s x=>Ii (ev σ x)
 | .cut x ..=>Ii (ev σ x)
 | .idxA x ..=>Ii (ev σ x)
 | .ld x _=>Ii (ev σ x)
 | .call false _ args=>SU (Jj σ args)
 | .dyn false x args=>match ev σ x with
   | some (.fn _ cap)=>plainL cap&&SU (Jj σ args)
   | _=>false
 | o=>o.squiet
def Opn.reader:Opn->Bool
 | .ld .. | .len .. | .idxA .. | .b2s ..=>true
 | o=>o.squiet
def BI:Operand->List Nat
 | .tmp t=>[t]
 | _=>[]
def JY (l:List Operand):List Nat:=l.flatMap BI
def UQ:Option Operand->List Nat
 | some x=>BI x
 | none=>[]
def Opn.reads:Opn->List Nat
 | .mov x=>BI x
 | .pick c a b=>BI c++BI a++BI b
 | .bin _ x y=>BI x++BI y
 | .bb _ x y=>BI x++BI y
 | .un _ x=>BI x
 | .conv _ x=>BI x
 | .sid x=>BI x
 | .ext x _=>BI x
 | .nilck x=>BI x
 | .fadr x _=>BI x
 | .fld x _ _=>BI x
 | .ld x _=>BI x
 | .st x y _=>BI x++BI y
 | .idxA x i _=>BI x++BI i
 | .idx x i=>BI x++BI i
 | .idxG x i _=>BI x++BI i
 | .scut x lo hi=>BI x++UQ lo++UQ hi
 | .cut x lo hi mx _=>BI x++UQ lo++UQ hi++UQ mx
 | .build _ ps=>ps.flatMap λp=>BI p.2.2
 | .lit _ _ _ ps=>JY ps
 | .mk _ _ _ _ n=>BI n
 | .alloc _ _=>[]
 | .box _ x=>BI x
 | .app _ _ _ _ x y=>BI x++BI y
 | .apps _ _ x y=>BI x++BI y
 | .slen x=>BI x
 | .len x=>BI x
 | .mm _ xs=>JY xs
 | .s2b x=>BI x
 | .b2s x=>BI x
 | .eqs _ _ x y=>BI x++BI y
 | .mkf _ xs=>JY xs
 | .call _ _ xs=>JY xs
 | .dyn _ f xs=>BI f++JY xs
def RO.reads (o:RO):List Nat:=o.op.reads++(match o.guard with|some (g,_)=>[g]|none=>[])
def RO.apart (x y:RO):Bool:=
 (match x.dst with|some d => !y.reads.contains d&&y.dst != some d|none=>true) &&
 (match y.dst with|some d => !x.reads.contains d|none=>true)
def RO.run (call:Al)(o:RO)(σ:Slots)(H:Heap):Option (Slots×Heap):=
 match o.guard with
 | none=>match Ac call σ H o.op with
   | some (v,H')=>some (match o.dst with|some d=>σ.put d v|none=>σ,H')
   | none=>none
 | some (g,want)=>match σ.get g with
   | .n (.bool b)=>if b=want then match Ac call σ H o.op with
      | some (v,H')=>some (match o.dst with|some d=>σ.put d v|none=>σ,H')
      | none=>none
     else some (match o.dst with|some d=>σ.put d .undef|none=>σ,H)
   | .undef=>some (match o.dst with|some d=>σ.put d .undef|none=>σ,H)
   | _=>none
inductive Fg where
 | q
 | r (j:Nat)
 | m (id:Nat)
 | c (S:List Nat)
 | w (S:List Nat)
 | s (g:Nat) (S:List Nat)
 | f (j:Nat)
 | x
deriving Inhabited
def Fg.ok:Fg->Fg->Bool
 | .q,_=>true
 | _,.q=>true
 | .r _,.r _=>true
 | .r j,.m i => !(Nat.beq j i)
 | .m i,.r j => !(Nat.beq j i)
 | .r j,.c S => !(S.contains j)
 | .c S,.r j => !(S.contains j)
 | .m i,.m j => !(Nat.beq i j)
 | .w S,.m i => !(S.contains i)
 | .m i,.w S => !(S.contains i)
 | .w S,.r j => !(S.contains j)
 | .r j,.w S => !(S.contains j)
 | .w S,.w T => !(S.any T.contains)
 | .f _,.f _=>true
 | .f j,.m i => !(Nat.beq j i)
 | .m i,.f j => !(Nat.beq j i)
 | .f j,.r i => !(Nat.beq j i)
 | .r i,.f j => !(Nat.beq j i)
 | .f j,.w S => !(S.contains j)
 | .w S,.f j => !(S.contains j)
 | .c S,.m i => !(S.contains i)
 | .m i,.c S => !(S.contains i)
 | .c S,.f j => !(S.contains j)
 | .f j,.c S => !(S.contains j)
 | .c S,.w T => !(T.any S.contains)
 | .w T,.c S => !(T.any S.contains)
 | .s g S,.r j => !(Nat.beq (j / 100000) g) && !(S.contains j)
 | .r j,.s g S => !(Nat.beq (j / 100000) g) && !(S.contains j)
 | .s g S,.m j => !(Nat.beq (j / 100000) g) && !(S.contains j)
 | .m j,.s g S => !(Nat.beq (j / 100000) g) && !(S.contains j)
 | .s g S,.f j => !(Nat.beq (j / 100000) g) && !(S.contains j)
 | .f j,.s g S => !(Nat.beq (j / 100000) g) && !(S.contains j)
 | .s g S,.w T=>T.all λj => !(Nat.beq (j / 100000) g) && !(S.contains j)
 | .w T,.s g S=>T.all λj => !(Nat.beq (j / 100000) g) && !(S.contains j)
 | _,_=>false
def G5:Option AV->Fg
 | some (.ptr j _) => .r j
 | some (.elt j _ _ _ _) => .r j
 | some (.row j _) => .r j
 | _ => .x
def CF (H:Heap)(as:List AV):Fg:=match snapL H as with
 | some as' => .c (H.reach 1000 (refsL as') []++rowsInL as)
 | none => .x
def A9 (H:Heap)(own:Bool)(f:Nat)(as:List AV):Fg:=match own with
 | false=>match (refsL as).isEmpty with
   | true => .w (rowsInL as)
   | false=>CF H as
 | true=>match Gk f||Nat.beq (Bz f) 0 || !plainL as with
   | true => .x
   | false => .s (CQ f) [Bz f+50000,Bz f+60000,Bz f+70000]
def Qn (S:List Nat):Option AV->Fg
 | some (.row k _) => .w (k::S)
 | some (.n _) => .w S
 | some (.o _) => .w S
 | some (.dat ..) => .w S
 | _ => .x
def Uu:Option AV->Fg
 | some (.row j _) => .f j
 | _ => .x
def Zu (y:Option AV):Option AV->Fg
 | some (.ptr j _) => .w [j]
 | some (.elt j _ _ _ _)=>match y with
   | some (.n _) => .w [j]
   | _ => .x
 | _ => .x
def UA (id:Nat)(y:Option AV):Option AV->Fg
 | some (.n .nil)=>Qn [id] y
 | some (.row i _)=>Qn [i] y
 | _ => .x
def Opn.fg1 (σ:Slots)(H:Heap):Opn->Fg
 | .ld x _=>G5 (ev σ x)
 | .len x=>G5 (ev σ x)
 | .b2s x=>G5 (ev σ x)
 | .idxA x _ _=>G5 (ev σ x)
 | .cut x ..=>Uu (ev σ x)
 | .st x y _=>Zu (ev σ y) (ev σ x)
 | .app id _ _ _ x y=>UA id (ev σ y) (ev σ x)
 | .mk id _ _ _ _ => .m id
 | .alloc id _ => .m id
 | .box id _ => .m id
 | .lit id _ _ ps=>match SU (Jj σ ps) with
   | true => .m id
   | false => .x
 | .call own f args=>match Jj σ args with
   | some as=>A9 H own f as
   | none => .x
 | .dyn false x args=>match ev σ x,Jj σ args with
   | some (.fn f cap),some as=>A9 H false f (as++cap)
   | _,_ => .x
 | _ => .x
def Opn.fg (σ:Slots)(H:Heap)(o:Opn):Fg:=match o.quiet σ with
 | true => .q
 | false=>o.fg1 σ H
def RO.flag (o:RO)(σ:Slots)(H:Heap):Fg:=
 match o.guard with
 | none=>o.op.fg σ H
 | some (g,want)=>match σ.get g with
   | .n (.bool b)=>if b=want then o.op.fg σ H else .q
   | _ => .q
def Dy (call:Al):List RO->Slots->Heap->List Fg->Option (Slots×Heap×List Fg)
 | [],σ,H,fl=>some (σ,H,fl)
 | o::r,σ,H,fl=>match o.run call σ H with
   | some (σ',H')=>Dy call r σ' H' (fl++[o.flag σ H])
   | none=>none
def Jh (fl:List Fg):List (Nat×Nat)->Bool
 | []=>true
 | (i,k)::r=>((fl[i]?).getD .x).ok ((fl[k]?).getD .x)&&Jh fl r
def Bd (call:Al)(fuel:Nat):Cmd->Slots->Heap->Option (Ex×Slots×Heap)
 | .skip,σ,H=>some (.norm,σ,H)
 | .region ops,σ,H=>match BG call ops σ H with
   | some (σ',H')=>some (.norm,σ',H')
   | none=>none
 | .drawn ops un,σ,H=>match Dy call ops σ H [] with
   | some (σ',H',fl)=>if Jh fl un then some (.norm,σ',H') else none
   | none=>none
 | .seq a b,σ,H=>match Bd call fuel a σ H with
   | some (.norm,σ',H')=>Bd call fuel b σ' H'
   | r=>r
 | .cond c a b,σ,H=>match ev σ c with
   | some (.n (.bool t))=>if t then Bd call fuel a σ H else Bd call fuel b σ H
   | _=>none
 | .block id c,σ,H=>match Bd call fuel c σ H with
   | some (.exit i,σ',H')=>if i=id then some (.norm,σ',H') else some (.exit i,σ',H')
   | r=>r
 | .loop _ c,σ,H=>GU (Bd call fuel c) fuel σ H
 | .exit id,σ,H=>some (.exit id,σ,H)
 | .ret,σ,H=>some (.ret,σ,H)
 | .hint fn keep drop rows data,σ,H=>match Fi fn keep drop rows data σ H with
   | some (σ',H')=>some (.norm,σ',H')
   | none=>none
inductive Res where
 | tmp (t:Nat)
 | cell (t:Nat) (size:Option Nat)
structure FnC where
 fn:Nat
 ntmps:Nat
 results:List Res
 body:Cmd
 own:Bool:=false
 ps:List S1:=[]
 rs:Sh := .val (.one .raw)
 orow:Option (Nat×Nat×Nat×Bool):=none
 muts:Bool:=false
 alts:List (Sh×List It):=[]
inductive Fun where
 | code (c:FnC)
 | prim (orow:Option (Nat×Nat×Nat×Bool)) (p:List AV->Heap->Option (AV×Heap))
def Gs (σ:Slots)(H:Heap):List Res->Option (List AV)
 | []=>some []
 | x::r=>match (match x with
     | .tmp t=>some (σ.get t,H)
     | .cell t size=>Ac (λ_ _ _=>none) σ H (.ld (.tmp t) size)),Gs σ H r with
   | some (v,_),some s=>some (v::s)
   | _,_=>none
def one:List AV->AV
 | [v]=>v
 | vs => .tup vs
def Bw (own:Bool)(Hin H:Heap)(r:AV):Option (AV×Heap):=
 match own with
 | true=>
   let ids:=H.reach 1000 (Hin.dom++Ek r++Ak r) []
   if H.closed ids [r]&&Hin.dom.all ids.contains then some (r,H.keep ids) else none
 | false=>match AN H r with
   | none=>none
   | some r'=>
     let ids:=H.reach 1000 (Hin.dom++Ek r') []
     if H.closed ids [r']&&Hin.dom.all ids.contains then some (r',(H.freeze (Ak r)).keep ids) else none
def HJ (call:Al)(fuel:Nat)(c:FnC)(as:List AV)(H:Heap):Option (AV×Heap):=
 if H.dom.any (λi=>i / 100000==c.fn) then none else
 match Bd call fuel c.body (Ns c.ps as++List.replicate (c.ntmps-as.length) (.n .any)) H with
 | some (.norm,σ,H')=>match Gs σ H' c.results with
   | some vs=>(Bw c.own H H' (one vs)).map λp=>(c.rs.wk p.1,p.2)
   | none=>none
 | some (.ret,σ,H')=>match Gs σ H' c.results with
   | some vs=>(Bw c.own H H' (one vs)).map λp=>(c.rs.wk p.1,p.2)
   | none=>none
 | _=>none
def run (Fs:Nat->Option Fun):Nat->Al
 | 0,_,_,_=>none
 | k+1,f,as,H=>match Fs f with
   | some (.code c)=>HJ (run Fs k) k c as H
   | some (.prim _ p)=>p as H
   | none=>none
end Go.Mir
