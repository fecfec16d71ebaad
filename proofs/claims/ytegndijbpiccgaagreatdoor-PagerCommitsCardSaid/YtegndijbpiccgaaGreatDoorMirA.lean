import Derived.Orders
import Derived.Below
namespace Go.Mir
set_option linter.unusedVariables false
set_option linter.unusedSimpArgs false
inductive D where
 | int (k:IntKind) (n:Int)
 | bool (b:Bool)
 | str (s:ByteArray)
 | nil
 | sl (sz:Nat) (els:List D)
 | rcd (fs:List D)
 | any
deriving Inhabited
def D.cells:D→List D
 | .rcd fs=>fs
 | x=>[x]
inductive AV where
 | n (x:D)
 | o (x:D)
 | agg (cs:List AV)
 | tup (vs:List AV)
 | ptr (id off:Nat)
 | elt (id ver sz i off:Nat)
 | nilp
 | row (id ver:Nat)
 | dat (nw:Bool) (cs:List D)
 | fn (f:Nat) (cap:List AV)
 | undef
deriving Inhabited
inductive Ob where
 | box (cs:List AV)
 | row (fz nw : Bool) (ver e sz : Nat) (els : List D)   -- 'fz': handed on, never written again; 'nw': its block and all that it leads to is new; e: the elements' type; sz: their cells
deriving Inhabited
abbrev Heap:=List (Nat×Ob)
def Heap.get:Heap→Nat→Option Ob
 | [],_=>none
 | (i,o) :: r,j=>if i=j then some o else Heap.get r j
def Heap.ins (j:Nat) (x:Ob):Heap→Heap
 | []=>[(j,x)]
 | (i,o) :: r=>if j<i then (j,x) :: (i,o) :: r else if j=i then (j,x) :: r else (i,o) :: Heap.ins j x r
def Heap.keep (ids:List Nat):Heap→Heap
 | []=>[]
 | (i,o) :: r=>if ids.contains i then (i,o) :: Heap.keep ids r else Heap.keep ids r
abbrev Slots:=List AV
def Slots.get:Slots→Nat→AV
 | [],_ => .n .any
 | x :: _,0=>x
 | _ :: r,i+1=>Slots.get r i
def Slots.put:Slots→Nat→AV→Slots
 | [],_,_=>[]
 | _ :: r,0,v=>v :: r
 | x :: r,i+1,v=>x :: Slots.put r i v
def cval:Value→Option AV
 | .int k n=>some (.n (.int k n))
 | .bool b=>some (.n (.bool b))
 | .string s=>some (.n (.str s))
 | .slice none 0 0=>some (.n .nil)
 | .pointer none=>some .nilp
 | _=>none
def ev (σ:Slots):Operand→Option AV
 | .tmp t=>some (σ.get t)
 | .const v=>cval v
 | .func f=>some (.fn f [])
 | .global _=>none
inductive Lf where
 | int (k:IntKind)
 | bool
 | str
 | raw
 | sln (sz:Nat)
 | slo (sz:Nat)
 | row (id:Nat)
 | nil
 | nilp
 | ptr (id off:Nat)
deriving Inhabited
inductive Opn where
 | mov (x:Operand)
 | pick (c a b:Operand)
 | bin (op:BinOp) (x y:Operand)
 | bb (neq:Bool) (x y:Operand)
 | un (op:UnOp) (x:Operand)
 | conv (k:IntKind) (x:Operand)
 | sid (x:Operand)
 | ext (x:Operand) (i:Nat)
 | nilck (x:Operand)
 | fadr (x:Operand) (off:Nat)
 | fld (x:Operand) (off:Nat) (size:Option Nat)
 | ld (x:Operand) (size:Option Nat)
 | st (x y:Operand) (size:Nat)
 | idxA (x i:Operand) (sz:Nat)
 | idx (x i:Operand)
 | idxG (x i:Operand) (n:Nat)
 | scut (x:Operand) (lo hi:Option Operand)
 | cut (x:Operand) (lo hi mx:Option Operand) (sz:Nat)
 | build (zero:List AV) (parts:List (Nat×Nat×Operand))
 | lit (id e sz:Nat) (parts:List Operand)
 | mk (id e:Nat) (zero:D) (bytes:Nat) (n:Operand)
 | alloc (id:Nat) (zero:List AV)
 | box (id:Nat) (x:Operand)
 | app (id e sz bytes:Nat) (x y:Operand)
 | apps (id e:Nat) (x y:Operand)
 | slen (x:Operand)
 | len (x:Operand)
 | mm (max:Bool) (xs:List Operand)
 | s2b (x:Operand)
 | b2s (x:Operand)
 | eqs (neq:Bool) (ks:List Lf) (x y:Operand)
 | mkf (f:Nat) (cap:List Operand)
 | call (own:Bool) (f:Nat) (args:List Operand)
 | dyn (own:Bool) (f:Operand) (args:List Operand)
deriving Inhabited
inductive S1 where
 | one (l:Lf)
 | agg (ls:List Lf)
deriving Inhabited
inductive Sh where
 | val (s:S1)
 | tup (l:List S1)
deriving Inhabited
def Lf.wk:Lf→AV→AV
 | .slo sz,.n .nil => .o (.sl sz [])
 | .slo _,.n (.sl s els) => .o (.sl s els)
 | .sln sz,.n .nil => .n (.sl sz [])
 | _,x=>x
def wkCs:List Lf→List AV→List AV
 | l :: r,x :: s=>l.wk x :: wkCs r s
 | _,s=>s
def S1.wk:S1→AV→AV
 | .one l,x=>l.wk x
 | .agg ls,.agg cs => .agg (wkCs ls cs)
 | _,x=>x
def wkL:List S1→List AV→List AV
 | l :: r,x :: s=>l.wk x :: wkL r s
 | _,s=>s
def Sh.wk:Sh→AV→AV
 | .val s,x=>s.wk x
 | .tup l,.tup vs => .tup (wkL l vs)
 | _,x=>x
inductive It where
 | slot (t:Nat) (s:S1)
 | row (id e sz:Nat) (nw:Bool)
 | box (id:Nat) (ls:List Lf)
 | rowIn (t id:Nat)
 | ptr (t id off:Nat)
 | nilp (t:Nat)
 | keep (t:Nat)
 | keepO (id:Nat)
 | keepF (fn:Nat)
deriving Inhabited
structure RO where
 dst:Option Nat
 op:Opn
 guard:Option (Nat×Bool):=none
 sh:Sh := .val (.one .raw)
deriving Inhabited
inductive Cmd where
 | skip
 | region (ops:List RO)
 | drawn (ops:List RO) (pairs:List (Nat×Nat))
 | seq (a b:Cmd)
 | cond (c:Operand) (a b:Cmd)
 | block (id:Nat) (c:Cmd)
 | loop (is:List It) (c:Cmd)
 | exit (id:Nat)
 | ret
 | hint (fn:Nat) (keep drop:List Nat) (rows:List (Nat×Nat×Nat×Nat)) (data:List Nat)
deriving Inhabited
inductive Ex where
 | norm
 | exit (id:Nat)
 | ret
deriving DecidableEq,Inhabited
abbrev CallFn:=Nat→List AV→Heap→Option (AV×Heap)
def AV.data:AV→Option (Bool×D)
 | .n x=>some (true,x)
 | .o x=>some (false,x)
 | _=>none
def old (x:D):AV:=match x with
 | .sl sz els => .o (.sl sz els)
 | .rcd fs => .o (.rcd fs)
 | x => .n x
def sub (nw:Bool) (x:D):AV:=if nw then .n x else old x
mutual
def snap (H:Heap):AV→Option AV
 | .n x=>some (.n x)
 | .o x=>some (.o x)
 | .row id ver=>match H.get id with
   | some (.row _ nw v _ sz els)=>if v=ver then some (sub nw (.sl sz els)) else none
   | _=>none
 | .agg cs=>(snapL H cs).map .agg
 | .tup vs=>(snapL H vs).map .tup
 | .fn f cap=>(snapL H cap).map (.fn f)
 | .ptr id off=>some (.ptr id off)
 | .nilp=>some .nilp
 | .elt .. | .dat .. | .undef=>none
def snapL (H:Heap):List AV→Option (List AV)
 | []=>some []
 | x :: r=>match snap H x,snapL H r with
   | some y,some s=>some (y :: s)
   | _,_=>none
end
mutual
/-- As a callee sees what its caller made: nothing is new. -/
def age:AV→AV
 | .n x=>old x
 | .agg cs => .agg (ageL cs)
 | .tup cs => .tup (ageL cs)
 | .fn f cap => .fn f (ageL cap)
 | .dat _ cs => .dat false cs
 | x=>x
def ageL:List AV→List AV
 | []=>[]
 | x :: r=>age x :: ageL r
end
mutual
/-- The own objects that a value leads to, by pointers. -/
def refs:AV→List Nat
 | .ptr id _=>[id]
 | .elt id _ _ _ _=>[id]
 | .agg cs=>refsL cs
 | .tup cs=>refsL cs
 | .fn _ cap=>refsL cap
 | _=>[]
def refsL:List AV→List Nat
 | []=>[]
 | x :: r=>refs x++refsL r
end
mutual
/-- The own rows that a value holds. -/
def rowsIn:AV→List Nat
 | .row id _=>[id]
 | .agg cs=>rowsInL cs
 | .tup cs=>rowsInL cs
 | .fn _ cap=>rowsInL cap
 | _=>[]
def rowsInL:List AV→List Nat
 | []=>[]
 | x :: r=>rowsIn x++rowsInL r
end
mutual
def hasO:AV→Bool
 | .o _=>true
 | .dat nw _ => !nw
 | .agg cs=>hasOL cs
 | .tup cs=>hasOL cs
 | .fn _ cap=>hasOL cap
 | _=>false
def hasOL:List AV→Bool
 | []=>false
 | x :: r=>hasO x||hasOL r
end
def Ob.age:Ob→Ob
 | .box cs => .box (ageL cs)
 | .row fz _ v e sz els => .row fz false v e sz els
def Ob.thaw:Ob→Bool
 | .row fz _ _ _ _ _ => !fz
 | _=>true
def Heap.age:Heap→Heap
 | []=>[]
 | (i,o) :: r=>(i,o.age) :: Heap.age r
def Heap.dom (H:Heap):List Nat:=H.map (·.1)
def Heap.freeze:List Nat→Heap→Heap
 | [],H=>H
 | i :: r,H=>match H.get i with
   | some (.row _ nw v e sz els)=>Heap.freeze r (H.ins i (.row true nw v e sz els))
   | _=>Heap.freeze r H
def Heap.merge:Heap→Heap→Heap
 | H,[]=>H
 | H,(i,o) :: r=>(Heap.merge H r).ins i o
def Heap.reach (H:Heap):Nat→List Nat→List Nat→List Nat
 | 0,_,seen=>seen
 | _+1,[],seen=>seen
 | k+1,i :: todo,seen=>
   if seen.contains i then Heap.reach H k todo seen else
   match H.get i with
   | some (.box cs)=>Heap.reach H k (refsL cs++rowsInL cs++todo) (i :: seen)
   | _=>Heap.reach H k todo (i :: seen)
mutual
/-- Data alone. -/
def plain:AV→Bool
 | .n _ | .o _ | .nilp=>true
 | .agg cs=>plainL cs
 | .tup cs=>plainL cs
 | .fn _ cs=>plainL cs
 | _=>false
def plainL:List AV→Bool
 | []=>true
 | x :: r=>plain x&&plainL r
end
mutual
theorem plain_ok {H:Heap}:∀ {x:AV},plain x=true→refs x=[]∧rowsIn x=[]∧snap H x=some x
 | .n _,_=>⟨rfl,rfl,by simp[snap]⟩
 | .o _,_=>⟨rfl,rfl,by simp[snap]⟩
 | .nilp,_=>⟨rfl,rfl,by simp[snap]⟩
 | .agg cs,h=>by
   obtain ⟨h1,h2,h3⟩:=plainL_ok (H:=H) (x:=cs) h
   exact ⟨h1,h2,by simp[snap,h3]⟩
 | .tup cs,h=>by
   obtain ⟨h1,h2,h3⟩:=plainL_ok (H:=H) (x:=cs) h
   exact ⟨h1,h2,by simp[snap,h3]⟩
 | .fn f cs,h=>by
   obtain ⟨h1,h2,h3⟩:=plainL_ok (H:=H) (x:=cs) h
   exact ⟨h1,h2,by simp[snap,h3]⟩
theorem plainL_ok {H:Heap}:∀ {x:List AV},plainL x=true→refsL x=[]∧rowsInL x=[]∧snapL H x=some x
 | [],_=>⟨rfl,rfl,by simp[snapL]⟩
 | x :: r,h=>by
   simp only[plainL,Bool.and_eq_true]at h
   obtain ⟨h1,h2,h3⟩:=plain_ok (H:=H) h.1
   obtain ⟨g1,g2,g3⟩:=plainL_ok (H:=H) h.2
   exact ⟨by simp[refsL,h1,g1],by simp[rowsInL,h2,g2],by simp[snapL,h3,g3]⟩
end
theorem keep_nil:∀H:Heap,H.keep []=[]:=fun H=>by
 induction H with
 | nil=>rfl
 | cons x r ih=>obtain ⟨i,o⟩:=x;simpa[Heap.keep] using ih
def intBin (op:BinOp) (k:IntKind) (x y:Int):Option D:=
 match op with
 | .add=>some (.int k (k.wrap (x+y)))
 | .sub=>some (.int k (k.wrap (x - y)))
 | .mul=>some (.int k (k.wrap (x*y)))
 | .quo=>if y=0 then none else some (.int k (k.wrap (x.tdiv y)))
 | .rem=>if y=0 then none else some (.int k (x.tmod y))
 | .and=>some (.int k (k.wrap (BitVec.ofInt k.bits x &&& BitVec.ofInt k.bits y).toNat))
 | .or=>some (.int k (k.wrap (BitVec.ofInt k.bits x ||| BitVec.ofInt k.bits y).toNat))
 | .xor=>some (.int k (k.wrap (BitVec.ofInt k.bits x ^^^ BitVec.ofInt k.bits y).toNat))
 | .andNot=>some (.int k (k.wrap (BitVec.ofInt k.bits x &&& ~~~(BitVec.ofInt k.bits y)).toNat))
 | .eql=>some (.bool (x==y))
 | .neq=>some (.bool (x != y))
 | .lss=>some (.bool (decide (x<y)))
 | .leq=>some (.bool (decide (x≤y)))
 | .gtr=>some (.bool (decide (x > y)))
 | .geq=>some (.bool (decide (x≥y)))
 | _=>none
def strBin (op:BinOp) (x y:ByteArray):Option D:=
 match op with
 | .add=>if ((x.size+y.size:Nat):Int)≤9223372036854775807 then some (.str (x++y)) else none
 | .eql=>some (.bool (x.toList==y.toList))
 | .neq=>some (.bool (!(x.toList==y.toList)))
 | .lss=>some (.bool (Op.bytesLess x.toList y.toList))
 | .leq=>some (.bool (Op.bytesLess x.toList y.toList||x.toList==y.toList))
 | .gtr=>some (.bool (!(Op.bytesLess x.toList y.toList||x.toList==y.toList)))
 | .geq=>some (.bool (!Op.bytesLess x.toList y.toList))
 | _=>none
def binD (op:BinOp):D→D→Option D
 | .int k x,.int k' y=>
   match op with
   | .shl=>if y<0 then none else some (.int k (k.wrap (x*2 ^ (min y.toNat k.bits))))
   | .shr=>if y<0 then none else some (.int k (x.fdiv (2 ^ (min y.toNat k.bits))))
   | op=>if k=k' then intBin op k x y else none
 | .str x,.str y=>strBin op x y
 | _,_=>none
def unD (op:UnOp):D→Option D
 | .int k x=>match op with
   | .neg=>intBin .sub k 0 x
   | .xor=>intBin .xor k (if k.signed then -1 else k.max) x
   | _=>none
 | .bool b=>match op with
   | .not=>some (.bool (!b))
   | _=>none
 | _=>none
def elsOf (H:Heap):AV→Option (Bool×Nat×List D)
 | .n .nil=>some (true,0,[])
 | .n (.sl sz els)=>some (true,sz,els)
 | .o (.sl sz els)=>some (false,sz,els)
 | .row id ver=>match H.get id with
   | some (.row _ nw v _ sz els)=>if v=ver then some (nw,sz,els) else none
   | _=>none
 | _=>none
def byteOf (x:D):UInt8:=match x with
 | .int _ n=>UInt8.ofNat n.toNat
 | _=>0
def D.isU8:D→Bool
 | .int .u8 _=>true
 | _=>false
def bytesD (s:ByteArray):List D:=s.data.toList.map fun b => .int .u8 (b.toNat:Int)
def pickV (t:Bool):AV→AV→AV
 | .n (.bool x),.n (.bool y) => .n (.bool (if t then x else y))
 | x,y=>if t then x else y
def AV.cellOK:AV→Bool
 | .n .any | .n (.rcd _) | .o (.rcd _) | .o .any | .agg _ | .tup _ | .undef=>false
 | _=>true
def cellsAV:AV→List AV
 | .agg cs=>cs
 | x=>[x]
def dataL:List AV→Option (Bool×List D)
 | []=>some (true,[])
 | x :: r=>match x.data,dataL r with
   | some (b,y),some (c,s)=>some (b&&c,y :: s)
   | _,_=>none
def mkEl (sz:Nat) (v:AV):Option (Bool×D):=
 match v with
 | .agg cs=>match dataL cs with
   | some (b,ds)=>if ds.length=sz&&cs.all AV.cellOK then some (b,.rcd ds) else none
   | none=>none
 | v=>match v.data with
   | some (b,d)=>if sz=1&&v.cellOK then some (b,d) else none
   | none=>none
def putC (cs:List D) (off:Nat):List D→List D
 | []=>cs
 | x :: r=>putC (cs.set off x) (off+1) r
def elPut (sz o size:Nat) (old d:D):D:=match Nat.beq o 0&&Nat.beq sz size with
 | true=>d
 | false => .rcd (putC old.cells o d.cells)
def mkEls (sz:Nat):List AV→Option (Bool×List D)
 | []=>some (true,[])
 | x :: r=>match mkEl sz x,mkEls sz r with
   | some (b,y),some (c,s)=>some (b&&c,y :: s)
   | _,_=>none
def evL (σ:Slots):List Operand→Option (List AV)
 | []=>some []
 | x :: r=>match ev σ x,evL σ r with
   | some y,some s=>some (y :: s)
   | _,_=>none
def setCells (cs:List AV) (off:Nat):List AV→List AV
 | []=>cs
 | x :: r=>setCells (cs.set off x) (off+1) r
def fillAV (σ:Slots) (cs:List AV):List (Nat×Nat×Operand)→Option (List AV)
 | []=>some cs
 | (off,size,x) :: r=>match ev σ x with
   | some v=>if (cellsAV v).length=size&&off+size≤cs.length&&(cellsAV v).all AV.cellOK then fillAV σ (setCells cs off (cellsAV v)) r else none
   | none=>none
def bound (σ:Slots) (x:Option Operand) (dflt hi:Nat):Option Nat:=
 match x with
 | none=>some dflt
 | some x=>match ev σ x with
   | some (.n (.int _ i))=>if 0≤i∧i≤hi then some i.toNat else none
   | _=>none
def mmI (max:Bool) (x y:Int):Int:=if max then (if y > x then y else x) else (if y<x then y else x)
def mmL (max:Bool) (k:IntKind) (acc:Int):List AV→Option Int
 | []=>some acc
 | .n (.int k' y) :: r=>if k=k' then mmL max k (mmI max acc y) r else none
 | _=>none
def Heap.closed (H:Heap) (ids:List Nat) (xs:List AV):Bool:=
 (refsL xs++rowsInL xs).all ids.contains&&ids.all fun i=>match H.get i with
   | some (.box cs)=>(refsL cs++rowsInL cs).all ids.contains
   | _=>true
def swN (a b i:Nat):Nat:=if i=a then b else if i=b then a else i
mutual
def swpV (a b:Nat):AV→AV
 | .row i v => .row (swN a b i) v
 | .ptr i x => .ptr (swN a b i) x
 | .elt i v s k x => .elt (swN a b i) v s k x
 | .agg cs => .agg (swpL a b cs)
 | .tup cs => .tup (swpL a b cs)
 | .fn f cs => .fn f (swpL a b cs)
 | .n d => .n d
 | .o d => .o d
 | .dat nw cs => .dat nw cs
 | .nilp => .nilp
 | .undef => .undef
def swpL (a b:Nat):List AV→List AV
 | []=>[]
 | x :: r=>swpV a b x :: swpL a b r
end
def Ob.swp (a b:Nat):Ob→Ob
 | .box cs => .box (swpL a b cs)
 | .row fz nw v e sz els => .row fz nw v e sz els
def Heap.swp (a b:Nat):Heap→Heap
 | []=>[]
 | (i,o) :: r=>(Heap.swp a b r).ins (swN a b i) (o.swp a b)
def swPairs (s:Nat) (ids:List Nat):Nat→Heap→List (Nat×Nat)
 | _,[]=>[]
 | k,(i,_) :: r=>if ids.contains i then swPairs s ids k r else (i,s+50000+10000*k) :: swPairs s ids (k+1) r
def swAll:List (Nat×Nat)→AV×Heap→AV×Heap
 | [],p=>p
 | (a,b) :: r,p=>swAll r (swpV a b p.1,p.2.swp a b)
def swBad (ids:List Nat) (H:Heap) (prs:List (Nat×Nat)):Bool:=
 prs.any fun p=>ids.contains p.1||ids.contains p.2||(H.get p.1).isSome||(H.get p.2).isSome
def ownBack (s g:Nat) (ids lent:List Nat) (H:Heap) (p:AV×Heap):Option (AV×Heap):=
 let prs:=if s=0 then [] else swPairs s ids 0 p.2
 if Nat.blt 3 prs.length||prs.any (fun q => !(Nat.beq (q.1 / 100000) g)) then none else
 if swBad ids H prs then none else
 let q:=swAll prs p
 if q.2.any (fun p => !ids.contains p.1&&(H.get p.1).isSome) then none else
 some (q.1,(H.freeze (if q.2.isEmpty && !hasO q.1 then [] else lent)).merge q.2)
def callF (f:Nat):Nat:=f % 1000000
def callS' (f:Nat):Nat:=f / 1000000 / 2
def callR (f:Nat):Bool:=f / 1000000 % 2==1
def callCode (keep:List Nat) (id f:Nat):Bool×Nat:=
 match Nat.ble f 999999 with
 | true=>
   if keep.contains f then (true,f) else
   if keep.contains (f+1000000) then (true,f+1000000*(2*id)) else
   if keep.contains (f+2000000) then (true,f+1000000) else
   if keep.contains (f+3000000) then (true,f+1000000*(2*id+1)) else (false,f)
 | false=>(false,f)
def callFn (own:Bool) (f:Nat):Nat:=match own with
 | true=>callF f
 | false=>f
theorem callCode_ok (keep:List Nat) (id f:Nat):callFn (callCode keep id f).1 (callCode keep id f).2=f:=by
 unfold callCode
 cases h:Nat.ble f 999999 with
 | false=>rfl
 | true=>
   have h:f≤999999:=Nat.le_of_ble_eq_true h
   dsimp only
   by_cases h1:keep.contains f=true
   · rw[if_pos h1];show f % 1000000=f;omega
   · rw[if_neg h1]
     by_cases h2:keep.contains (f+1000000)=true
     · rw[if_pos h2];show (f+1000000*(2*id)) % 1000000=f;omega
     · rw[if_neg h2]
       by_cases h3:keep.contains (f+2000000)=true
       · rw[if_pos h3];show (f+1000000) % 1000000=f;omega
       · rw[if_neg h3]
         by_cases h4:keep.contains (f+3000000)=true
         · rw[if_pos h4];show (f+1000000*(2*id+1)) % 1000000=f;omega
         · rw[if_neg h4];rfl
def callRoots (own:Bool) (f:Nat) (as:List AV):List Nat:=match own with
 | true=>match callR f with
   | true=>refsL as++rowsInL as
   | false=>refsL as
 | false=>refsL as
def callArgs (own:Bool) (H:Heap) (f:Nat) (as:List AV):Option (List AV):=match own with
 | true=>match callR f with
   | true=>some as
   | false=>snapL H as
 | false=>snapL H as
def callLent (own:Bool) (f:Nat) (as:List AV):List Nat:=match own with
 | true=>match callR f with
   | true=>[]
   | false=>rowsInL as
 | false=>rowsInL as
def doCall (call:CallFn) (own:Bool) (H:Heap) (f:Nat) (as:List AV):Option (AV×Heap):=
 match callArgs own H f as with
 | none=>none
 | some as'=>
   let ids:=H.reach 1000 (callRoots own f as') []
   let lent:=callLent own f as
   if lent.any ids.contains || !H.closed ids as' then none else
   match call (callFn own f) (ageL as') (H.keep ids).age with
   | none=>none
   | some (r,H1)=>
     match own with
     | true=>ownBack (callS' f) (callF f) ids lent H (r,H1)
     | false=>match snap H1 r with
       | none=>none
       | some r'=>
         if !H1.closed ids [r'] then none else
         some (r',(H.freeze (if ids.isEmpty && !hasO r' then [] else lent)).merge ((H1.freeze (rowsIn r)).keep ids))
def eqF:Lf→D→D→Option Bool
 | .int _,.int k x,.int k' y=>if k=k' then some (x==y) else none
 | .bool,.bool x,.bool y=>some (x==y)
 | .str,.str x,.str y=>some (x.toList==y.toList)
 | _,_,_=>none
def eqL:List Lf→List AV→List AV→Option Bool
 | [],[],[]=>some true
 | l :: ks,.n x :: r,.n y :: s=>match eqF l x y,eqL ks r s with
   | some b,some c=>some (b&&c)
   | _,_=>none
 | _,_,_=>none
def exec1 (call:CallFn) (σ:Slots) (H:Heap):Opn→Option (AV×Heap)
 | .mov x=>match ev σ x with
   | some v=>some (v,H)
   | none=>none
 | .pick c a b=>match ev σ c,ev σ a,ev σ b with
   | some (.n (.bool t)),some x,some y=>some (pickV t x y,H)
   | _,_,_=>none
 | .bin op x y=>match ev σ x,ev σ y with
   | some (.n a),some (.n b)=>match binD op a b with
     | some d=>some (.n d,H)
     | none=>none
   | _,_=>none
 | .bb neq x y=>match ev σ x,ev σ y with
   | some (.n (.bool a)),some (.n (.bool b))=>some (.n (.bool (if neq then !(a==b) else a==b)),H)
   | _,_=>none
 | .un op x=>match ev σ x with
   | some (.n a)=>match unD op a with
     | some d=>some (.n d,H)
     | none=>none
   | _=>none
 | .conv k x=>match ev σ x with
   | some (.n (.int _ n))=>some (.n (.int k (k.wrap n)),H)
   | _=>none
 | .sid x=>match ev σ x with
   | some (.n (.str s))=>some (.n (.str s),H)
   | _=>none
 | .ext x i=>match ev σ x with
   | some (.tup vs)=>match vs[i]? with
     | some v=>some (v,H)
     | none=>none
   | _=>none
 | .nilck x=>match ev σ x with
   | some (.ptr id off)=>some (.ptr id off,H)
   | some (.elt id v s i off)=>some (.elt id v s i off,H)
   | some (.dat nw cs)=>some (.dat nw cs,H)
   | some (.fn f cap)=>some (.fn f cap,H)
   | _=>none
 | .fadr x off=>match ev σ x with
   | some (.ptr id o)=>some (.ptr id (o+off),H)
   | some (.elt id v s i o)=>some (.elt id v s i (o+off),H)
   | some (.dat nw cs)=>some (.dat nw (cs.drop off),H)
   | _=>none
 | .fld x off size=>match ev σ x with
   | some (.agg cs)=>match size with
     | none=>match cs[off]? with
       | some v=>some (v,H)
       | none=>none
     | some n=>if off+n≤cs.length then some (.agg ((cs.drop off).take n),H) else none
   | _=>none
 | .ld x size=>match ev σ x with
   | some (.ptr id o)=>match H.get id with
     | some (.box cs)=>match size with
       | none=>match cs[o]? with
         | some v=>some (v,H)
         | none=>none
       | some n=>if o+n≤cs.length then some (.agg ((cs.drop o).take n),H) else none
     | _=>none
   | some (.elt id v s i o)=>match H.get id with
     | some (.row _ nw v' _ sz els)=>if v=v'&&s=sz then match els[i]? with
         | some el=>match size with
           | none=>match el.cells[o]? with
             | some x=>some (sub nw x,H)
             | none=>none
           | some n=>if o+n≤el.cells.length then some (.agg (((el.cells.drop o).take n).map (sub nw)),H) else none
         | none=>none
       else none
     | _=>none
   | some (.dat nw cs)=>match size with
     | none=>match cs[0]? with
       | some x=>some (sub nw x,H)
       | none=>none
     | some n=>if n≤cs.length then some (.agg ((cs.take n).map (sub nw)),H) else none
   | _=>none
 | .st x y size=>match ev σ x,ev σ y with
   | some (.ptr id o),some v=>match H.get id with
     | some (.box cs)=>if (cellsAV v).length=size&&o+size≤cs.length&&(cellsAV v).all AV.cellOK then some (.n .any,H.ins id (.box (setCells cs o (cellsAV v)))) else none
     | _=>none
   | some (.elt id ver s i o),some v=>match (H.freeze (rowsIn v)).get id with
     | some (.row false nw vr e sz els)=>if ver=vr&&o+size≤sz&&s=sz then match els[i]? with
         | some el=>match snap H v with
           | some v'=>match mkEl size v' with
             | some (b,d)=>some (.n .any,(H.freeze (rowsIn v)).ins id (.row false (nw&&b) vr e sz (els.set i (elPut sz o size el d))))
             | none=>none
           | none=>none
         | none=>none
       else none
     | _=>none
   | _,_=>none
 | .idxA x i sz=>match ev σ x,ev σ i with
   | some x,some (.n (.int _ j))=>match x with
     | .row id ver=>match H.get id with
       | some (.row _ _ v _ s els)=>if v=ver&&s=sz&&0≤j&&j<els.length then some (.elt id ver sz j.toNat 0,H) else none
       | _=>none
     | x=>match elsOf H x with
       | some (nw,s,els)=>if s=sz&&0≤j then match els[j.toNat]? with
           | some d=>some (.dat nw d.cells,H)
           | none=>none
         else none
       | none=>none
   | _,_=>none
 | .idx x i=>match ev σ x,ev σ i with
   | some (.n (.str s)),some (.n (.int _ j))=>if 0≤j then match s.data.toList[j.toNat]? with
       | some b=>some (.n (.int .u8 (b.toNat:Int)),H)
       | none=>none
     else none
   | _,_=>none
 | .idxG x i n=>match ev σ x,ev σ i with
   | some (.agg cs),some (.n (.int _ j))=>if 0≤j∧j<n then match cs[j.toNat]? with
       | some v=>some (v,H)
       | none=>none
     else none
   | _,_=>none
 | .scut x lo hi=>match ev σ x with
   | some (.n (.str s))=>match bound σ hi s.size s.size with
       | some h=>match bound σ lo 0 h with
         | some l=>some (.n (.str (s.extract l h)),H)
         | none=>none
       | none=>none
   | _=>none
 | .cut x lo hi mx sz=>match ev σ x with
   | some (.n .nil)=>match bound σ mx 0 0 with
     | some m=>match bound σ hi 0 m with
       | some h=>match bound σ lo 0 h with
         | some _=>some (.n .nil,H)
         | none=>none
       | none=>none
     | none=>none
   | some x=>match elsOf H x with
     | some (nw,s,els)=>if s=sz then match bound σ mx els.length els.length with
         | some m=>match (match hi with|none=>some els.length|some _=>bound σ hi 0 m) with
           | some h=>match bound σ lo 0 h with
             | some l=>some (sub nw (.sl sz ((els.take h).drop l)),H.freeze (rowsIn x))
             | none=>none
           | none=>none
         | none=>none
       else none
     | none=>none
   | none=>none
 | .build zero parts=>match fillAV σ zero parts with
   | some cs=>some (.agg cs,H)
   | none=>none
 | .lit id e sz parts=>if (H.get id).isSome then none else match evL σ parts with
   | some vs=>match snapL H vs with
     | some vs'=>match mkEls sz vs' with
       | some (nw,els)=>some (.row id 0,(H.freeze (rowsInL vs)).ins id (.row false nw 0 e sz els))
       | none=>none
     | none=>none
   | none=>none
 | .mk id e zero bytes n=>if (H.get id).isSome then none else match ev σ n with
   | some (.n (.int _ k))=>if 0≤k∧k.toNat*bytes≤140737488355328 then some (.row id 0,H.ins id (.row false true 0 e zero.cells.length (List.replicate k.toNat zero))) else none
   | _=>none
 | .alloc id zero=>if (H.get id).isSome then none else some (.ptr id 0,H.ins id (.box zero))
 | .box id x=>if (H.get id).isSome then none else match ev σ x with
   | some v=>if (cellsAV v).all AV.cellOK then some (.ptr id 0,H.ins id (.box (cellsAV v))) else none
   | none=>none
 | .app id e sz bytes x y=>match ev σ x,ev σ y with
   | some x,some y=>
     match (match elsOf H y with
       | some (b,s,ys)=>if s=sz||ys.isEmpty then some (b,ys) else none
       | none=>none) with
     | some (b,ys)=>match x with
       | .n .nil=>if (H.get id).isSome then none else
         if ys.length*bytes≤140737488355328 then some (.row id 0,(H.freeze (rowsIn y)).ins id (.row false b 0 e sz ys)) else none
       | .row i ver=>match (H.freeze (rowsIn y)).get i with
         | some (.row false nw v e' s els)=>if v=ver&&e'=e&&s=sz&&decide ((els.length+ys.length)*bytes≤140737488355328) then
             some (.row i (ver+1),(H.freeze (rowsIn y)).ins i (.row false (nw&&b) (ver+1) e sz (els++ys))) else none
         | _=>none
       | _=>none
     | none=>none
   | _,_=>none
 | .apps id e x y=>match ev σ x,ev σ y with
   | some x,some (.n (.str s))=>match x with
       | .n .nil=>if (H.get id).isSome then none else
         if s.size≤140737488355328 then some (.row id 0,H.ins id (.row false true 0 e 1 (bytesD s))) else none
       | .row i ver=>match H.get i with
         | some (.row false nw v e' z els)=>if v=ver&&e'=e&&z=1&&decide (els.length+s.size≤140737488355328) then
             some (.row i (ver+1),H.ins i (.row false nw (ver+1) e 1 (els++bytesD s))) else none
         | _=>none
       | _=>none
   | _,_=>none
 | .slen x=>match ev σ x with
   | some (.n (.str s))=>some (.n (.int .i64 s.size),H)
   | _=>none
 | .len x=>match ev σ x with
   | some x=>match elsOf H x with
     | some (_,_,els)=>some (.n (.int .i64 els.length),H)
     | none=>none
   | none=>none
 | .mm max xs=>match evL σ xs with
   | some (.n (.int k x) :: r)=>match mmL max k x r with
     | some z=>some (.n (.int k z),H)
     | none=>none
   | _=>none
 | .s2b x=>match ev σ x with
   | some (.n (.str s))=>some (.n (.sl 1 (bytesD s)),H)
   | _=>none
 | .b2s x=>match ev σ x with
   | some x=>match elsOf H x with
     | some (_,s,els)=>if (s=1||els.isEmpty)&&els.all D.isU8 then some (.n (.str ⟨(els.map byteOf).toArray⟩),H) else none
     | none=>none
   | none=>none
 | .eqs neq ks x y=>match ev σ x,ev σ y with
   | some (.agg xs),some (.agg ys)=>match eqL ks xs ys with
     | some b=>some (.n (.bool (if neq then !b else b)),H)
     | none=>none
   | _,_=>none
 | .mkf f cap=>match evL σ cap with
   | some vs=>some (.fn f vs,H)
   | none=>none
 | .call own f args=>match evL σ args with
   | some as=>doCall call own H f as
   | none=>none
 | .dyn own x args=>match ev σ x,evL σ args with
   | some (.fn f cap),some as=>doCall call own H f (as++cap)
   | _,_=>none
def execOps (call:CallFn):List RO→Slots→Heap→Option (Slots×Heap)
 | [],σ,H=>some (σ,H)
 | o :: r,σ,H=>
   match o.guard with
   | none=>match exec1 call σ H o.op with
     | some (v,H')=>execOps call r (match o.dst with|some d=>σ.put d v|none=>σ) H'
     | none=>none
   | some (g,want)=>match σ.get g with
     | .n (.bool b)=>if b=want then match exec1 call σ H o.op with
        | some (v,H')=>execOps call r (match o.dst with|some d=>σ.put d v|none=>σ) H'
        | none=>none
       else execOps call r (match o.dst with|some d=>σ.put d .undef|none=>σ) H
     | .undef=>execOps call r (match o.dst with|some d=>σ.put d .undef|none=>σ) H
     | _=>none
def loopN (f:Slots→Heap→Option (Ex×Slots×Heap)):Nat→Slots→Heap→Option (Ex×Slots×Heap)
 | 0,_,_=>none
 | k+1,σ,H=>match f σ H with
   | some (.norm,σ',H')=>loopN f k σ' H'
   | r=>r
def cellB (s:Nat):Nat:=(s - 10000000000) / 64
def cellC (s:Nat):Nat:=(s - 10000000000) % 64
def hintData:List Nat→Slots→Heap→Option (Slots×Heap)
 | [],σ,H=>some (σ,H)
 | s :: r,σ,H=>match Nat.ble s 99999 with
   | true=>match snap H (σ.get s) with
     | some v=>hintData r (σ.put s (age v)) (H.freeze (rowsIn (σ.get s)))
     | none=>none
   | false=>match Nat.ble s 9999999999 with
     | true=>match H.get s with
       | some o=>if o.thaw then hintData r σ (H.ins s o.age) else hintData r σ H
       | none=>hintData r σ H
     | false=>match H.get (cellB s) with
       | some (.box cs)=>match cs[cellC s]? with
         | some x=>match snap H x with
           | some v=>hintData r σ ((H.freeze (rowsIn x)).ins (cellB s) (.box (cs.set (cellC s) (age v))))
           | none=>none
         | none=>none
       | _=>none
def hintOnly (keep:List Nat) (i:Nat):Slots→Slots
 | []=>[]
 | x :: r=>(if keep.contains i then x else .n .any) :: hintOnly keep (i+1) r
def hintRows:List (Nat×Nat×Nat×Nat)→Slots→Heap→Option (Slots×Heap)
 | [],σ,H=>some (σ,H)
 | (s,id,e,sz) :: r,σ,H=>match Nat.ble s 99999 with
   | true=>match σ.get s with
     | .n .nil=>if (H.get id).isSome then none else hintRows r (σ.put s (.row id 0)) (H.ins id (.row false true 0 e sz []))
     | .row i _=>if i=id then hintRows r σ H else none
     | _=>none
   | false=>match H.get (s / 64) with
     | some (.box cs)=>match cs[s % 64]? with
       | some (.n .nil)=>if (H.get id).isSome then none else hintRows r σ ((H.ins id (.row false true 0 e sz [])).ins (s / 64) (.box (cs.set (s % 64) (.row id 0))))
       | some (.row i _)=>if i=id then hintRows r σ H else none
       | _=>none
     | _=>none
def hinted (fn:Nat) (keep drop:List Nat) (rows:List (Nat×Nat×Nat×Nat)) (data:List Nat) (σ:Slots) (H:Heap):Option (Slots×Heap):=
 match hintData data σ H with
 | none=>none
 | some (σ,H)=>
   let σ:=hintOnly keep 0 σ
   let ids:=H.dom.filter fun i => !drop.contains i
   if !H.closed ids σ||drop.any (fun i=>i / 100000 != fn) then none else hintRows rows σ (H.keep ids)
def Opn.squiet:Opn→Bool
 | .mov .. | .pick .. | .bin .. | .bb .. | .un .. | .conv .. | .sid .. | .ext .. | .nilck .. | .fadr .. | .fld .. | .idx .. | .idxG .. | .scut .. | .slen .. | .mm .. | .s2b .. | .eqs .. | .build .. | .mkf ..=>true
 | _=>false
def quietV:Option AV→Bool
 | some (.n _)=>true
 | some (.o _)=>true
 | some (.dat ..)=>true
 | _=>false
def quietL:Option (List AV)→Bool
 | some as=>plainL as
 | none=>false
def Opn.quiet (σ:Slots):Opn→Bool
 | .len x=>quietV (ev σ x)
 | .b2s x=>quietV (ev σ x)
 | .cut x ..=>quietV (ev σ x)
 | .idxA x ..=>quietV (ev σ x)
 | .ld x _=>quietV (ev σ x)
 | .call false _ args=>quietL (evL σ args)
 | .dyn false x args=>match ev σ x with
   | some (.fn _ cap)=>plainL cap&&quietL (evL σ args)
   | _=>false
 | o=>o.squiet
def Opn.reader:Opn→Bool
 | .ld .. | .len .. | .idxA .. | .b2s ..=>true
 | o=>o.squiet
def opdT:Operand→List Nat
 | .tmp t=>[t]
 | _=>[]
def opdTs (l:List Operand):List Nat:=l.flatMap opdT
def opdO:Option Operand→List Nat
 | some x=>opdT x
 | none=>[]
def Opn.reads:Opn→List Nat
 | .mov x=>opdT x
 | .pick c a b=>opdT c++opdT a++opdT b
 | .bin _ x y=>opdT x++opdT y
 | .bb _ x y=>opdT x++opdT y
 | .un _ x=>opdT x
 | .conv _ x=>opdT x
 | .sid x=>opdT x
 | .ext x _=>opdT x
 | .nilck x=>opdT x
 | .fadr x _=>opdT x
 | .fld x _ _=>opdT x
 | .ld x _=>opdT x
 | .st x y _=>opdT x++opdT y
 | .idxA x i _=>opdT x++opdT i
 | .idx x i=>opdT x++opdT i
 | .idxG x i _=>opdT x++opdT i
 | .scut x lo hi=>opdT x++opdO lo++opdO hi
 | .cut x lo hi mx _=>opdT x++opdO lo++opdO hi++opdO mx
 | .build _ ps=>ps.flatMap fun p=>opdT p.2.2
 | .lit _ _ _ ps=>opdTs ps
 | .mk _ _ _ _ n=>opdT n
 | .alloc _ _=>[]
 | .box _ x=>opdT x
 | .app _ _ _ _ x y=>opdT x++opdT y
 | .apps _ _ x y=>opdT x++opdT y
 | .slen x=>opdT x
 | .len x=>opdT x
 | .mm _ xs=>opdTs xs
 | .s2b x=>opdT x
 | .b2s x=>opdT x
 | .eqs _ _ x y=>opdT x++opdT y
 | .mkf _ xs=>opdTs xs
 | .call _ _ xs=>opdTs xs
 | .dyn _ f xs=>opdT f++opdTs xs
def RO.reads (o:RO):List Nat:=o.op.reads++(match o.guard with|some (g,_)=>[g]|none=>[])
def RO.apart (x y:RO):Bool:=
 (match x.dst with|some d => !y.reads.contains d&&y.dst != some d|none=>true) &&
 (match y.dst with|some d => !x.reads.contains d|none=>true)
def RO.run (call:CallFn) (o:RO) (σ:Slots) (H:Heap):Option (Slots×Heap):=
 match o.guard with
 | none=>match exec1 call σ H o.op with
   | some (v,H')=>some (match o.dst with|some d=>σ.put d v|none=>σ,H')
   | none=>none
 | some (g,want)=>match σ.get g with
   | .n (.bool b)=>if b=want then match exec1 call σ H o.op with
      | some (v,H')=>some (match o.dst with|some d=>σ.put d v|none=>σ,H')
      | none=>none
     else some (match o.dst with|some d=>σ.put d .undef|none=>σ,H)
   | .undef=>some (match o.dst with|some d=>σ.put d .undef|none=>σ,H)
   | _=>none
inductive Fg where
 | q
 | r (j:Nat)
 | m (id:Nat)
 | c (S:List Nat)
 | w (S:List Nat)
 | s (g:Nat) (S:List Nat)
 | f (j:Nat)
 | x
deriving Inhabited
def Fg.ok:Fg→Fg→Bool
 | .q,_=>true
 | _,.q=>true
 | .r _,.r _=>true
 | .r j,.m i => !(Nat.beq j i)
 | .m i,.r j => !(Nat.beq j i)
 | .r j,.c S => !(S.contains j)
 | .c S,.r j => !(S.contains j)
 | .m i,.m j => !(Nat.beq i j)
 | .w S,.m i => !(S.contains i)
 | .m i,.w S => !(S.contains i)
 | .w S,.r j => !(S.contains j)
 | .r j,.w S => !(S.contains j)
 | .w S,.w T => !(S.any T.contains)
 | .f _,.f _=>true
 | .f j,.m i => !(Nat.beq j i)
 | .m i,.f j => !(Nat.beq j i)
 | .f j,.r i => !(Nat.beq j i)
 | .r i,.f j => !(Nat.beq j i)
 | .f j,.w S => !(S.contains j)
 | .w S,.f j => !(S.contains j)
 | .c S,.m i => !(S.contains i)
 | .m i,.c S => !(S.contains i)
 | .c S,.f j => !(S.contains j)
 | .f j,.c S => !(S.contains j)
 | .c S,.w T => !(T.any S.contains)
 | .w T,.c S => !(T.any S.contains)
 | .s g S,.r j => !(Nat.beq (j / 100000) g) && !(S.contains j)
 | .r j,.s g S => !(Nat.beq (j / 100000) g) && !(S.contains j)
 | .s g S,.m j => !(Nat.beq (j / 100000) g) && !(S.contains j)
 | .m j,.s g S => !(Nat.beq (j / 100000) g) && !(S.contains j)
 | .s g S,.f j => !(Nat.beq (j / 100000) g) && !(S.contains j)
 | .f j,.s g S => !(Nat.beq (j / 100000) g) && !(S.contains j)
 | .s g S,.w T=>T.all fun j => !(Nat.beq (j / 100000) g) && !(S.contains j)
 | .w T,.s g S=>T.all fun j => !(Nat.beq (j / 100000) g) && !(S.contains j)
 | _,_=>false
def objV:Option AV→Fg
 | some (.ptr j _) => .r j
 | some (.elt j _ _ _ _) => .r j
 | some (.row j _) => .r j
 | _ => .x
def callS (H:Heap) (as:List AV):Fg:=match snapL H as with
 | some as' => .c (H.reach 1000 (refsL as') []++rowsInL as)
 | none => .x
def callG (H:Heap) (own:Bool) (f:Nat) (as:List AV):Fg:=match own with
 | false=>match (refsL as).isEmpty with
   | true => .w (rowsInL as)
   | false=>callS H as
 | true=>match callR f||Nat.beq (callS' f) 0 || !plainL as with
   | true => .x
   | false => .s (callF f) [callS' f+50000,callS' f+60000,callS' f+70000]
def objW (S:List Nat):Option AV→Fg
 | some (.row k _) => .w (k :: S)
 | some (.n _) => .w S
 | some (.o _) => .w S
 | some (.dat ..) => .w S
 | _ => .x
def objC:Option AV→Fg
 | some (.row j _) => .f j
 | _ => .x
def objS (y:Option AV):Option AV→Fg
 | some (.ptr j _) => .w [j]
 | some (.elt j _ _ _ _)=>match y with
   | some (.n _) => .w [j]
   | _ => .x
 | _ => .x
def objA (id:Nat) (y:Option AV):Option AV→Fg
 | some (.n .nil)=>objW [id] y
 | some (.row i _)=>objW [i] y
 | _ => .x
def Opn.fg1 (σ:Slots) (H:Heap):Opn→Fg
 | .ld x _=>objV (ev σ x)
 | .len x=>objV (ev σ x)
 | .b2s x=>objV (ev σ x)
 | .idxA x _ _=>objV (ev σ x)
 | .cut x ..=>objC (ev σ x)
 | .st x y _=>objS (ev σ y) (ev σ x)
 | .app id _ _ _ x y=>objA id (ev σ y) (ev σ x)
 | .mk id _ _ _ _ => .m id
 | .alloc id _ => .m id
 | .box id _ => .m id
 | .lit id _ _ ps=>match quietL (evL σ ps) with
   | true => .m id
   | false => .x
 | .call own f args=>match evL σ args with
   | some as=>callG H own f as
   | none => .x
 | .dyn false x args=>match ev σ x,evL σ args with
   | some (.fn f cap),some as=>callG H false f (as++cap)
   | _,_ => .x
 | _ => .x
def Opn.fg (σ:Slots) (H:Heap) (o:Opn):Fg:=match o.quiet σ with
 | true => .q
 | false=>o.fg1 σ H
def RO.flag (o:RO) (σ:Slots) (H:Heap):Fg:=
 match o.guard with
 | none=>o.op.fg σ H
 | some (g,want)=>match σ.get g with
   | .n (.bool b)=>if b=want then o.op.fg σ H else .q
   | _ => .q
def runOps (call:CallFn):List RO→Slots→Heap→List Fg→Option (Slots×Heap×List Fg)
 | [],σ,H,fl=>some (σ,H,fl)
 | o :: r,σ,H,fl=>match o.run call σ H with
   | some (σ',H')=>runOps call r σ' H' (fl++[o.flag σ H])
   | none=>none
def flagsOK (fl:List Fg):List (Nat×Nat)→Bool
 | []=>true
 | (i,k) :: r=>((fl[i]?).getD .x).ok ((fl[k]?).getD .x)&&flagsOK fl r
def exec (call:CallFn) (fuel:Nat):Cmd→Slots→Heap→Option (Ex×Slots×Heap)
 | .skip,σ,H=>some (.norm,σ,H)
 | .region ops,σ,H=>match execOps call ops σ H with
   | some (σ',H')=>some (.norm,σ',H')
   | none=>none
 | .drawn ops un,σ,H=>match runOps call ops σ H [] with
   | some (σ',H',fl)=>if flagsOK fl un then some (.norm,σ',H') else none
   | none=>none
 | .seq a b,σ,H=>match exec call fuel a σ H with
   | some (.norm,σ',H')=>exec call fuel b σ' H'
   | r=>r
 | .cond c a b,σ,H=>match ev σ c with
   | some (.n (.bool t))=>if t then exec call fuel a σ H else exec call fuel b σ H
   | _=>none
 | .block id c,σ,H=>match exec call fuel c σ H with
   | some (.exit i,σ',H')=>if i=id then some (.norm,σ',H') else some (.exit i,σ',H')
   | r=>r
 | .loop _ c,σ,H=>loopN (exec call fuel c) fuel σ H
 | .exit id,σ,H=>some (.exit id,σ,H)
 | .ret,σ,H=>some (.ret,σ,H)
 | .hint fn keep drop rows data,σ,H=>match hinted fn keep drop rows data σ H with
   | some (σ',H')=>some (.norm,σ',H')
   | none=>none
inductive Res where
 | tmp (t:Nat)
 | cell (t:Nat) (size:Option Nat)
structure FnC where
 fn:Nat
 ntmps:Nat
 results:List Res
 body:Cmd
 own:Bool:=false
 ps:List S1:=[]
 rs:Sh := .val (.one .raw)
 orow:Option (Nat×Nat×Nat×Bool):=none
 muts:Bool:=false
 alts:List (Sh×List It):=[]
inductive Fun where
 | code (c:FnC)
 | prim (orow:Option (Nat×Nat×Nat×Bool)) (p:List AV→Heap→Option (AV×Heap))
def resV (σ:Slots) (H:Heap):List Res→Option (List AV)
 | []=>some []
 | x :: r=>match (match x with
     | .tmp t=>some (σ.get t,H)
     | .cell t size=>exec1 (fun _ _ _=>none) σ H (.ld (.tmp t) size)),resV σ H r with
   | some (v,_),some s=>some (v :: s)
   | _,_=>none
def one:List AV→AV
 | [v]=>v
 | vs => .tup vs
def giveBack (own:Bool) (Hin H:Heap) (r:AV):Option (AV×Heap):=
 match own with
 | true=>
   let ids:=H.reach 1000 (Hin.dom++refs r++rowsIn r) []
   if H.closed ids [r]&&Hin.dom.all ids.contains then some (r,H.keep ids) else none
 | false=>match snap H r with
   | none=>none
   | some r'=>
     let ids:=H.reach 1000 (Hin.dom++refs r') []
     if H.closed ids [r']&&Hin.dom.all ids.contains then some (r',(H.freeze (rowsIn r)).keep ids) else none
def runFn (call:CallFn) (fuel:Nat) (c:FnC) (as:List AV) (H:Heap):Option (AV×Heap):=
 if H.dom.any (fun i=>i / 100000==c.fn) then none else
 match exec call fuel c.body (wkL c.ps as++List.replicate (c.ntmps - as.length) (.n .any)) H with
 | some (.norm,σ,H')=>match resV σ H' c.results with
   | some vs=>(giveBack c.own H H' (one vs)).map fun p=>(c.rs.wk p.1,p.2)
   | none=>none
 | some (.ret,σ,H')=>match resV σ H' c.results with
   | some vs=>(giveBack c.own H H' (one vs)).map fun p=>(c.rs.wk p.1,p.2)
   | none=>none
 | _=>none
def run (Fs:Nat→Option Fun):Nat→CallFn
 | 0,_,_,_=>none
 | k+1,f,as,H=>match Fs f with
   | some (.code c)=>runFn (run Fs k) k c as H
   | some (.prim _ p)=>p as H
   | none=>none
end Go.Mir
