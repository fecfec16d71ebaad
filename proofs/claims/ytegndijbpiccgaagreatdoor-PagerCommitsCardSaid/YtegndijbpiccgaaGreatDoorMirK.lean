import Derived.Test.YtegndijbpiccgaaGreatDoorMirQ
namespace Go.Mir
set_option linter.unusedVariables false
set_option linter.unusedSimpArgs false
def Runs (Fs:Nat→Option Fun) (f:Nat) (as:List AV) (H:Heap) (r:AV) (H':Heap):Prop:=∃k0,∀k,k0≤k→run Fs k f as H=some (r,H')
def noCall:CallFn:=fun _ _ _=>none
def is1 (K:AV→Heap→Prop):Option (AV×Heap)→Prop
 | some (v,H)=>K v H
 | none=>False
def putD (σ:Slots):Option Nat→AV→Slots
 | some d,v=>σ.put d v
 | none,_=>σ
abbrev Post:=Ex→Slots→Heap→Prop
def thenQ (W:Slots→Heap→Prop) (Q:Post):Post
 | .norm,σ,H=>W σ H
 | e,σ,H=>Q e σ H
def blockQ (id:Nat) (Q:Post):Post
 | .exit i,σ,H=>if i=id then Q .norm σ H else Q (.exit i) σ H
 | e,σ,H=>Q e σ H
def isS (W:Slots→Heap→Prop):Option (Slots×Heap)→Prop
 | some (σ,H)=>W σ H
 | none=>False
def sel (b:Bool) (A B:Prop):Prop:=@Bool.rec (fun _=>Prop) B A b
theorem sel_intro {b:Bool} {A B:Prop} (h1:b=true→A) (h2:b=false→B):sel b A B:=by
 cases b
 · exact h2 rfl
 · exact h1 rfl
theorem sel_dec {p:Prop} [Decidable p] {A B:Prop} (h1:p→A) (h2:¬p→B):sel (decide p) A B:=sel_intro (fun h=>h1 (of_decide_eq_true h)) (fun h=>h2 (of_decide_eq_false h))
theorem sel_elim {b:Bool} {A B:Prop} (h:sel b A B):(b=true∧A)∨(b=false∧B):=by
 cases b
 · exact .inr ⟨rfl,h⟩
 · exact .inl ⟨rfl,h⟩
def Lf.T:Lf→Type
 | .row _=>Nat
 | .nil=>Unit
 | .nilp=>Unit
 | .ptr _ _=>Unit
 | .sln _=>List D
 | .slo _=>List D
 | .int _=>Int
 | .bool=>Bool
 | .str=>ByteArray
 | .raw=>AV
def Lf.v:(l:Lf)→l.T→AV
 | .row id,x => .row id x
 | .nil,_ => .n .nil
 | .nilp,_ => .nilp
 | .ptr id off,_ => .ptr id off
 | .sln sz,x => .n (.sl sz x)
 | .slo sz,x => .o (.sl sz x)
 | .int k,x => .n (.int k x)
 | .bool,x => .n (.bool x)
 | .str,x => .n (.str x)
 | .raw,x=>x
def Lf.ex (K:AV→Prop):Lf→Prop
 | .row id=>∃x:Nat,K (.row id x)
 | .nil=>∃x:Unit,(fun _=>K (.n .nil)) x
 | .nilp=>∃x:Unit,(fun _=>K .nilp) x
 | .ptr id off=>∃x:Unit,(fun _=>K (.ptr id off)) x
 | .sln sz=>∃x:List D,K (.n (.sl sz x))
 | .slo sz=>∃x:List D,K (.o (.sl sz x))
 | .int k=>∃x:Int,K (.n (.int k x))
 | .bool=>∃x:Bool,K (.n (.bool x))
 | .str=>∃x:ByteArray,K (.n (.str x))
 | .raw=>∃x:AV,K x
def Lf.exL (K:List AV→Prop):List Lf→Prop
 | []=>K []
 | l :: r=>l.ex fun v=>Lf.exL (fun vs=>K (v :: vs)) r
def S1.ex (K:AV→Prop):S1→Prop
 | .one l=>l.ex K
 | .agg ls=>Lf.exL (fun vs=>K (.agg vs)) ls
def S1.exL (K:List AV→Prop):List S1→Prop
 | []=>K []
 | l :: r=>l.ex fun v=>S1.exL (fun vs=>K (v :: vs)) r
def Sh.ex (K:AV→Prop):Sh→Prop
 | .val s=>s.ex K
 | .tup l=>S1.exL (fun vs=>K (.tup vs)) l
theorem Lf.ex_elim {K:AV→Prop} {l:Lf} (h:l.ex K):∃v,K v:=by
 cases l <;> exact ⟨_,h.choose_spec⟩
theorem Lf.exL_elim:∀ {l:List Lf} {K:List AV→Prop},Lf.exL K l→∃v,K v
 | [],K,h=>⟨_,h⟩
 | l :: r,K,h=>by
   obtain ⟨v,h⟩:=Lf.ex_elim h
   obtain ⟨vs,h⟩:=Lf.exL_elim h
   exact ⟨_,h⟩
theorem S1.ex_elim {K:AV→Prop} {l:S1} (h:l.ex K):∃v,K v:=by
 cases l with
 | one l=>exact Lf.ex_elim h
 | agg ls=>obtain ⟨v,h⟩:=Lf.exL_elim h;exact ⟨_,h⟩
theorem S1.exL_elim:∀ {l:List S1} {K:List AV→Prop},S1.exL K l→∃v,K v
 | [],K,h=>⟨_,h⟩
 | l :: r,K,h=>by
   obtain ⟨v,h⟩:=S1.ex_elim h
   obtain ⟨vs,h⟩:=S1.exL_elim h
   exact ⟨_,h⟩
theorem Sh.ex_elim {K:AV→Prop} {l:Sh} (h:l.ex K):∃v,K v:=by
 cases l with
 | val l=>exact S1.ex_elim h
 | tup ls=>obtain ⟨v,h⟩:=S1.exL_elim h;exact ⟨_,h⟩
def Lf.exD (nw:Bool) (K:D→AV→Prop):Lf→Prop
 | .row _=>∃x:D,K x (sub nw x)
 | .nil=>∃x:D,K x (sub nw x)
 | .nilp=>∃x:D,K x (sub nw x)
 | .ptr _ _=>∃x:D,K x (sub nw x)
 | .sln sz=>∃x:List D,K (.sl sz x) (sub nw (.sl sz x))
 | .slo sz=>∃x:List D,K (.sl sz x) (sub nw (.sl sz x))
 | .int k=>∃x:Int,K (.int k x) (.n (.int k x))
 | .bool=>∃x:Bool,K (.bool x) (.n (.bool x))
 | .str=>∃x:ByteArray,K (.str x) (.n (.str x))
 | .raw=>∃x:D,K x (sub nw x)
def Lf.exDL (nw:Bool) (K:List D→List AV→Prop):List Lf→Prop
 | []=>K [] []
 | l :: r=>l.exD nw fun d v=>Lf.exDL nw (fun ds vs=>K (d :: ds) (v :: vs)) r
theorem Lf.exD_elim {nw:Bool} {K:D→AV→Prop} {l:Lf} (h:l.exD nw K):∃d,K d (sub nw d):=by
 cases l <;> obtain ⟨x,h⟩:=h <;> first|exact ⟨_,h⟩|exact ⟨_,by cases nw <;> exact h⟩
theorem Lf.exDL_elim {nw:Bool}:∀ {l:List Lf} {K:List D→List AV→Prop},Lf.exDL nw K l→∃ds,K ds (ds.map (sub nw))
 | [],K,h=>⟨[],h⟩
 | l :: r,K,h=>by
   obtain ⟨d,h⟩:=Lf.exD_elim h
   obtain ⟨ds,h⟩:=Lf.exDL_elim h
   exact ⟨d :: ds,h⟩
def leaf1:Sh→Lf
 | .val (.one l)=>l
 | _ => .raw
def leavesOf (n:Nat):Sh→List Lf
 | .val (.agg ls)=>ls
 | _=>List.replicate n .raw
def asInt (K:IntKind→Int→Prop):AV→Prop
 | .n (.int k x)=>K k x
 | _=>False
def asBool (K:Bool→Prop):AV→Prop
 | .n (.bool b)=>K b
 | _=>False
def asStr (K:ByteArray→Prop):AV→Prop
 | .n (.str s)=>K s
 | _=>False
def asD (K:D→Prop):AV→Prop
 | .n d=>K d
 | _=>False
def someQ {α:Type} (K:α→Prop):Option α→Prop
 | some x=>K x
 | none=>False
theorem someQ_elim {α:Type} {K:α→Prop} {o:Option α} (h:someQ K o):∃x,o=some x∧K x:=by
 cases o with
 | none=>exact h.elim
 | some x=>exact ⟨x,rfl,h⟩
def intBinQ (op:BinOp) (k:IntKind) (x y:Int) (K:D→Prop):Prop:=
 match op with
 | .quo=>y≠0∧K (.int k (k.wrap (x.tdiv y)))
 | .rem=>y≠0∧K (.int k (x.tmod y))
 | op=>someQ K (intBin op k x y)
def strBinQ (op:BinOp) (x y:ByteArray) (K:D→Prop):Prop:=
 match op with
 | .add=>((x.size+y.size:Nat):Int)≤9223372036854775807∧K (.str (x++y))
 | op=>someQ K (strBin op x y)
def binQ (op:BinOp) (K:D→Prop):D→D→Prop
 | .int k x,.int k' y=>
   match op with
   | .shl=>0≤y∧K (.int k (k.wrap (x*2 ^ (min y.toNat k.bits))))
   | .shr=>0≤y∧K (.int k (x.fdiv (2 ^ (min y.toNat k.bits))))
   | op=>sel (k==k') (intBinQ op k x y K) False
 | .str x,.str y=>strBinQ op x y K
 | _,_=>False
theorem intBinQ_elim {op:BinOp} {k:IntKind} {x y:Int} {K:D→Prop} (h:intBinQ op k x y K):∃d,intBin op k x y=some d∧K d:=by
 cases op <;> first
  | (obtain ⟨h1,h2⟩:=h;exact ⟨_,by simp[intBin,h1],h2⟩)
  | exact someQ_elim h
theorem strBinQ_elim {op:BinOp} {x y:ByteArray} {K:D→Prop} (h:strBinQ op x y K):∃d,strBin op x y=some d∧K d:=by
 cases op <;> first
  | (obtain ⟨h1,h2⟩:=h;exact ⟨_,by simp only[strBin,if_pos h1],h2⟩)
  | exact someQ_elim h
theorem binQ_elim {op:BinOp} {K:D→Prop} {a b:D} (h:binQ op K a b):∃d,binD op a b=some d∧K d:=by
 cases a <;> cases b <;> try (exact h.elim)
 · rename_i k x k' y
   have gen:∀ {op:BinOp},sel (k==k') (intBinQ op k x y K) False→∃d,(if k=k' then intBin op k x y else none)=some d∧K d:=fun h=>by
    rcases sel_elim h with ⟨h1,h2⟩|⟨_,h2⟩
    · rw[if_pos (by simpa using h1)]
      exact intBinQ_elim h2
    · exact h2.elim
   cases op <;> first
    | (obtain ⟨h1,h2⟩:=h;exact ⟨_,by simp only[binD];rw[if_neg (by omega)],h2⟩)
    | exact gen h
 · exact strBinQ_elim h
def elsQ (H:Heap) (K:Bool→Nat→List D→Prop) (x:AV):Prop:=
 match x with
 | .row id ver=>match H.get id with
   | some (.row _ nw v _ sz els)=>v=ver∧K nw sz els
   | _=>False
 | x=>someQ (fun p=>K p.1 p.2.1 p.2.2) (elsOf H x)
theorem elsQ_elim {H:Heap} {K:Bool→Nat→List D→Prop} {x:AV} (h:elsQ H K x):∃p,elsOf H x=some p∧K p.1 p.2.1 p.2.2:=by
 unfold elsQ at h
 split at h
 · split at h <;> try (exact h.elim)
   rename_i hg
   obtain ⟨rfl,h⟩:=h
   exact ⟨_,by simp[elsOf,hg];rfl,h⟩
 · exact someQ_elim h
def boundQ (σ:Slots) (x:Option Operand) (dflt hi:Nat) (K:Nat→Prop):Prop:=
 match x with
 | none=>K dflt
 | some x=>someQ (asInt fun _ i=>0≤i∧i≤hi∧K i.toNat) (ev σ x)
theorem boundQ_elim {σ:Slots} {x:Option Operand} {dflt hi:Nat} {K:Nat→Prop} (h:boundQ σ x dflt hi K):∃n,bound σ x dflt hi=some n∧K n:=by
 cases x with
 | none=>exact ⟨_,rfl,h⟩
 | some x=>
   obtain ⟨v,hv,h⟩:=someQ_elim h
   cases v <;> try (exact h.elim)
   rename_i d
   cases d <;> try (exact h.elim)
   obtain ⟨h1,h2,h3⟩:=h
   exact ⟨_,by simp only[bound,hv];rw[if_pos ⟨h1,h2⟩],h3⟩
mutual
/-- What is handed on of a value. -/
def snapQ (H:Heap):AV→(AV→Prop)→Prop
 | .n x,K=>K (.n x)
 | .o x,K=>K (.o x)
 | .row id ver,K=>match H.get id with
   | some (.row _ nw v _ sz els)=>v=ver∧K (sub nw (.sl sz els))
   | _=>False
 | .agg cs,K=>snapLQ H cs fun l=>K (.agg l)
 | .tup vs,K=>snapLQ H vs fun l=>K (.tup l)
 | .fn f cap,K=>snapLQ H cap fun l=>K (.fn f l)
 | .ptr id off,K=>K (.ptr id off)
 | .nilp,K=>K .nilp
 | .elt ..,_=>False
 | .dat ..,_=>False
 | .undef,_=>False
def snapLQ (H:Heap):List AV→(List AV→Prop)→Prop
 | [],K=>K []
 | x :: r,K=>snapQ H x fun y=>snapLQ H r fun s=>K (y :: s)
end
mutual
theorem snapQ_elim {H:Heap}:∀ {x:AV} {K:AV→Prop},snapQ H x K→∃y,snap H x=some y∧K y
 | .n x,K,h=>⟨_,by simp[snap],h⟩
 | .o x,K,h=>⟨_,by simp[snap],h⟩
 | .row id ver,K,h=>by
   simp only[snapQ]at h
   split at h <;> try (exact h.elim)
   rename_i hg
   obtain ⟨rfl,h⟩:=h
   exact ⟨_,by simp[snap,hg],h⟩
 | .agg cs,K,h=>by
   simp only[snapQ]at h
   obtain ⟨l,h1,h2⟩:=snapLQ_elim h
   exact ⟨_,by simp[snap,h1],h2⟩
 | .tup cs,K,h=>by
   simp only[snapQ]at h
   obtain ⟨l,h1,h2⟩:=snapLQ_elim h
   exact ⟨_,by simp[snap,h1],h2⟩
 | .fn f cs,K,h=>by
   simp only[snapQ]at h
   obtain ⟨l,h1,h2⟩:=snapLQ_elim h
   exact ⟨_,by simp[snap,h1],h2⟩
 | .ptr id off,K,h=>⟨_,by simp[snap],h⟩
 | .nilp,K,h=>⟨_,by simp[snap],h⟩
 | .elt ..,K,h=>h.elim
 | .dat ..,K,h=>h.elim
 | .undef,K,h=>h.elim
theorem snapLQ_elim {H:Heap}:∀ {x:List AV} {K:List AV→Prop},snapLQ H x K→∃y,snapL H x=some y∧K y
 | [],K,h=>⟨_,by simp[snapL],h⟩
 | x :: r,K,h=>by
   simp only[snapLQ]at h
   obtain ⟨y,h1,h⟩:=snapQ_elim h
   obtain ⟨s,h2,h⟩:=snapLQ_elim h
   exact ⟨_,by simp[snapL,h1,h2],h⟩
end
def AV.exS (K:AV→Prop):AV→Prop
 | .n (.int k _)=>∃x:Int,K (.n (.int k x))
 | .n (.bool _)=>∃x:Bool,K (.n (.bool x))
 | .n (.str _)=>∃x:ByteArray,K (.n (.str x))
 | .n (.sl sz _)=>∃x:List D,K (.n (.sl sz x))
 | .o (.sl sz _)=>∃x:List D,K (.o (.sl sz x))
 | .row id _=>∃x:Nat,K (.row id x)
 | x=>K x
def AV.exSL (K:List AV→Prop):List AV→Prop
 | []=>K []
 | x :: r=>x.exS fun y=>AV.exSL (fun s=>K (y :: s)) r
def Ob.exS (K:Ob→Prop):Ob→Prop
 | .box cs=>AV.exSL (fun cs=>K (.box cs)) cs
 | .row fz nw _ e sz _=>∃(ver:Nat) (els:List D),K (.row fz nw ver e sz els)
def Heap.exS (K:Heap→Prop):Heap→Prop
 | []=>K []
 | (i,o) :: r=>o.exS fun o=>Heap.exS (fun r=>K ((i,o) :: r)) r
theorem AV.exS_elim {K:AV→Prop} {x:AV} (h:x.exS K):∃y,K y:=by
 unfold AV.exS at h
 split at h <;> first|exact ⟨_,h.choose_spec⟩|exact ⟨_,h⟩
theorem AV.exSL_elim:∀ {l:List AV} {K:List AV→Prop},AV.exSL K l→∃y,K y
 | [],K,h=>⟨_,h⟩
 | x :: r,K,h=>by
   obtain ⟨y,h⟩:=AV.exS_elim h
   obtain ⟨s,h⟩:=AV.exSL_elim h
   exact ⟨_,h⟩
theorem Ob.exS_elim {K:Ob→Prop} {o:Ob} (h:o.exS K):∃y,K y:=by
 cases o with
 | box cs=>obtain ⟨y,h⟩:=AV.exSL_elim h;exact ⟨_,h⟩
 | row=>obtain ⟨a,b,h⟩:=h;exact ⟨_,h⟩
theorem Heap.exS_elim:∀ {H:Heap} {K:Heap→Prop},Heap.exS K H→∃y,K y
 | [],K,h=>⟨_,h⟩
 | (i,o) :: r,K,h=>by
   obtain ⟨o,h⟩:=Ob.exS_elim h
   obtain ⟨s,h⟩:=Heap.exS_elim h
   exact ⟨_,h⟩
def upperQ (σ:Slots) (hi:Option Operand) (len m:Nat) (K:Nat→Prop):Prop:=
 match hi with
 | none=>K len
 | some h=>boundQ σ (some h) 0 m K
def asAgg (K:List AV→Prop):AV→Prop
 | .agg cs=>K cs
 | _=>False
def pickQ (j:Int):List AV→Nat→(AV→Prop)→Prop
 | [],_,_=>False
 | c :: r,n,K=>sel (j==(n:Int)) (K c) (pickQ j r (n+1) K)
theorem pickQ_elim {j:Int} {K:AV→Prop}:∀ {cs:List AV} {n:Nat},pickQ j cs n K→∃k:Nat,j=(n+k:Nat)∧∃v,cs[k]?=some v∧K v
 | [],n,h=>h.elim
 | c :: r,n,h=>by
   rcases sel_elim h with ⟨h1,h⟩|⟨_,h⟩
   · exact ⟨0,by simpa using h1,c,rfl,h⟩
   · obtain ⟨k,hk,v,hv,h⟩:=pickQ_elim h
     exact ⟨k+1,by rw[hk];congr 1;omega,v,by simpa using hv,h⟩
def op1 (sh:Sh) (σ:Slots) (H:Heap) (K:AV→Heap→Prop) (o:Opn):Prop:=
 match o with
 | .bin op x y=>someQ (fun a=>someQ (fun b=>asD (fun a=>asD (fun b=>binQ op (fun d=>K (.n d) H) a b) b) a) (ev σ y)) (ev σ x)
 | .ld x size=>someQ (fun a=>match a with
    | .elt id v s i o=>someQ (fun ob=>match ob with
      | .row _ nw v' _ sz els=>(v=v'∧s=sz)∧(∃el,els[i]?=some el∧match size with
         | none=>(leaf1 sh).exD nw fun d w=>el.cells[o]?=some d∧K w H
         | some n=>Lf.exDL nw (fun ds ws=>(el.cells.drop o).take n=ds∧o+n≤el.cells.length∧K (.agg ws) H) (leavesOf n sh))
      | _=>False) (H.get id)
    | .dat nw cs=>(match size with
      | none=>(leaf1 sh).exD nw fun d w=>cs[0]?=some d∧K w H
      | some n=>Lf.exDL nw (fun ds ws=>cs.take n=ds∧n≤cs.length∧K (.agg ws) H) (leavesOf n sh))
    | _=>is1 K (exec1 noCall σ H (.ld x size))) (ev σ x)
 | .st x y size=>someQ (fun a=>match a with
    | .elt id ver s i o=>someQ (fun v=>someQ (fun ob=>match ob with
      | .row false nw vr e sz els=>sel (Nat.beq o 0&&Nat.beq sz size)
         ((((ver=vr∧o=0)∧sz=size)∧s=sz)∧i<els.length∧snapQ H v fun v'=>someQ (fun p=>K (.n .any) ((H.freeze (rowsIn v)).ins id (.row false (nw&&p.1) vr e sz (els.set i p.2)))) (mkEl sz v'))
         (((ver=vr∧o+size≤sz)∧s=sz)∧∃el,els[i]?=some el∧snapQ H v fun v'=>someQ (fun p=>K (.n .any) ((H.freeze (rowsIn v)).ins id (.row false (nw&&p.1) vr e sz (els.set i (.rcd (putC el.cells o p.2.cells)))))) (mkEl size v'))
      | _=>False) ((H.freeze (rowsIn v)).get id)) (ev σ y)
    | _=>is1 K (exec1 noCall σ H (.st x y size))) (ev σ x)
 | .idxA x i sz=>someQ (fun a=>someQ (asInt fun _ j=>match a with
    | .row id ver=>someQ (fun ob=>match ob with
      | .row _ _ v _ s els=>(v=ver∧s=sz)∧0≤j∧j<els.length∧K (.elt id ver sz j.toNat 0) H
      | _=>False) (H.get id)
    | a=>elsQ H (fun nw s els=>s=sz∧0≤j∧∃d,els[j.toNat]?=some d∧K (.dat nw d.cells) H) a) (ev σ i)) (ev σ x)
 | .idx x i=>someQ (asStr fun s=>someQ (asInt fun _ j=>0≤j∧∃b,s.data.toList[j.toNat]?=some b∧K (.n (.int .u8 (b.toNat:Int))) H) (ev σ i)) (ev σ x)
 | .idxG x i n=>someQ (asAgg fun cs=>someQ (asInt fun _ j=>0≤j∧j<n∧pickQ j cs 0 fun v=>K v H) (ev σ i)) (ev σ x)
 | .scut x lo hi=>someQ (asStr fun s=>boundQ σ hi s.size s.size fun h=>boundQ σ lo 0 h fun l=>K (.n (.str (s.extract l h))) H) (ev σ x)
 | .cut x lo hi mx sz=>someQ (fun a=>match a with
    | .n .nil=>is1 K (exec1 noCall σ H (.cut x lo hi mx sz))
    | a=>elsQ H (fun nw s els=>s=sz∧boundQ σ mx els.length els.length fun m=>upperQ σ hi els.length m fun h=>boundQ σ lo 0 h fun l=>K (sub nw (.sl sz ((els.take h).drop l))) (H.freeze (rowsIn a))) a) (ev σ x)
 | .mk id e zero bytes n=>sel (H.get id).isSome False (someQ (asInt fun _ k=>0≤k∧k.toNat*bytes≤140737488355328∧K (.row id 0) (H.ins id (.row false true 0 e zero.cells.length (List.replicate k.toNat zero)))) (ev σ n))
 | .app id e sz bytes x y=>someQ (fun x=>someQ (fun y=>elsQ H (fun b s ys=>(s=sz∨ys=[])∧(match x with
    | .n .nil=>sel (H.get id).isSome False (ys.length*bytes≤140737488355328∧K (.row id 0) ((H.freeze (rowsIn y)).ins id (.row false b 0 e sz ys)))
    | .row i ver=>someQ (fun ob=>match ob with
      | .row false nw v e' s els=>((v=ver∧e'=e)∧s=sz)∧(els.length+ys.length)*bytes≤140737488355328∧K (.row i (ver+1)) ((H.freeze (rowsIn y)).ins i (.row false (nw&&b) (ver+1) e sz (els++ys)))
      | _=>False) ((H.freeze (rowsIn y)).get i)
    | _=>False)) y) (ev σ y)) (ev σ x)
 | .apps id e x y=>someQ (fun x=>someQ (asStr fun s=>match x with
    | .n .nil=>sel (H.get id).isSome False (s.size≤140737488355328∧K (.row id 0) (H.ins id (.row false true 0 e 1 (bytesD s))))
    | .row i ver=>someQ (fun ob=>match ob with
      | .row false nw v e' z els=>((v=ver∧e'=e)∧z=1)∧els.length+s.size≤140737488355328∧K (.row i (ver+1)) (H.ins i (.row false nw (ver+1) e 1 (els++bytesD s)))
      | _=>False) (H.get i)
    | _=>False) (ev σ y)) (ev σ x)
 | .pick c a b=>someQ (asBool fun t=>someQ (fun x=>someQ (fun y=>sel t (K (pickV true x y) H) (K (pickV false x y) H)) (ev σ b)) (ev σ a)) (ev σ c)
 | .len x=>someQ (elsQ H fun _ _ els=>K (.n (.int .i64 els.length)) H) (ev σ x)
 | .b2s x=>someQ (elsQ H fun _ s els=>(s=1∨els=[])∧els.all D.isU8=true∧K (.n (.str ⟨(els.map byteOf).toArray⟩)) H) (ev σ x)
 | o=>is1 K (exec1 noCall σ H o)
theorem is1_elim {K:AV→Heap→Prop} {e:Option (AV×Heap)} (h:is1 K e):∃v H',e=some (v,H')∧K v H':=by
 cases e with
 | none=>exact h.elim
 | some p=>exact ⟨p.1,p.2,rfl,h⟩
theorem op1_elim {sh:Sh} {σ:Slots} {H:Heap} {K:AV→Heap→Prop} {o:Opn} (h:op1 sh σ H K o):∃v H',exec1 noCall σ H o=some (v,H')∧K v H':=by
 cases o
 case bin op x y=>
  obtain ⟨a,ha,h⟩:=someQ_elim h
  obtain ⟨b,hb,h⟩:=someQ_elim h
  cases a <;> try (exact h.elim)
  cases b <;> try (exact h.elim)
  have h':binQ op (fun d=>K (.n d) H) _ _:=h
  obtain ⟨d,hd,h⟩:=binQ_elim h'
  exact ⟨_,_,by simp only[exec1,ha,hb,hd],h⟩
 case ld x size=>
  obtain ⟨a,ha,h⟩:=someQ_elim h
  cases a <;> try (exact is1_elim h)
  · rename_i id v s i o
    obtain ⟨ob,hob,h⟩:=someQ_elim h
    cases ob <;> try (exact h.elim)
    rename_i fz nw v' e sz els
    obtain ⟨h1,el,hel,h⟩:=h
    cases size with
    | none=>
      obtain ⟨d,hd,h⟩:=Lf.exD_elim h
      exact ⟨_,_,by simp only[exec1,ha,hob,hel,hd,h1];simp,h⟩
    | some n=>
      obtain ⟨ds,hd,hle,h⟩:=Lf.exDL_elim h
      exact ⟨_,_,by simp only[exec1,ha,hob,hel,h1,hle,hd];simp,h⟩
  · rename_i nw cs
    cases size with
    | none=>
      obtain ⟨d,hd,h⟩:=Lf.exD_elim h
      exact ⟨_,_,by simp only[exec1,ha,hd],h⟩
    | some n=>
      obtain ⟨ds,hd,hle,h⟩:=Lf.exDL_elim h
      exact ⟨_,_,by simp only[exec1,ha,hle,hd];simp,h⟩
 case st x y size=>
  obtain ⟨a,ha,h⟩:=someQ_elim h
  cases a <;> try (exact is1_elim h)
  rename_i id v s i o
  obtain ⟨w,hw,h⟩:=someQ_elim h
  obtain ⟨ob,hob,h⟩:=someQ_elim h
  cases ob <;> try (exact h.elim)
  rename_i fz nw v' e sz els
  cases fz <;> try (exact h.elim)
  rcases sel_elim h with ⟨hb,h⟩|⟨hb,h⟩
  · obtain ⟨h1,hi,h⟩:=h
    obtain ⟨v',hv',h⟩:=snapQ_elim h
    obtain ⟨p,hp,h⟩:=someQ_elim h
    obtain ⟨⟨⟨e1,e2⟩,e3⟩,e4⟩:=h1
    refine ⟨_,_,?_,h⟩
    simp only[exec1,ha,hw,hob]
    rw[if_pos (by simp[e1,e2,e3,e4]),List.getElem?_eq_getElem hi]
    subst e2 e3
    simp only[hv',hp,elPut,hb]
  · obtain ⟨h1,el,hi,h⟩:=h
    obtain ⟨v',hv',h⟩:=snapQ_elim h
    obtain ⟨p,hp,h⟩:=someQ_elim h
    obtain ⟨⟨e1,e2⟩,e4⟩:=h1
    refine ⟨_,_,?_,h⟩
    simp only[exec1,ha,hw,hob]
    rw[if_pos (by simp[e1,e2,e4]),hi]
    simp only[hv',hp,elPut,hb]
 case idxA x i sz=>
  obtain ⟨a,ha,h⟩:=someQ_elim h
  obtain ⟨j,hj,h⟩:=someQ_elim h
  cases j <;> try (exact h.elim)
  rename_i d
  cases d <;> try (exact h.elim)
  rename_i k j
  have gen:elsQ H (fun nw s els=>s=sz∧0≤j∧∃d,els[j.toNat]?=some d∧K (.dat nw d.cells) H) a→(∀id ver,a≠.row id ver)→∃v H',exec1 noCall σ H (.idxA x i sz)=some (v,H')∧K v H':=fun h hr=>by
    obtain ⟨p,hp,hs,h0,d,hd,h⟩:=elsQ_elim h
    refine ⟨_,_,?_,h⟩
    cases a <;> first|exact absurd rfl (hr _ _)|(simp only[exec1,ha,hj,hp,hs,h0,hd];simp)
  cases a <;> try (exact gen h (by simp))
  obtain ⟨ob,hob,h⟩:=someQ_elim h
  cases ob <;> try (exact h.elim)
  obtain ⟨h1,h2,h3,h⟩:=h
  exact ⟨_,_,by simp only[exec1,ha,hj,hob,h1,h2,h3];simp,h⟩
 case idx x i=>
  obtain ⟨a,ha,h⟩:=someQ_elim h
  cases a <;> try (exact h.elim)
  rename_i d
  cases d <;> try (exact h.elim)
  obtain ⟨j,hj,h⟩:=someQ_elim h
  cases j <;> try (exact h.elim)
  rename_i d
  cases d <;> try (exact h.elim)
  obtain ⟨h0,b,hb,h⟩:=h
  exact ⟨_,_,by simp only[exec1,ha,hj,h0,hb];simp,h⟩
 case idxG x i n=>
  obtain ⟨a,ha,h⟩:=someQ_elim h
  cases a <;> try (exact h.elim)
  obtain ⟨j,hj,h⟩:=someQ_elim h
  cases j <;> try (exact h.elim)
  rename_i d
  cases d <;> try (exact h.elim)
  obtain ⟨h0,h1,h⟩:=h
  obtain ⟨k,rfl,v,hv,h⟩:=pickQ_elim h
  refine ⟨_,_,?_,h⟩
  simp only[exec1,ha,hj]
  rw[if_pos ⟨h0,h1⟩,show (((0+k:Nat):Int)).toNat=k by omega,hv]
 case scut x lo hi=>
  obtain ⟨a,ha,h⟩:=someQ_elim h
  cases a <;> try (exact h.elim)
  rename_i d
  cases d <;> try (exact h.elim)
  rename_i s
  have h':boundQ σ hi s.size s.size (fun h=>boundQ σ lo 0 h fun l=>K (.n (.str (s.extract l h))) H):=h
  obtain ⟨n,hn,h⟩:=boundQ_elim h'
  obtain ⟨l,hl,h⟩:=boundQ_elim h
  exact ⟨_,_,by simp only[exec1,ha,hn,hl],h⟩
 case cut x lo hi mx sz=>
  obtain ⟨a,ha,h⟩:=someQ_elim h
  have gen:elsQ H (fun nw s els=>s=sz∧boundQ σ mx els.length els.length fun m=>upperQ σ hi els.length m fun h=>boundQ σ lo 0 h fun l=>K (sub nw (.sl sz ((els.take h).drop l))) (H.freeze (rowsIn a))) a →
      ∃nw els m u l,elsOf H a=some (nw,sz,els)∧bound σ mx els.length els.length=some m∧(hi=none→u=els.length)∧(hi≠none→bound σ hi 0 m=some u)∧bound σ lo 0 u=some l∧K (sub nw (.sl sz ((els.take u).drop l))) (H.freeze (rowsIn a)):=fun h=>by
    obtain ⟨⟨nw,s,els⟩,hp,hs,h⟩:=elsQ_elim h
    dsimp only at hs h
    subst hs
    obtain ⟨m,hm,h⟩:=boundQ_elim h
    cases hi with
    | none=>
      simp only[upperQ]at h
      obtain ⟨l,hl,h⟩:=boundQ_elim h
      exact ⟨nw,els,m,_,l,hp,hm,fun _=>rfl,fun h=>absurd rfl h,hl,h⟩
    | some y=>
      simp only[upperQ]at h
      obtain ⟨u,hu,h⟩:=boundQ_elim h
      obtain ⟨l,hl,h⟩:=boundQ_elim h
      exact ⟨nw,els,m,u,l,hp,hm,fun h=>(by cases h),fun _=>hu,hl,h⟩
  cases a
  case n d=>
    cases d
    case nil=>exact is1_elim h
    all_goals
      obtain ⟨nw,els,m,u,l,h1,h2,h3,h4,h5,h6⟩:=gen h
      refine ⟨_,_,?_,h6⟩
      cases hi
      · obtain rfl:=h3 rfl
        simp[exec1,ha,h1,h2,h5]
      · simp[exec1,ha,h1,h2,h4 (by simp),h5]
  all_goals
    obtain ⟨nw,els,m,u,l,h1,h2,h3,h4,h5,h6⟩:=gen h
    refine ⟨_,_,?_,h6⟩
    cases hi
    · obtain rfl:=h3 rfl
      simp[exec1,ha,h1,h2,h5]
    · simp[exec1,ha,h1,h2,h4 (by simp),h5]
 case mk id e zero bytes n=>
  rcases sel_elim h with ⟨_,h⟩|⟨h1,h⟩
  · exact h.elim
  · obtain ⟨a,ha,h⟩:=someQ_elim h
    cases a <;> try (exact h.elim)
    rename_i d
    cases d <;> try (exact h.elim)
    obtain ⟨h2,h3,h⟩:=h
    exact ⟨_,_,by simp only[exec1,ha,h1,h2,h3];simp,h⟩
 case app id e sz bytes x y=>
  obtain ⟨a,ha,h1⟩:=someQ_elim h
  obtain ⟨b,hb,h2⟩:=someQ_elim h1
  obtain ⟨⟨pb,ps,pys⟩,hp,hsz,h3⟩:=elsQ_elim h2
  clear h h1 h2
  have h:=h3
  clear h3
  have hsz':(ps=sz||pys.isEmpty)=true:=by
    rcases hsz with h|h <;> simp at h <;> simp[h]
  clear hsz
  dsimp only at h
  cases a <;> try (exact h.elim)
  · rename_i d
    cases d <;> try (exact h.elim)
    rcases sel_elim h with ⟨_,h⟩|⟨h1,h2,h⟩
    · exact h.elim
    · exact ⟨_,_,by simp only[exec1,ha,hb,hp,hsz',h1];simp[h2],h⟩
  · obtain ⟨ob,hob,h⟩:=someQ_elim h
    cases ob <;> try (exact h.elim)
    rename_i fz nw v e' s els
    cases fz <;> try (exact h.elim)
    obtain ⟨h1,h2,h⟩:=h
    exact ⟨_,_,by simp only[exec1,ha,hb,hp,hsz',hob,h1];simp[h2],h⟩
 case apps id e x y=>
  obtain ⟨a,ha,h1⟩:=someQ_elim h
  obtain ⟨b,hb,h2⟩:=someQ_elim h1
  clear h h1
  cases b <;> try (exact h2.elim)
  rename_i d
  cases d <;> try (exact h2.elim)
  rename_i s
  cases a <;> try (exact h2.elim)
  · rename_i d
    cases d <;> try (exact h2.elim)
    rcases sel_elim h2 with ⟨_,h⟩|⟨h1,h3,h⟩
    · exact h.elim
    · exact ⟨_,_,by simp only[exec1,ha,hb,h1];simp[h3],h⟩
  · obtain ⟨ob,hob,h⟩:=someQ_elim h2
    clear h2
    cases ob <;> try (exact h.elim)
    rename_i fz nw v e' z els
    cases fz <;> try (exact h.elim)
    obtain ⟨h1,h2,h⟩:=h
    exact ⟨_,_,by simp only[exec1,ha,hb,hob,h1];simp[h2],h⟩
 case pick c a b=>
  obtain ⟨t,ht,h⟩:=someQ_elim h
  cases t <;> try (exact h.elim)
  rename_i d
  cases d <;> try (exact h.elim)
  obtain ⟨x,hx,h⟩:=someQ_elim h
  obtain ⟨y,hy,h⟩:=someQ_elim h
  rcases sel_elim h with ⟨rfl,h⟩|⟨rfl,h⟩ <;> exact ⟨_,_,by simp only[exec1,ht,hx,hy],h⟩
 case len x=>
  obtain ⟨a,ha,h⟩:=someQ_elim h
  obtain ⟨p,hp,h⟩:=elsQ_elim h
  exact ⟨_,_,by simp only[exec1,ha,hp],h⟩
 case b2s x=>
  obtain ⟨a,ha,h⟩:=someQ_elim h
  obtain ⟨p,hp,hs,hu,h⟩:=elsQ_elim h
  obtain ⟨pb,ps,pys⟩:=p
  have hs':(ps=1||pys.isEmpty)=true:=by
    rcases hs with h|h <;> simp at h <;> simp[h]
  exact ⟨_,_,by simp only[exec1,ha,hp,hs',hu];simp,h⟩
 all_goals exact is1_elim h
end Go.Mir
