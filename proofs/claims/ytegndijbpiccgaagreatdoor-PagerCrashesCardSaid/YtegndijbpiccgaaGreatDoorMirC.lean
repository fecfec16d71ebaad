import Derived.Test.YtegndijbpiccgaaGreatDoorMirB
import Derived.WalkKit
import Derived.Lib.ConvBytes
import Derived.ChangeKeysEq
namespace Go.Mir
set_option linter.unusedVariables false
set_option linter.unusedSimpArgs false
open Go.RowKit
def CX (P:Program)(t:TypeId):Option (Option Nat):=
 match P.underlying t,P.info? t with
 | some (.struct _),some i=>some (some i.size)
 | some (.array _ _),some i=>some (some i.size)
 | some _,some _=>some none
 | _,_=>none
def J4:List Value->Option (List AV)
 | []=>some []
 | v::r=>match Y1 v,J4 r with
   | some x,some s=>some (x::s)
   | _,_=>none
def Cf (P:Program)(t:TypeId):Option (List AV):=
 match P.info? t with
 | some i=>match i.zero with
   | some z=>J4 z.cells.toList
   | none=>none
 | none=>none
def OE:Operand->Operand->Bool
 | .tmp a,.tmp b=>a==b
 | .const (.int k a),.const (.int k' b)=>k==k'&&a==b
 | _,_=>false
def Wl (P:Program)(t:TypeId):Option D:=
 match Cf P t,CX P t with
 | some cs,some (some _)=>match G7 cs with
   | some (_,ds)=>some (.rcd ds)
   | none=>none
 | some [x],some none=>match x.data with
   | some (_,d)=>some d
   | none=>none
 | _,_=>none
def places (P:Program):List Field->Option (List (Nat×Nat))
 | []=>some []
 | f::r=>match P.info? f.type,places P r with
   | some i,some s=>some ((f.offset,i.size)::s)
   | _,_=>none
def Hh (ps:List (Nat×Nat)):List (Nat×Operand)->Option (List (Nat×Nat×Operand))
 | []=>some []
 | (i,x)::r=>match ps[i]?,Hh ps r with
   | some (o,s),some l=>some ((o,s,x)::l)
   | _,_=>none
def Hq (k:Nat):List (Nat×Operand)->Option (List Operand)
 | []=>some []
 | (i,x)::r=>match Hq (k+1) r with
   | some l=>if i=k then some (x::l) else none
   | none=>none
def VJ (P:Program):Nat->List Field->Option (List Lf)
 | _,[]=>some []
 | i, f :: r => if f.name != "_" && decide (f.offset = i) then match P.underlying f.type, VJ P (i + 1) r with
    | some (.int k),some l=>some (.int k::l)
    | some .bool,some l=>some (.bool::l)
    | some .string,some l=>some (.str::l)
    | _,_=>none
   else none
def aZ (P:Program)(t:TypeId)(fs:Array Field)(neq:Bool)(x y:Operand):Option Opn:=
 if P.stoodInHeld t||P.eqGuardType P.depth t then none else match VJ P 0 fs.toList with
  | some ks=>some (.eqs neq ks x y)
  | none=>none
def rX (P:Program)(keep:List Nat)(id:Nat)(o:Oper):Option Opn:=
 match o.op with
 | .move x | .assign x=>some (.mov x)
 | .pick c a b=>some (.pick c a b)
 | .binOp op t x y _=>match P.underlying t with
   | some (.int _)|some .string=>some (.bin op x y)
   | some .bool=>match op with
     | .eql=>some (.bb false x y)
     | .neq=>some (.bb true x y)
     | _=>none
   | some (.struct fs)=>match op with
     | .eql=>aZ P t fs false x y
     | .neq=>aZ P t fs true x y
     | _=>none
   | _=>none
 | .unOp op _ x=>some (.un op x)
 | .convert s d x=>match P.underlying s,P.underlying d with
   | some (.int _),some (.int k)=>some (.conv k x)
   | some .string,some .string=>some (.sid x)
   | some .string,some (.slice e)=>match P.underlying e with
     | some (.int .u8)=>some (.s2b x)
     | _=>none
   | some (.slice e),some .string=>match P.underlying e with
     | some (.int .u8)=>some (.b2s x)
     | _=>none
   | _,_=>none
 | .extract x i=>some (.ext x i)
 | .nilCheck x=>some (.nilck x)
 | .fieldAddr s x f=>match P.underlying s with
   | some (.struct fs)=>match fs[f]? with
     | some fd=>match P.info? fd.type with
       | some i=>if i.size=0 then none else some (.fadr x fd.offset)
       | none=>none
     | none=>none
   | _=>none
 | .field s x f=>match P.underlying s with
   | some (.struct fs)=>match fs[f]? with
     | some fd=>match CX P fd.type with
       | some z=>some (.fld x fd.offset z)
       | none=>none
     | none=>none
   | _=>none
 | .load t x=>match CX P t with
   | some z=>some (.ld x z)
   | none=>none
 | .store t x y=>match P.info? t with
   | some i=>some (.st x y i.size)
   | none=>none
 | .indexAddr t x i=>match P.underlying t with
   | some (.slice e)=>match P.info? e with
     | some j=>some (.idxA x i j.size)
     | none=>none
   | _=>none
 | .index t x i=>match P.underlying t with
   | some .string=>some (.idx x i)
   | some (.array n e)=>match CX P e,P.info? e with
     | some none,some j=>if j.size=1 then some (.idxG x i n) else none
     | _,_=>none
   | _=>none
 | .slice t x lo hi mx=>match P.underlying t with
   | some .string=>match mx with
     | none=>some (.scut x lo hi)
     | some _=>none
   | some (.slice e)=>match P.info? e with
     | some j=>if mx.isSome&&hi.isNone then none else some (.cut x lo hi mx j.size)
     | none=>none
   | _=>none
 | .build t parts=>match P.underlying t,Cf P t with
   | some (.struct fs),some z=>match places P fs.toList with
     | some ps=>match Hh ps parts.toList with
       | some l=>some (.build z l)
       | none=>none
     | none=>none
   | some (.array _ e),some z=>match P.info? e with
     | some j=>some (.build z (parts.toList.map λp=>(p.1*j.size,j.size,p.2)))
     | none=>none
   | _,_=>none
 | .buildSlice t len parts=>match P.underlying t with
   | some (.slice e)=>match P.info? e,Cf P e,Hq 0 parts.toList with
     | some j,some z,some l=>if l.length=len/\z.length=j.size/\0<j.size/\len*j.size<=16777216 then some (.lit id e j.size l) else none
     | _,_,_=>none
   | _=>none
 | .makeSlice t l c=>match P.underlying t with
   | some (.slice e)=>match P.info? e,Wl P e with
     | some j,some z=>if OE l c/\0<j.size/\z.cells.length=j.size/\0<j.bytes then some (.mk id e z j.bytes l) else none
     | _,_=>none
   | _=>none
 | .alloc t=>match Cf P t,P.info? t with
   | some z,some _=>if 0<z.length then some (.alloc id z) else none
   | _,_=>none
 | .box _ x=>some (.box id x)
 | .makeFunc (.func f) first cap=>if first.size=0 then some (.mkf f cap.toList) else none
 | .call c=>match c.callee with
   | .builtin .len=>match c.args.toList,c.argTypes.toList with
     | [x],[t]=>match P.underlying t with
       | some .string=>some (.slen x)
       | some (.slice _)=>some (.len x)
       | _=>none
     | _,_=>none
   | .builtin .max=>some (.mm true c.args.toList)
   | .builtin .min=>some (.mm false c.args.toList)
   | .builtin .append=>match c.args.toList,c.argTypes.toList with
     | [x,y],[t,u]=>match P.underlying t,P.underlying u with
       | some (.slice e),some (.slice e')=>match P.info? e,Cf P e with
         | some j,some z=>if e'=e/\t=u/\0<j.size/\z.length=j.size/\0<j.bytes then some (.app id e j.size j.bytes x y) else none
         | _,_=>none
       | some (.slice e),some .string=>match P.underlying e,P.info? e with
         | some (.int .u8),some j=>if j.size=1/\j.bytes=1 then match j.zero with
            | some (.int .u8 0)=>some (.apps id e x y)
            | _=>none
           else none
         | _,_=>none
       | _,_=>none
     | _,_=>none
   | .value (.func f)=>some (.call (Gz keep id f).1 (Gz keep id f).2 c.args.toList)
   | .value (.tmp t)=>some (.dyn false (.tmp t) c.args.toList)
   | _=>none
 | _=>none
section quiet
variable {P:Program} {w:World} {C:Cx} {ow:Nat->Prop} {m:Places} {σ:Slots} {a:Act}
theorem AK (hv:∀t,VR w C ow m (σ.get t) (a.tmps.getD t undef)){x:Operand}{v:AV}(h:ev σ x=some v):VR w C ow m v (a.eval x):=by
 cases x with
 | tmp t=>simp only[ev,oI]at h;subst h;exact hv t
 | func f=>simp only[ev,oI]at h;subst h;exact .fn f [] [] rfl (λi c v h=>by simp at h)
 | global g=>simp[ev]at h
 | const v'=>
  simp only[ev]at h;unfold Y1 at h;split at h<;>simp only[oI,reduceCtorEq]at h<;>subst h;·exact .n _ _ (.int _ _)
  ·exact .n _ _ (.bool _)
  ·exact .n _ _ (.str _)
  ·exact .n _ _ .nil
  ·exact .nilp
theorem VR.int {k:IntKind}{n:Int}{v:Value}(h:VR w C ow m (.n (.int k n)) v):v = .int k n:=by
 cases h with
 | n x v h=>cases h;rfl
theorem VR.bool {b:Bool}{v:Value}(h:VR w C ow m (.n (.bool b)) v):v = .bool b:=by
 cases h with
 | n x v h=>cases h;rfl
theorem VR.str {s:bA}{v:Value}(h:VR w C ow m (.n (.str s)) v):v = .string s:=by
 cases h with
 | n x v h=>cases h;rfl
theorem fA (op:BinOp)(t:TypeId)(k:IntKind)(x y:Int)(d:D)(h:M1 op (.int k x) (.int k y)=some d):∃v,(binOp op t (.int k x) (.int k y)).run P w = .ok v w/\DR w (C.okn ow) d v:=by
 cases op<;>simp only[M1,F6,if_pos,oI,reduceCtorEq]at h
 case quo|rem=>
  split at h
  ·simp at h
  ·rename_i h0
   simp only[oI]at h;subst h
   simp[binOp,Op.intDiv,h0]
   constructor
 case shl|shr=>
  split at h
  ·simp at h
  ·rename_i h0
   simp only[oI]at h;subst h
   simp[binOp,Op.shift,h0]
   constructor
 all_goals (subst h;simp[binOp,Op.intArith,Op.intBits,Op.intCmp];constructor)
theorem Z7 (op:BinOp)(t:TypeId)(x y:bA)(d:D)(h:M1 op (.str x) (.str y)=some d):∃v,(binOp op t (.string x) (.string y)).run P w = .ok v w/\DR w (C.okn ow) d v:=by
 cases op<;>simp only[M1,Lj,oI,reduceCtorEq]at h
 case add=>
  split at h
  ·rename_i h0
   simp only[oI]at h;subst h
   refine⟨.string (x++y),?_,.str _⟩
   have:¬(((x.size+y.size:Nat):Int) > IntKind.i64.max):=by
    have:IntKind.i64.max=9223372036854775807:=by decide
    omega
   simp only[binOp,Op.stringOp]
   rw[if_neg this];rfl
  ·simp at h
 all_goals (subst h;refine⟨_,?_,.bool _⟩;simp[binOp,Op.stringOp])
def AA (P:Program)(a:Act)(o:Oper)(w:World)(u:Value):Prop:=(execOp a.eval o).run P w = .ok (.value u) w
theorem fZ {call:Al}{H H':Heap}{o:Oper}{x:Operand}{v:AV}(hv:∀t,VR w C ow m (σ.get t) (a.tmps.getD t undef))
  (ho:execOp a.eval o=pure (.value (a.eval x))) (h:Ac call σ H (.mov x)=some (v,H')):H'=H/\∃u,AA P a o w u/\VR w C ow m v u:=by
 simp only[Ac]at h
 split at h<;>simp only[oI,reduceCtorEq,pI]at h
 obtain⟨rfl,rfl⟩:=h
 rename_i hx
 exact⟨rfl,_,by simp[AA,ho],AK hv hx⟩
theorem gC {call:Al}{H H':Heap}{o:Oper}{op:BinOp}{t t2:TypeId}{x y:Operand}{v:AV}(hv:∀t,VR w C ow m (σ.get t) (a.tmps.getD t undef))
   (ho:o.op = .binOp op t x y t2) (h:Ac call σ H (.bin op x y)=some (v,H')):H'=H/\∃u,AA P a o w u/\VR w C ow m v u:=by
 simp only[Ac]at h
 split at h<;>try (simp at h;done)
 rename_i p q hx hy
 split at h<;>simp only[oI,reduceCtorEq,pI]at h
 obtain⟨rfl,rfl⟩:=h
 rename_i d hd
 have h1:=AK hv hx
 have h2:=AK hv hy
 refine⟨rfl,?_⟩
 cases p<;>cases q<;>try (simp[M1]at hd;done)
 ·rename_i k n k' n'
  have e1:=h1.int
  have e2:=h2.int
  by_cases hs:op = .shl\/op = .shr
  ·have:∃v,(binOp op t (.int k n) (.int k' n')).run P w = .ok v w/\DR w (C.okn ow) d v:=by rcases hs with rfl|rfl<;>simp only[M1]at hd<;>(split at hd;· simp at hd)<;>(rename_i h0;simp only[oI]at hd;subst hd;refine⟨_,?_,.int _ _⟩;simp[binOp,Op.shift,h0])
   obtain⟨u,hu,hd⟩:=this
   exact⟨u,by rcases hs with rfl|rfl<;>simp[AA,execOp,ho,e1,e2,eqGuard,hu],.n _ _ hd⟩
  ·have hk:k=k':=by cases op<;>simp_all[M1]
   subst hk
   obtain⟨u,hu,hd⟩:=fA (P:=P) (w:=w) (C:=C) (ow:=ow) op t k n n' d hd
   exact⟨u,by cases op<;>simp[AA,execOp,ho,e1,e2,eqGuard,hu],.n _ _ hd⟩
 ·rename_i s s'
  obtain⟨u,hu,hd⟩:=Z7 (P:=P) (w:=w) (C:=C) (ow:=ow) op t s s' d hd
  exact⟨u,by cases op<;>simp[AA,execOp,ho,h1.str,h2.str,eqGuard,hu],.n _ _ hd⟩
theorem xE {call:Al}{H H':Heap}{o:Oper}{neq:Bool}{t t2:TypeId}{x y:Operand}{v:AV}(hv:∀t,VR w C ow m (σ.get t) (a.tmps.getD t undef))
   (ht:P.underlying t=some .bool) (ho:o.op = .binOp (if neq then .neq else .eql) t x y t2) (h:Ac call σ H (.bb neq x y)=some (v,H')):H'=H/\∃u,AA P a o w u/\VR w C ow m v u:=by
 simp only[Ac]at h
 split at h<;>try (simp at h;done)
 rename_i p q hx hy
 simp only[oI,pI]at h
 obtain⟨rfl,rfl⟩:=h
 have h1:=(AK hv hx).bool
 have h2:=(AK hv hy).bool
 refine⟨rfl,?_⟩
 cases neq
 ·exact⟨.bool (p==q),by simp[AA,execOp,ho,h1,h2,eqGuard,run_eql_bool _ _ _ _ ht],.n _ _ (.bool _)⟩
 ·exact⟨.bool (!(p==q)),by simp[AA,execOp,ho,h1,h2,eqGuard,run_neq_bool _ _ _ _ ht],.n _ _ (.bool _)⟩
theorem EY (d:Nat){xs ys:List AV}{us vs:List Value}:∀ {fl:List Field} {i:Nat} {ks:List Lf} {b:Bool},VJ P i fl=some ks->ZS ks (xs.drop i) (ys.drop i)=some b->xs.length=us.length->ys.length=vs.length ->
   (∀(j:Nat) c v,xs[j]?=some c->us[j]?=some v->VR w C ow m c v)->(∀(j:Nat) c v,ys[j]?=some c->vs[j]?=some v->VR w C ow m c v)->(Op.eqFields (d+1) us.toArray vs.toArray fl).run P w = .ok b w
 | [],i,ks,b,hk,h,hx,hy,h1,h2=>by
  simp only[VJ,oI]at hk;subst hk;have:b=true:=by generalize xs.drop i=A at h;generalize ys.drop i=B at h;cases A<;>cases B<;>simp[ZS]at h;exact h
  subst this;simp[Op.eqFields]
 | f::r,i,ks,b,hk,h,hx,hy,h1,h2=>by
  simp only[VJ]at hk;split at hk<;>try (cases hk;done)
  rename_i hf;simp only[Bool.and_eq_true,bne_iff_ne,ne_eq,decide_eq_true_eq]at hf;obtain⟨hn,ho⟩:=hf;have main:∀ {l:Lf} {ks':List Lf},VJ P (i+1) r=some ks'->ks=l::ks'->(∀ {x y:D} {u v:Value} {b0:Bool},VR w C ow m (.n x) u->VR w C ow m (.n y) v->rV l x y=some b0->(Op.equalIn (d+1) f.type u v).run P w = .ok b0 w)->P.plainKey f.type=true ->
      (Op.eqFields (d+1) us.toArray vs.toArray (f::r)).run P w = .ok b w:=by
    intro l ks' hk' hks hcell hp
    subst hks
    have hA:∃x A,xs.drop i = .n x::A/\∃y B,ys.drop i = .n y::B/\∃b0 b1,rV l x y=some b0/\ZS ks' A B=some b1/\b=(b0&&b1):=by
     generalize xs.drop i=A at h;generalize ys.drop i=B at h;rcases A with _|⟨a,A⟩
     ·simp[ZS]at h
     rcases B with _|⟨b',B⟩
     ·cases a<;>simp[ZS]at h
     cases a<;>try (simp[ZS]at h;done)
     rename_i x;cases b'<;>try (simp[ZS]at h;done)
     rename_i y;simp only[ZS]at h;split at h<;>simp only[oI,reduceCtorEq]at h;rename_i b0 b1 e0 e1;exact⟨x,A,rfl,y,B,rfl,b0,b1,e0,e1,h.symm⟩
    obtain⟨x,A,hxA,y,B,hyB,b0,b1,e0,e1,rfl⟩:=hA
    have hxi:xs[i]?=some (.n x):=by have:=congrArg (·[0]?) hxA;simpa using this
    have hyi:ys[i]?=some (.n y):=by have:=congrArg (·[0]?) hyB;simpa using this
    have hlx:i<us.length:=by rw[<-hx];exact(List.getElem?_eq_some_iff.1 hxi).1
    have hly:i<vs.length:=by rw[<-hy];exact(List.getElem?_eq_some_iff.1 hyi).1
    have hdx:xs.drop (i+1)=A:=by rw[<-List.drop_drop,hxA];rfl
    have hdy:ys.drop (i+1)=B:=by rw[<-List.drop_drop,hyB];rfl
    have rest:=EY d (fl:=r) (i:=i+1) (ks:=ks') (b:=b1) hk' (by rw[hdx,hdy];exact e1) hx hy h1 h2
    have g1:=run_part_plain w hp (xs:=us.toArray) (off:=f.offset) (v:=us[i]) (by rw[ho];simp[hlx])
    have g2:=run_part_plain w hp (xs:=vs.toArray) (off:=f.offset) (v:=vs[i]) (by rw[ho];simp[hly])
    have g3:=hcell (h1 i _ _ hxi (gI hlx)) (h2 i _ _ hyi (gI hly)) e0
    simp only[Op.eqFields,hn,ne_eq,not_false_eq_true,if_true,Sem.run_bind,g1,g2,g3,Result.andThen_ok]
    cases b0
    ·simp
    ·simpa using rest
  split at hk<;>simp only[oI,reduceCtorEq]at hk;·rename_i k l hu hl;refine main hl hk.symm (λhxv hyv he=>?_) (by simp[Program.plainKey,hu]);rename_i x y u v b0;cases x<;>cases y<;>simp[rV]at he;obtain⟨rfl,rfl⟩:=he;rw[hxv.int,hyv.int,run_equalIn_int w d f.type _ k _ _ hu]
  ·rename_i l hu hl;refine main hl hk.symm (λhxv hyv he=>?_) (by simp[Program.plainKey,hu]);rename_i x y u v b0;cases x<;>cases y<;>simp[rV]at he;subst he;rw[hxv.bool,hyv.bool,run_equalIn_bool' w d f.type _ _ hu]
  ·rename_i l hu hl;refine main hl hk.symm (λhxv hyv he=>?_) (by simp[Program.plainKey,hu]);rename_i x y u v b0;cases x<;>cases y<;>simp[rV]at he;subst he;rw[hxv.str,hyv.str,run_equalIn_string w d f.type _ _ hu]
theorem gP {call:Al}{H H':Heap}{o:Oper}{neq:Bool}{t t2:TypeId}{x y:Operand}{fs:Array Field}{z:Opn}{v:AV}(hv:∀t,VR w C ow m (σ.get t) (a.tmps.getD t undef))
   (ht:P.underlying t=some (.struct fs)) (ho:o.op = .binOp (if neq then .neq else .eql) t x y t2) (hz:aZ P t fs neq x y=some z) (h:Ac call σ H z=some (v,H')):H'=H/\∃u,AA P a o w u/\VR w C ow m v u:=by
 unfold aZ at hz
 split at hz<;>try (cases hz;done)
 rename_i hst
 simp only[Bool.or_eq_true,not_or,Bool.not_eq_true]at hst
 split at hz<;>simp only[oI,reduceCtorEq]at hz
 rename_i ks hks
 subst hz
 simp only[Ac]at h
 split at h<;>try (simp at h;done)
 rename_i xs ys hx hy
 split at h<;>simp only[oI,reduceCtorEq,pI]at h
 rename_i b hb
 obtain⟨rfl,rfl⟩:=h
 obtain⟨us,l1,e1,ex⟩:=(AK hv hx).agg_inv
 obtain⟨vs,l2,e2,ey⟩:=(AK hv hy).agg_inv
 refine⟨rfl,?_⟩
 have hfs:P.fieldsOf t=fs:=by simp[Program.fieldsOf,ht]
 have hrun:(Op.equalIn 10000 t (.agg us.toArray) (.agg vs.toArray)).run P w = .ok b w:=by rw[run_equalIn_struct w 9999 t _ _ (by rw[hfs];exact ht) hst.1,hfs];exact EY 9998 (i:=0) hks (by simpa using hb) l1 l2 e1 e2
 have hg:∀op,(eqGuard op t x y (.agg us.toArray) (.agg vs.toArray)).run P w = .ok () w:=λop=>run_eqGuard_agg w op t x y _ _ hst.2
 cases neq
 ·refine⟨.bool b,?_,.n _ _ (.bool _)⟩
  simp only[AA,execOp,ho,ex,ey,Bool.false_eq_true,if_false,Sem.run_bind,hg,Result.andThen_ok,run_eql_struct,hrun]
  simp
 ·refine⟨.bool (!b),?_,.n _ _ (.bool _)⟩
  simp only[AA,execOp,ho,ex,ey,if_true,Sem.run_bind,hg,Result.andThen_ok,run_neq_struct,hrun]
  simp
theorem AGe {call:Al}{H H':Heap}{o:Oper}{op:UnOp}{t:TypeId}{x:Operand}{v:AV}(hv:∀t,VR w C ow m (σ.get t) (a.tmps.getD t undef))
   (ho:o.op = .unOp op t x) (h:Ac call σ H (.un op x)=some (v,H')):H'=H/\∃u,AA P a o w u/\VR w C ow m v u:=by
 simp only[Ac]at h
 split at h<;>try (simp at h;done)
 rename_i p hx
 split at h<;>simp only[oI,reduceCtorEq,pI]at h
 obtain⟨rfl,rfl⟩:=h
 rename_i d hd
 have h1:=AK hv hx
 refine⟨rfl,?_⟩
 cases p<;>try (simp[unD]at hd;done)
 ·cases op<;>simp[unD,F6]at hd<;>(subst hd;refine⟨_,?_,.n _ _ (.int _ _)⟩;simp[AA,execOp,ho,h1.int,Op.unary,Op.intArith,Op.intBits])
 ·cases op<;>simp[unD]at hd<;>(subst hd;refine⟨_,?_,.n _ _ (.bool _)⟩;simp[AA,execOp,ho,h1.bool,Op.unary])
theorem pP {call:Al}{H H':Heap}{o:Oper}{k:IntKind}{s d:TypeId}{x:Operand}{v:AV}(hv:∀t,VR w C ow m (σ.get t) (a.tmps.getD t undef))
  (hs:∃k',P.underlying s=some (.int k')) (hd:P.underlying d=some (.int k)) (ho:o.op = .convert s d x) (h:Ac call σ H (.conv k x)=some (v,H')):H'=H/\∃u,AA P a o w u/\VR w C ow m v u:=by
 simp only[Ac]at h
 split at h<;>try (simp at h;done)
 rename_i k0 n hx
 simp only[oI,pI]at h
 obtain⟨rfl,rfl⟩:=h
 obtain⟨k',hs⟩:=hs
 refine⟨rfl,.int k (k.wrap n),?_,.n _ _ (.int _ _)⟩
 simp[AA,execOp,ho,(AK hv hx).int,convert,run_underlying hs,run_underlying hd,Conv.intToInt]
theorem jD {call:Al}{H H':Heap}{o:Oper}{c x y:Operand}{v:AV}(hv:∀t,VR w C ow m (σ.get t) (a.tmps.getD t undef))
   (ho:o.op = .pick c x y) (h:Ac call σ H (.pick c x y)=some (v,H')):H'=H/\∃u,AA P a o w u/\VR w C ow m v u:=by
 simp only[Ac]at h
 split at h<;>try (simp at h;done)
 rename_i t p q hc hx hy
 simp only[oI,pI]at h
 obtain⟨rfl,rfl⟩:=h
 have h0:=(AK hv hc).bool
 have h1:=AK hv hx
 have h2:=AK hv hy
 refine⟨rfl,if t then a.eval x else a.eval y,?_,?_⟩
 ·simp[AA,execOp,ho,h0,asBool]
 ·unfold Tg
  split
  ·rw[h1.bool,h2.bool];cases t<;>exact .n _ _ (.bool _)
  ·cases t<;>simpa
theorem ABi {call:Al}{H H':Heap}{o:Oper}{x:Operand}{i:Nat}{v:AV}(hv:∀t,VR w C ow m (σ.get t) (a.tmps.getD t undef))
   (ho:o.op = .extract x i) (h:Ac call σ H (.ext x i)=some (v,H')):H'=H/\∃u,AA P a o w u/\VR w C ow m v u:=by
 simp only[Ac]at h
 split at h<;>try (simp at h;done)
 rename_i vs hx
 split at h<;>simp only[oI,reduceCtorEq,pI]at h
 obtain⟨rfl,rfl⟩:=h
 rename_i v' hi
 have h1:=AK hv hx
 refine⟨rfl,?_⟩
 generalize hz:a.eval x=z at h1
 cases h1 with
 | tup cs us hl h=>
  have hlt:i<us.length:=by rw[<-hl];exact(List.getElem?_eq_some_iff.1 hi).1
  refine⟨us[i],?_,h i _ _ hi (gI hlt)⟩
  simp[AA,execOp,ho,hz,Instr.extract,gI hlt]
theorem eQ {call:Al}{H H':Heap}{o:Oper}{x:Operand}{v:AV}(hv:∀t,VR w C ow m (σ.get t) (a.tmps.getD t undef))
   (ho:o.op = .nilCheck x) (h:Ac call σ H (.nilck x)=some (v,H')):H'=H/\∃u,AA P a o w u/\VR w C ow m v u:=by
 simp only[Ac]at h
 have key:∀z:AV,ev σ x=some z->(∃a1,a.eval x = .pointer (some a1))\/(∃f cap,a.eval x = .func (.func f) #[] cap)->∃u,AA P a o w u/\VR w C ow m z u:=by intro z hz hh;refine⟨a.eval x,?_,AK hv hz⟩;rcases hh with⟨a1,e⟩|⟨f,cap,e⟩<;>simp[AA,execOp,ho,e]
 split at h<;>simp only[oI,reduceCtorEq,pI]at h<;>obtain⟨rfl,rfl⟩:=h<;>rename_i hx<;>refine⟨rfl,key _ hx ?_⟩<;>have h1:=AK hv hx<;>generalize a.eval x=z at h1<;>cases h1
 ·exact .inl ⟨_,rfl⟩
 ·exact .inl ⟨_,rfl⟩
 ·exact .inl ⟨_,rfl⟩
 ·exact .inr ⟨_,_,rfl⟩
theorem CB (b off n:Nat):(⟨b,off,none⟩:Addr).add n=⟨b,off+n,none⟩:=by
 unfold Addr.add;split;·subst_vars;rfl
 ·rfl
theorem GH (s:TypeId)(b off:Nat)(f:Nat)(fs:Array Field)(fd:Field)(i:TypeInfo)(hs:P.underlying s=some (.struct fs))(hf:fs[f]?=some fd)(hi:P.info? fd.type=some i)(h0:i.size≠0):
  (Instr.fieldAt s (.pointer (some ⟨b,off,none⟩)) f).run P w = .ok (.pointer (some ⟨b,off+fd.offset,none⟩)) w:=by
 simp[Instr.fieldAt,run_underlying hs,hf,Instr.sureAddr,fieldPlace,sizeOf,typeInfo,hi,h0,CB]
theorem kI {call:Al}{H H':Heap}{o:Oper}{x:Operand}{s:TypeId}{f:Nat}{fs:Array Field}{fd:Field}{i:TypeInfo}{v:AV}(hv:∀t,VR w C ow m (σ.get t) (a.tmps.getD t undef))
   (hs:P.underlying s=some (.struct fs)) (hf:fs[f]?=some fd) (hi:P.info? fd.type=some i) (h0:i.size≠0)
   (ho:o.op = .fieldAddr s x f) (h:Ac call σ H (.fadr x fd.offset)=some (v,H')):H'=H/\∃u,AA P a o w u/\VR w C ow m v u:=by
 simp only[Ac]at h
 split at h<;>simp only[oI,reduceCtorEq,pI]at h<;>obtain⟨rfl,rfl⟩:=h<;>rename_i hx<;>refine⟨rfl,?_⟩<;>have h1:=AK hv hx<;>generalize hz:a.eval x=z at h1
 ·obtain⟨b,hb,rfl⟩:=h1.ptr_inv
  exact⟨.pointer (some ⟨b,_+fd.offset,none⟩),by simp only[AA,execOp,ho,hz];simp[GH s b _ f fs fd i hs hf hi h0],.ptr _ _ b hb⟩
 ·obtain⟨b,n,c,hb,rfl⟩:=h1.elt_inv
  refine⟨_,?_,.elt _ _ _ _ _ b n c hb⟩
  simp only[AA,execOp,ho,hz];simp[GH s b _ f fs fd i hs hf hi h0,Nat.add_assoc]
 ·obtain⟨b,off,vs,hb,hlt,hc,hd,rfl⟩:=h1.dat_inv
  refine⟨.pointer (some ⟨b,off+fd.offset,none⟩),by simp only[AA,execOp,ho,hz];simp[GH s b _ f fs fd i hs hf hi h0],.dat _ _ b (off+fd.offset) (λj=>vs (fd.offset+j)) hb hlt ?_ ?_⟩
  ·intro j y e
   rw[List.getElem?_drop]at e
   rw[Nat.add_assoc]
   exact hc _ _ e
  ·intro j y e
   rw[List.getElem?_drop]at e
   exact hd _ _ e
theorem Om (us:List Value)(off n:Nat):us.toArray.extract off (off+n)=((us.drop off).take n).toArray:=by rw[List.extract_toArray];simp[List.extract]
theorem PY {cs:List AV}{us:List Value}(hl:cs.length=us.length)(h:∀(i:Nat) c v,cs[i]?=some c->us[i]?=some v->VR w C ow m c v)(off n:Nat)(hn:off+n<=cs.length):
   VR w C ow m (.agg ((cs.drop off).take n)) (.agg ((us.drop off).take n).toArray):=by
 refine .agg _ _ (by simp;omega) ?_
 intro i c v hc hv
 rw[List.getElem?_take]at hc hv
 split at hc
 ·rename_i hlt
  rw[if_pos hlt]at hv
  rw[List.getElem?_drop]at hc hv
  exact h _ _ _ hc hv
 ·simp at hc
theorem JN {t:TypeId}{z:Option Nat}(hz:CX P t=some z):(isAgg t).run P w = .ok z.isSome w/\∀n,z=some n->(sizeOf t).run P w = .ok n w:=by
 unfold CX at hz;split at hz<;>simp only[oI,reduceCtorEq]at hz;·rename_i fs i h1 h2;subst hz;exact⟨by simp[isAgg,run_underlying h1],by simp[sizeOf,typeInfo,h2]⟩
 ·rename_i k e i h1 h2;subst hz;exact⟨by simp[isAgg,run_underlying h1],by simp[sizeOf,typeInfo,h2]⟩
 ·rename_i d i h1 h2 hn1 hn2;subst hz;refine⟨?_,by simp⟩;cases d<;>simp[isAgg,run_underlying hn1]<;>simp_all
theorem uC {call:Al}{H H':Heap}{o:Oper}{x:Operand}{s:TypeId}{f:Nat}{fs:Array Field}{fd:Field}{z:Option Nat}{v:AV}(hv:∀t,VR w C ow m (σ.get t) (a.tmps.getD t undef))
   (hs:P.underlying s=some (.struct fs)) (hf:fs[f]?=some fd) (hz:CX P fd.type=some z)
   (ho:o.op = .field s x f) (h:Ac call σ H (.fld x fd.offset z)=some (v,H')):H'=H/\∃u,AA P a o w u/\VR w C ow m v u:=by
 simp only[Ac]at h
 split at h<;>try (simp at h;done)
 rename_i cs hx
 have h1:=AK hv hx
 generalize hez:a.eval x=ez at h1
 obtain⟨ha,hsz⟩:=JN (P:=P) (w:=w) hz
 cases h1 with
 | agg _ us hl hh=>
  cases z with
  | none=>
   simp only at h
   split at h<;>simp only[oI,reduceCtorEq,pI]at h
   obtain⟨rfl,rfl⟩:=h
   rename_i v' hi
   have hlt:fd.offset<us.length:=by rw[<-hl];exact(List.getElem?_eq_some_iff.1 hi).1
   refine⟨rfl,us[fd.offset],?_,hh _ _ _ hi (gI hlt)⟩
   simp[AA,execOp,ho,hez,Instr.field,run_underlying hs,hf,asAgg,part,ha,gI hlt]
  | some n=>
   simp only at h
   split at h<;>simp only[oI,reduceCtorEq,pI]at h
   obtain⟨rfl,rfl⟩:=h
   rename_i hle
   refine⟨rfl,_,?_,PY hl hh fd.offset n hle⟩
   rw[<-Om]
   simp[AA,execOp,ho,hez,Instr.field,run_underlying hs,hf,asAgg,part,ha,hsz n rfl]
theorem VR.sub {nw:Bool}{x:D}{v:Value}(h:DR w (C.ok ow nw) x v):VR w C ow m (Mir.sub nw x) v:=by
 cases nw with
 | true=>exact .n _ _ h
 | false=>
  cases x with
  | sl sz els=>exact .o _ _ h
  | rcd fs=>exact .o _ _ h
  | int k n=>cases h;exact .n _ _ (.int _ _)
  | bool b=>cases h;exact .n _ _ (.bool _)
  | str s=>cases h;exact .n _ _ (.str _)
  | nil=>cases h;exact .n _ _ .nil
  | any=>exact .any _
theorem Bn {t:TypeId}{z:Option Nat}(hz:CX P t=some z)(b off:Nat)(us:List Value)(hl:us.length=z.getD 1)(h:∀(j:Nat) u,us[j]?=some u->w.cell? ⟨b,off+j,none⟩=some u):
   (loadVar t ⟨b,off,none⟩).run P w = .ok (match z with|none=>us.headD undef|some _ => .agg us.toArray) w:=by
 obtain⟨ha,hsz⟩:=JN (P:=P) (w:=w) hz
 cases z with
 | none=>
  match us,hl with
  | [u],_=>
   have:=h 0 u rfl
   simp only[Nat.add_zero]at this
   simp[loadVar,ha,this]
 | some n=>
  simp only[Option.getD_some]at hl
  subst hl
  have hc:=run_loadCells_list (P:=P) (w:=w) ⟨b,off,none⟩ us (λj u hj=>by rw[CB];exact h j u hj)
  simp[loadVar,ha,hsz _ rfl,hc]
theorem VR.subs {nw:Bool}(ds:List D)(us:List Value)(hl:ds.length=us.length)(h:∀(j:Nat) y u,ds[j]?=some y->us[j]?=some u->DR w (C.ok ow nw) y u):VR w C ow m (.agg (ds.map (Mir.sub nw))) (.agg us.toArray):=by
 refine .agg _ _ (by simpa using hl) ?_;intro i c v hc hv;rw[List.getElem?_map]at hc
 cases hd:ds[i]? with
 | none=>simp[hd]at hc
 | some y=> simp only[hd,Option.map_some,oI]at hc;subst hc;exact VR.sub (h i y v hd hv)
theorem tP {call:Al}{own:Nat->Prop}{H H':Heap}{o:Oper}{x:Operand}{t:TypeId}{z:Option Nat}{v:AV}(hr:HR w C own m H)(hv:∀t,VR w C (owned H m) m (σ.get t) (a.tmps.getD t undef))
   (hz:CX P t=some z) (ho:o.op = .load t x) (h:Ac call σ H (.ld x z)=some (v,H')):H'=H/\∃u,AA P a o w u/\VR w C (owned H m) m v u:=by
 simp only[Ac]at h
 split at h<;>try (simp at h;done)
 ·rename_i id off hx
  have h1:=AK hv hx
  generalize hez:a.eval x=ez at h1
  split at h<;>try (simp at h;done)
  rename_i cs hg
  obtain⟨b,t',c,hm,hb,hsz,hc⟩:=hr.objs _ _ hg
  obtain⟨b',hb',rfl⟩:=h1.ptr_inv
  ·rw[hm]at hb'
   obtain rfl:b=b':=by simpa using hb'
   have cell:∀(j:Nat),w.cell? ⟨b,j,none⟩=c[j]?:=λj=>by simp[World.cell?,hb]
   cases z with
   | none=>
    simp only at h
    split at h<;>simp only[oI,reduceCtorEq,pI]at h
    obtain⟨rfl,rfl⟩:=h
    rename_i v' hi
    have hlt:off<c.size:=by rw[hsz];exact(List.getElem?_eq_some_iff.1 hi).1
    refine⟨rfl,c[off],?_,hc off _ _ hi (Array.getElem?_eq_getElem hlt)⟩
    have:=Bn (P:=P) (w:=w) hz b off [c[off]] rfl (λj u hj=>by
     cases j with
     | zero=>simp only[List.getElem?_cons_zero,oI]at hj;subst hj;rw[cell];simp[hlt]
     | succ j=>simp at hj)
    simp[AA,execOp,ho,hez,Instr.loadAt,Instr.sureAddr,this]
   | some n=>
    simp only at h
    split at h<;>simp only[oI,reduceCtorEq,pI]at h
    obtain⟨rfl,rfl⟩:=h
    rename_i hle
    have e:=PY (w:=w) (C:=C) (ow:=owned H m) (m:=m) (cs:=cs) (us:=c.toList) (by simp[hsz]) (λi x v h1 h2=>hc i x v h1 (by simpa using h2)) off n hle
    refine⟨rfl,_,?_,e⟩
    have:=Bn (P:=P) (w:=w) hz b off ((c.toList.drop off).take n) (by simp[hsz];omega) (λj u hj=>by
     rw[List.getElem?_take]at hj;split at hj;·rw[List.getElem?_drop]at hj;rw[cell];simpa using hj
     ·simp at hj)
    simp only[AA,execOp,ho,hez,Instr.loadAt,Instr.sureAddr]
    simp only[Sem.run_bind,Sem.run_pure,Result.andThen_ok,this]
 ·rename_i id ver s i off hx
  have h1:=AK hv hx
  generalize hez:a.eval x=ez at h1
  split at h<;>try (simp at h;done)
  rename_i fz nw ver' e' sz els hg
  split at h<;>try (simp at h;done)
  rename_i hvs
  simp only[Bool.and_eq_true,beq_iff_eq,decide_eq_true_eq]at hvs
  obtain⟨rfl,rfl⟩:=hvs
  split at h<;>try (simp at h;done)
  rename_i el hel
  obtain⟨l,xs,hm,hrow,hown,hsz,hd,hnb⟩:=hr.objs _ _ hg
  obtain⟨b,n,c,hb',rfl⟩:=h1.elt_inv
  ·rw[hm]at hb'
   obtain rfl:l = .row b n c:=by simpa using hb'
   have hxl:xs.length=els.length*s:=hown.1
   have hcs:∀(j:Nat) u,xs[j]?=some u->w.cell? ⟨b,j,none⟩=some u:=λj u hj=>by have:=hown.cells (g:=b) rfl j u hj;rwa [CB,Nat.zero_add]at this
   have hes:=hsz i el hel
   have hi:i<els.length:=(List.getElem?_eq_some_iff.1 hel).1
   have hin:∀j,j<s->i*s+j<xs.length:=λj hj=>by rw[hxl];have:(i+1)*s<=els.length*s:=Nat.mul_le_mul_right _ hi;rw[Nat.add_mul]at this;omega
   cases z with
   | none=>
    simp only at h
    split at h<;>simp only[oI,reduceCtorEq,pI]at h
    obtain⟨rfl,rfl⟩:=h
    rename_i y hy
    have hlt:=hin off (by rw[<-hes];exact(List.getElem?_eq_some_iff.1 hy).1)
    refine⟨rfl,xs[i*s+off],?_,VR.sub (hd i el off y _ hel hy (gI hlt))⟩
    have:=Bn (P:=P) (w:=w) hz b (i*s+off) [xs[i*s+off]] rfl (λj u hj=>by
     cases j with
     | zero=>simp only[List.getElem?_cons_zero,oI]at hj;subst hj;exact hcs _ _ (gI hlt)
     | succ j=>simp at hj)
    simp[AA,execOp,ho,hez,Instr.loadAt,Instr.sureAddr,this]
   | some n=>
    simp only at h
    split at h<;>simp only[oI,reduceCtorEq,pI]at h
    obtain⟨rfl,rfl⟩:=h
    rename_i hle
    rw[hes]at hle
    have hlen:((xs.drop (i*s+off)).take n).length=n:=by
     cases n with
     | zero=>simp
     | succ n=>have:=hin (off+n) (by omega);simp;omega
    refine⟨rfl,_,?_,VR.subs ((el.cells.drop off).take n) ((xs.drop (i*s+off)).take n) (by rw[hlen];simp;omega) ?_⟩
    ·have:=Bn (P:=P) (w:=w) hz b (i*s+off) ((xs.drop (i*s+off)).take n) hlen (λj u hj=>by
      rw[List.getElem?_take]at hj;split at hj;·rw[List.getElem?_drop]at hj;exact hcs _ _ hj
      ·simp at hj)
     simp only[AA,execOp,ho,hez,Instr.loadAt,Instr.sureAddr]
     simp only[Sem.run_bind,Sem.run_pure,Result.andThen_ok,this]
    ·intro j y u hy hu
     rw[List.getElem?_take]at hy hu
     split at hy
     ·rename_i hj
      rw[if_pos hj]at hu
      rw[List.getElem?_drop]at hy hu
      exact hd i el _ y u hel hy (by rw[<-Nat.add_assoc];exact hu)
     ·simp at hy
 ·rename_i nw cs hx
  have h1:=AK hv hx
  generalize hez:a.eval x=ez at h1
  obtain⟨b,off,vs,hb,hlt,hc,hd,rfl⟩:=h1.dat_inv
  ·cases z with
   | none=>
    simp only at h
    split at h<;>simp only[oI,reduceCtorEq,pI]at h
    obtain⟨rfl,rfl⟩:=h
    rename_i y hy
    refine⟨rfl,vs 0,?_,VR.sub (hd 0 y hy)⟩
    have:=Bn (P:=P) (w:=w) hz b off [vs 0] rfl (λj u hj=>by
     cases j with
     | zero=>simp only[List.getElem?_cons_zero,oI]at hj;subst hj;exact hc 0 y hy
     | succ j=>simp at hj)
    simp[AA,execOp,ho,hez,Instr.loadAt,Instr.sureAddr,this]
   | some n=>
    simp only at h
    split at h<;>simp only[oI,reduceCtorEq,pI]at h
    obtain⟨rfl,rfl⟩:=h
    rename_i hle
    have hget:∀(j:Nat) u,((List.range n).map vs)[j]?=some u->j<n/\u=vs j:=λj u hj=>by
     rw[List.getElem?_map]at hj;by_cases hjn:j<n;·rw[List.getElem?_range hjn]at hj;exact⟨hjn,by simpa using hj.symm⟩
     ·rw[List.getElem?_eq_none (by simpa using hjn)]at hj;simp at hj
    refine⟨rfl,_,?_,VR.subs (cs.take n) ((List.range n).map vs) (by simp;omega) ?_⟩
    ·have:=Bn (P:=P) (w:=w) hz b off ((List.range n).map vs) (by simp) (λj u hj=>by obtain⟨hjn,rfl⟩:=hget j u hj;exact hc j _ (gI (by omega)))
     simp only[AA,execOp,ho,hez,Instr.loadAt,Instr.sureAddr]
     simp only[Sem.run_bind,Sem.run_pure,Result.andThen_ok,this]
    ·intro j y u hy hu
     obtain⟨hjn,rfl⟩:=hget j u hu
     rw[List.getElem?_take,if_pos hjn]at hy
     exact hd j y hy
def Lies (w:World)(okd:Nat->Prop)(sz:Nat)(els:List D)(v:Value):Prop:=
 ((∃p c,v = .slice p 0 c/\(p=none->c=0))/\els=[])\/∃b off c,∃vs:Nat->Nat->Value,v = .slice (some ⟨b,off,none⟩) els.length c/\els.length<=c/\b<w.heap.size /\
   (∀(i:Nat) (x:D),els[i]?=some x->x.cells.length=sz) /\
   (∀(i:Nat) (x:D) (j:Nat) (y:D),els[i]?=some x->x.cells[j]?=some y->w.cell? ⟨b,off+(i*sz+j),none⟩=some (vs i j)) /\
   (∀(i:Nat) (x:D) (j:Nat) (y:D),els[i]?=some x->x.cells[j]?=some y->DR w okd y (vs i j))
theorem DR.lies {ok:Nat->Prop}{sz:Nat}{els:List D}{v:Value}(h:DR w ok (.sl sz els) v):Lies w ok sz els v/\(els≠[]->∀b off n c,v = .slice (some ⟨b,off,none⟩) n c->ok b):=by
 cases h with
 | sl0=>exact⟨.inl ⟨⟨_,_,rfl,λ_=>rfl⟩,rfl⟩,λh=>absurd rfl h⟩
 | sle=>exact⟨.inl ⟨⟨_,_,rfl,λh=>by cases h⟩,rfl⟩,λh=>absurd rfl h⟩
 | sl _ _ b off c vs hb hs hc hsz hv hd=> exact⟨.inr ⟨b,off,c,vs,rfl,hc,hs,hsz,hv,hd⟩,λ_ b off n c e=>by simp only[Value.slice.injEq,oI,Addr.mk.injEq]at e;obtain⟨⟨rfl,_,_⟩,_⟩:=e;exact hb⟩
theorem ObR.lies {id:Nat}{fz nw:Bool}{ver e sz:Nat}{els:List D}(h:ObR w C ow m id (.row fz nw ver e sz els)):∃l,m id ver=some l/\l.isRow=true/\Lies w (C.ok ow nw) sz els l.val/\(els≠[]->l.block≠none):=by
 obtain⟨l,xs,hm,hrow,hown,hsz,hd,hnb⟩:=h;refine⟨l,hm,hrow,?_⟩;have hxl:xs.length=els.length*sz:=hown.1
 cases l with
 | box b=>simp[Loc.isRow]at hrow
 | nilrow=>
  have h0:els=[]:=by
   rcases hown.2 with⟨_,h⟩|⟨g,cap,cur,h,_⟩
   ·exact List.eq_nil_of_length_eq_zero h
   ·simp[Loc.val]at h
  exact⟨.inl ⟨⟨_,_,rfl,λ_=>rfl⟩,h0⟩,λh=>absurd h0 h⟩
 | row b n c=>
  rcases hown.2 with⟨h,_⟩|⟨g,cap,cur,h,_,hg,hn,_,hcs,htake⟩
  ·simp[Loc.val]at h
  ·have h':=h;simp only[Loc.val,Value.slice.injEq,oI,Addr.mk.injEq]at h;obtain⟨⟨rfl,_,_⟩,rfl,rfl⟩:=h;refine⟨.inr ⟨b,0,c,λi j=>xs.getD (i*sz+j) undef,rfl,hn,(Array.getElem?_eq_some_iff.1 hg).1,hsz,?_,?_⟩,λ_=>by simp[Loc.block]⟩;all_goals
     intro i x j y hx hy
     have hlt:i*sz+j<xs.length:=by
      rw[hxl];have h1:i<els.length:=(List.getElem?_eq_some_iff.1 hx).1;have h2:j<sz:=by rw[<-hsz i x hx];exact(List.getElem?_eq_some_iff.1 hy).1
      have:(i+1)*sz<=els.length*sz:=Nat.mul_le_mul_right _ h1;rw[Nat.add_mul]at this;omega
   ·have:=hown.cells (g:=b) rfl (i*sz+j) _ (gI hlt);rw[CB,Nat.zero_add]at this;rw[Nat.zero_add,this];simp[hlt]
   ·have:=hd i x j y _ hx hy (gI hlt);simpa[hlt] using this
theorem SM {own:Nat->Prop}{H:Heap}(hr:HR w C own m H){x:AV}{v:Value}(hv:VR w C (owned H m) m x v){nw:Bool}{sz:Nat}{els:List D}(h:BC H x=some (nw,sz,els)):Lies w (C.ok (owned H m) nw) sz els v:=by
 unfold BC at h;split at h<;>try (simp at h;done)
 ·simp only[oI,pI]at h;obtain⟨rfl,rfl,rfl⟩:=h
  cases hv with
  | n _ _ h=>cases h;exact .inl ⟨⟨_,_,rfl,λ_=>rfl⟩,rfl⟩
 ·simp only[oI,pI]at h;obtain⟨rfl,rfl,rfl⟩:=h
  cases hv with
  | n _ _ h=>exact h.lies.1
 ·simp only[oI,pI]at h;obtain⟨rfl,rfl,rfl⟩:=h
  cases hv with
  | o _ _ h=>exact h.lies.1
 ·rename_i id ver;split at h<;>try (simp at h;done)
  split at h<;>simp only[oI,reduceCtorEq,pI]at h;rename_i hg hver;obtain⟨rfl,rfl,rfl⟩:=h;subst hver;obtain⟨l,hm,hrow,hl,_⟩:=(hr.objs _ _ hg).lies;obtain⟨l',hm',_,rfl⟩:=hv.row_inv;rw[hm]at hm';obtain rfl:l=l':=by simpa using hm'
  exact hl
theorem J6 (t e:TypeId)(i:TypeInfo)(ht:P.underlying t=some (.slice e))(hi:P.info? e=some i)(b off n c:Nat)(k:IntKind)(j:Int)(h0:0<=j)(h1:j<n):
  (Instr.indexAt t (.slice (some ⟨b,off,none⟩) n c) (.int k j)).run P w = .ok (.pointer (some ⟨b,off+j.toNat*i.size,none⟩)) w:=by
 simp[Instr.indexAt,asIntOf,run_underlying ht,sizeOf,typeInfo,hi,h0,h1,CB]
theorem jA {call:Al}{own:Nat->Prop}{H H':Heap}{o:Oper}{x j:Operand}{t e:TypeId}{i:TypeInfo}{v:AV}(hr:HR w C own m H)(hv:∀t,VR w C (owned H m) m (σ.get t) (a.tmps.getD t undef))
   (ht:P.underlying t=some (.slice e)) (hi:P.info? e=some i) (ho:o.op = .indexAddr t x j) (h:Ac call σ H (.idxA x j i.size)=some (v,H')):H'=H/\∃u,AA P a o w u/\VR w C (owned H m) m v u:=by
 simp only[Ac]at h
 split at h<;>try (simp at h;done)
 rename_i xv k q hx hj
 have h1:=AK hv hx
 have h2:=(AK hv hj).int
 split at h
 ·rename_i id ver
  split at h<;>try (simp at h;done)
  split at h<;>simp only[oI,reduceCtorEq,pI]at h
  rename_i hg hc
  obtain⟨rfl,rfl⟩:=h
  simp only[Bool.and_eq_true,decide_eq_true_eq]at hc
  obtain⟨⟨⟨rfl,hs⟩,h0⟩,hlt⟩:=hc
  refine⟨rfl,?_⟩
  obtain⟨l,hm,hrow,hl,hne⟩:=(hr.objs _ _ hg).lies
  obtain⟨l',hm',_,e'⟩:=h1.row_inv
  rw[hm]at hm'
  obtain rfl:l=l':=by simpa using hm'
  rcases hl with⟨_,rfl⟩|⟨b,off,c,vs,hlv,hlc,hb,_⟩
  ·simp at hlt;omega
  ·cases l with
   | box b=>simp[Loc.isRow]at hrow
   | nilrow=>simp[Loc.val]at hlv
   | row b' n' c'=>
    have hlv':=hlv
    simp only[Loc.val,Value.slice.injEq,oI,Addr.mk.injEq]at hlv
    obtain⟨⟨rfl,rfl,_⟩,rfl,rfl⟩:=hlv
    refine⟨_,?_,.elt id _ i.size q.toNat 0 b' _ c' hm⟩
    simp only[AA,execOp,ho,e',h2,Loc.val]
    simp[J6 t e i ht hi b' 0 _ c' k q h0 hlt]
 ·split at h<;>try (simp at h;done)
  rename_i nw s els he
  split at h<;>try (simp at h;done)
  rename_i hc
  split at h<;>simp only[oI,reduceCtorEq,pI]at h
  rename_i d hd'
  obtain⟨rfl,rfl⟩:=h
  simp only[Bool.and_eq_true,decide_eq_true_eq]at hc
  obtain⟨rfl,h0⟩:=hc
  refine⟨rfl,?_⟩
  have hlt:q.toNat<els.length:=(List.getElem?_eq_some_iff.1 hd').1
  have hbk:∃b off c,∃vs:Nat->Nat->Value,a.eval x = .slice (some ⟨b,off,none⟩) els.length c/\C.ok (owned H m) nw b/\b<w.heap.size /\
      (∀(i':Nat) (x:D) (j:Nat) (y:D),els[i']?=some x->x.cells[j]?=some y->w.cell? ⟨b,off+(i'*i.size+j),none⟩=some (vs i' j)) /\
      (∀(i:Nat) (x:D) (j:Nat) (y:D),els[i]?=some x->x.cells[j]?=some y->DR w (C.ok (owned H m) nw) y (vs i j)):=by
    have key:∀ok,DR w ok (.sl i.size els) (a.eval x)->(∀b,ok b->C.ok (owned H m) nw b)->ok=C.ok (owned H m) nw->∃b off c,∃vs:Nat->Nat->Value,a.eval x = .slice (some ⟨b,off,none⟩) els.length c/\C.ok (owned H m) nw b/\b<w.heap.size /\
      (∀(i':Nat) (x:D) (j:Nat) (y:D),els[i']?=some x->x.cells[j]?=some y->w.cell? ⟨b,off+(i'*i.size+j),none⟩=some (vs i' j)) /\
      (∀(i:Nat) (x:D) (j:Nat) (y:D),els[i]?=some x->x.cells[j]?=some y->DR w (C.ok (owned H m) nw) y (vs i j)):=by
      intro ok hd hok e
      obtain⟨hl,hb⟩:=hd.lies
      rcases hl with⟨_,rfl⟩|⟨b,off,c,vs,hlv,hlc,hbs,hsz,hv,hdd⟩
      ·simp at hlt
      ·exact⟨b,off,c,vs,hlv,hok _ (hb (λh=>by rw[h]at hlt;simp at hlt) b off _ c hlv),hbs,hv,e▸hdd⟩
    unfold BC at he
    split at he<;>try (simp at he;done)
    ·simp only[oI,pI]at he
     obtain⟨_,_,rfl⟩:=he
     simp at hlt
    ·simp only[oI,pI]at he
     obtain⟨rfl,rfl,rfl⟩:=he
     cases h1 with
     | n _ _ h=>exact key _ h (λb h=>h) rfl
    ·simp only[oI,pI]at he
     obtain⟨rfl,rfl,rfl⟩:=he
     cases h1 with
     | o _ _ h=>exact key _ h (λb h=>h) rfl
    ·exfalso
     simp_all
  obtain⟨b,off,c,vs,hlv,hb,hbs,hvs,hds⟩:=hbk
  refine⟨_,?_,.dat nw d.cells b (off+q.toNat*i.size) (vs q.toNat) hb hbs ?_ ?_⟩
  ·simp only[AA,execOp,ho,hlv,h2]
   simp[J6 t e i ht hi b off els.length c k q h0 (by omega)]
  ·intro j' y hy
   have:=hvs _ d j' y hd' hy
   rwa [<-Nat.add_assoc]at this
  ·intro j' y hy
   exact hds _ d j' y hd' hy
theorem zR {call:Al}{H H':Heap}{o:Oper}{x j:Operand}{t:TypeId}{v:AV}(hv:∀t,VR w C ow m (σ.get t) (a.tmps.getD t undef))
  (ht:P.underlying t=some .string) (ho:o.op = .index t x j) (h:Ac call σ H (.idx x j)=some (v,H')):H'=H/\∃u,AA P a o w u/\VR w C ow m v u:=by
 simp only[Ac]at h
 split at h<;>try (simp at h;done)
 rename_i s k q hx hj
 have h1:=(AK hv hx).str
 have h2:=(AK hv hj).int
 split at h<;>try (simp at h;done)
 rename_i h0
 split at h<;>simp only[oI,reduceCtorEq,pI]at h
 obtain⟨rfl,rfl⟩:=h
 rename_i b hb
 refine⟨rfl,.int .u8 b.toNat,?_,.n _ _ (.int _ _)⟩
 have hlt:q.toNat<s.data.toList.length:=(List.getElem?_eq_some_iff.1 hb).1
 have hlt':q.toNat<s.size:=by rw[Array.length_toList]at hlt;exact hlt
 have hbb:s[q.toNat]=b:=by have:=(List.getElem?_eq_some_iff.1 hb).2;show s.data[q.toNat]=b;simpa using this
 simp[AA,execOp,ho,h1,h2,Instr.index,asIntOf,run_underlying ht,h0,hlt',hbb]
theorem pV {call:Al}{H H':Heap}{o:Oper}{x j:Operand}{t e:TypeId}{n:Nat}{inf:TypeInfo}{v:AV}(hv:∀t,VR w C ow m (σ.get t) (a.tmps.getD t undef))
  (ht:P.underlying t=some (.array n e)) (hz:CX P e=some none) (hi:P.info? e=some inf) (h1:inf.size=1) (ho:o.op = .index t x j) (h:Ac call σ H (.idxG x j n)=some (v,H')):H'=H/\∃u,AA P a o w u/\VR w C ow m v u:=by
 simp only[Ac]at h
 split at h<;>try (simp at h;done)
 rename_i cs k q hx hj
 have hxv:=AK hv hx
 have h2:=(AK hv hj).int
 split at h<;>try (simp at h;done)
 rename_i hb
 split at h<;>simp only[oI,reduceCtorEq,pI]at h
 obtain⟨rfl,rfl⟩:=h
 rename_i v' hc
 obtain⟨us,hl,hh,hu⟩:=hxv.agg_inv
 have hlt:q.toNat<us.length:=by rw[<-hl];exact(List.getElem?_eq_some_iff.1 hc).1
 obtain⟨ha,_⟩:=JN (P:=P) (w:=w) hz
 refine⟨rfl,us[q.toNat],?_,hh _ _ _ hc (gI hlt)⟩
 simp[AA,execOp,ho,hu,h2,Instr.index,asIntOf,run_underlying ht,hb.1,hb.2,sizeOf,typeInfo,hi,h1,part,ha,gI hlt]
theorem jT {call:Al}{H H':Heap}{o:Oper}{x:Operand}{t:TypeId}{v:AV}(hv:∀t,VR w C ow m (σ.get t) (a.tmps.getD t undef))
  (ht:P.underlying t=some .string) {ty:TypeId} (ho:o.op = .call { callee := .builtin .len,args := #[x],argTypes := #[t] }) (h:Ac call σ H (.slen x)=some (v,H')):H'=H/\∃u,AA P a o w u/\VR w C ow m v u:=by
 simp only[Ac]at h
 split at h<;>simp only[oI,reduceCtorEq,pI]at h
 obtain⟨rfl,rfl⟩:=h
 rename_i s hx
 have h1:=(AK hv hx).str
 exact⟨rfl,.int .i64 s.size,by simp[AA,execOp,ho,resolve,invoke,builtin,h1,Builtin.len_,run_underlying ht,goInt],.n _ _ (.int _ _)⟩
theorem Lies.len {okd:Nat->Prop}{sz:Nat}{els:List D}{v:Value}(h:Lies w okd sz els v):∃p c,v = .slice p els.length c/\els.length<=c:=by
 rcases h with⟨⟨p,c,rfl,_⟩,rfl⟩|⟨b,off,c,vs,rfl,hc,_⟩
 ·exact⟨p,c,rfl,Nat.zero_le _⟩
 ·exact⟨_,c,rfl,hc⟩
theorem AAI {call:Al}{own:Nat->Prop}{H H':Heap}{o:Oper}{x:Operand}{t e:TypeId}{v:AV}(hr:HR w C own m H)(hv:∀t,VR w C (owned H m) m (σ.get t) (a.tmps.getD t undef))
  (ht:P.underlying t=some (.slice e)) (ho:o.op = .call { callee := .builtin .len,args := #[x],argTypes := #[t] })
  (h:Ac call σ H (.len x)=some (v,H')):H'=H/\∃u,AA P a o w u/\VR w C (owned H m) m v u:=by
 simp only[Ac]at h
 split at h<;>try (simp at h;done)
 rename_i xv hx
 split at h<;>simp only[oI,reduceCtorEq,pI]at h
 obtain⟨rfl,rfl⟩:=h
 rename_i nw sz els he
 obtain⟨p,c,e',_⟩:=(SM hr (AK hv hx) he).len
 exact⟨rfl,.int .i64 els.length,by simp[AA,execOp,ho,resolve,invoke,builtin,e',Builtin.len_,run_underlying ht,goInt],.n _ _ (.int _ _)⟩
theorem D0 {x:Option Operand}{dflt hi n:Nat}(hv:∀t,VR w C ow m (σ.get t) (a.tmps.getD t undef))(h:Ct σ x dflt hi=some n):
   (x=none/\n=dflt)\/∃y k,∃i:Int,x=some y/\a.eval y = .int k i/\0<=i/\i<=hi/\n=i.toNat:=by
 unfold Ct at h
 cases x with
 | none=>simp only[oI]at h;exact .inl ⟨rfl,h.symm⟩
 | some y=>
  simp only at h
  split at h<;>try (simp at h;done)
  split at h<;>simp only[oI,reduceCtorEq]at h
  rename_i k i hy hb
  exact .inr ⟨y,k,i,rfl,(AK hv hy).int,hb.1,hb.2,h.symm⟩
def Bnd (a:Act)(x:Option Operand)(dflt cap n:Nat):Prop:=(x=none/\n=dflt)\/∃y k,∃i:Int,x=some y/\a.eval y = .int k i/\0<=i/\i<=cap/\n=i.toNat
theorem Io (isSlice:Bool)(len cap l h mm:Nat)(lo hi mx:Option Operand)(h1:Bnd a mx cap cap mm)(h2:(hi=none/\h=len/\mx=none)\/∃y k,∃i:Int,hi=some y/\a.eval y = .int k i/\0<=i/\i<=mm/\h=i.toNat)(h3:Bnd a lo 0 h l):
  (Instr.sliceBounds isSlice len cap (lo.map a.eval) (hi.map a.eval) (mx.map a.eval)).run P w = .ok (l,h,mm) w:=by
 rcases h1 with⟨rfl,rfl⟩|⟨y1,k1,i1,rfl,e1,a1,b1,rfl⟩<;>rcases h2 with⟨rfl,rfl,h4⟩|⟨y2,k2,i2,rfl,e2,a2,b2,rfl⟩<;>rcases h3 with⟨rfl,rfl⟩|⟨y3,k3,i3,rfl,e3,a3,b3,rfl⟩ <;>
  simp_all[Instr.sliceBounds,Instr.sliceBound,asIntOf]
theorem iD {call:Al}{H H':Heap}{o:Oper}{x:Operand}{lo hi:Option Operand}{t:TypeId}{v:AV}(hv:∀t,VR w C ow m (σ.get t) (a.tmps.getD t undef))
  (ht:P.underlying t=some .string) (ho:o.op = .slice t x lo hi none) (h:Ac call σ H (.scut x lo hi)=some (v,H')):H'=H/\∃u,AA P a o w u/\VR w C ow m v u:=by
 simp only[Ac]at h
 split at h<;>try (simp at h;done)
 rename_i s hx
 split at h<;>try (simp at h;done)
 rename_i hn hh
 split at h<;>simp only[oI,reduceCtorEq,pI]at h
 obtain⟨rfl,rfl⟩:=h
 rename_i l hl
 have h1:=(AK hv hx).str
 refine⟨rfl,.string (s.extract l hn),?_,.n _ _ (.str _)⟩
 have hb:=D0 hv hh
 have e:=Io (P:=P) (w:=w) (a:=a) false s.size s.size l hn s.size lo hi none (.inl ⟨rfl,rfl⟩) (hb.imp (λh=>⟨h.1,h.2,rfl⟩) id) (D0 hv hl)
 simp only[Option.map_none]at e
 simp[AA,execOp,ho,Instr.sliceAt,run_underlying ht,Instr.slice,h1,e]
theorem Mo (hv:∀t,VR w C ow m (σ.get t) (a.tmps.getD t undef)):∀ {xs:List Operand} {vs:List AV},Jj σ xs=some vs->vs.length=xs.length/\∀(i:Nat) c x,vs[i]?=some c->xs[i]?=some x->VR w C ow m c (a.eval x)
 | [],vs,h=>by simp only[Jj,oI]at h;subst h;exact⟨rfl,λi c x h=>by simp at h⟩
 | x::r,vs,h=>by
  simp only[Jj]at h;split at h<;>simp only[oI,reduceCtorEq]at h;rename_i y s hy hs;subst h;obtain⟨h1,h2⟩:=Mo hv hs;refine⟨by simp[h1],λi c x' hc hx'=>?_⟩
  cases i with
  | zero=>simp only[List.getElem?_cons_zero,oI]at hc hx';subst hc hx';exact AK hv hy
  | succ i=>simp only[List.getElem?_cons_succ]at hc hx';exact h2 i c x' hc hx'
theorem vP {call:Al}{H H':Heap}{o:Oper}{f:Nat}{first cap:Array Operand}{v:AV}(hv:∀t,VR w C ow m (σ.get t) (a.tmps.getD t undef))
   (h0:first.size=0) (ho:o.op = .makeFunc (.func f) first cap) (h:Ac call σ H (.mkf f cap.toList)=some (v,H')):H'=H/\∃u,AA P a o w u/\VR w C ow m v u:=by
 simp only[Ac]at h
 split at h<;>simp only[oI,reduceCtorEq,pI]at h
 obtain⟨rfl,rfl⟩:=h
 rename_i vs hvs
 obtain⟨hl,hh⟩:=Mo hv hvs
 obtain rfl:first = #[]:=Array.eq_empty_of_size_eq_zero h0
 refine⟨rfl,.func (.func f) #[] (cap.toList.map a.eval).toArray,?_,.fn f vs (cap.toList.map a.eval) (by simp[hl]) λi c v hc hv'=>?_⟩
 ·have:cap.map a.eval=(cap.toList.map a.eval).toArray:=by rw[<-Array.toList_map,Array.toArray_toList]
  simp[AA,execOp,ho,Instr.makeFunc,this]
 ·rw[List.getElem?_map]at hv'
  cases hx:cap.toList[i]? with
  | none=>simp[hx]at hv'
  | some x=>simp only[hx,Option.map_some,oI]at hv';subst hv';exact hh i c x hc hx
theorem fG (P:Program){max:Bool}{k:IntKind}:∀ {xs:List AV} {us:List Value} {acc z:Int},xs.length=us.length->(∀(i:Nat) c u,xs[i]?=some c->us[i]?=some u->VR w C ow m c u)->tW max k acc xs=some z ->
   (us.foldlM (if max then Builtin.max2 else Builtin.min2) (.int k acc)).run P w = .ok (.int k z) w
 | [],us,acc,z,hl,_,h=>by simp only[tW,oI]at h;subst h;obtain rfl:us=[]:=List.eq_nil_of_length_eq_zero (by simpa using hl.symm);simp
 | x::r,us,acc,z,hl,hh,h=>by
  cases us with
  | nil=>simp at hl
  | cons u s=>
   simp only[List.length_cons,Nat.add_right_cancel_iff]at hl;have hx:=hh 0 x u rfl rfl;unfold tW at h;split at h;·simp_all
   ·rename_i k' y r' he;simp only[List.cons.injEq]at he;obtain⟨rfl,rfl⟩:=he;split at h<;>try (simp at h;done)
    rename_i hk;subst hk;obtain rfl:=hx.int;have ih:=fG P (max:=max) hl (λi c u h1 h2=>hh (i+1) c u (by simpa using h1) (by simpa using h2)) h;cases max<;>simp_all[Builtin.max2,Builtin.min2,Ck]
   ·simp at h
theorem xT {call:Al}{H H':Heap}{o:Oper}{max:Bool}{args:Array Operand}{tys:Array TypeId}{v:AV}(hv:∀t,VR w C ow m (σ.get t) (a.tmps.getD t undef))
  (ho:o.op = .call { callee := .builtin (if max then .max else .min),args:=args,argTypes:=tys }) (h:Ac call σ H (.mm max args.toList)=some (v,H')):H'=H/\∃u,AA P a o w u/\VR w C ow m v u:=by
 simp only[Ac]at h
 split at h<;>try (simp at h;done)
 rename_i k x r hvs
 split at h<;>simp only[oI,reduceCtorEq,pI]at h
 obtain⟨rfl,rfl⟩:=h
 rename_i z hz
 obtain⟨hl,hh⟩:=Mo hv hvs
 refine⟨rfl,.int k z,?_,.n _ _ (.int _ _)⟩
 obtain⟨y,s,hargs⟩:∃y s,args.toList=y::s:=by
  cases hz:args.toList with
  | nil=>rw[hz]at hl;simp at hl
  | cons y s=>exact⟨y,s,rfl⟩
 rw[hargs]at hl hh
 have h0:=(hh 0 _ y rfl rfl).int
 have hargs':(args.map a.eval).toList = .int k x::s.map a.eval:=by rw[Array.toList_map,hargs];simp[h0]
 have e:=fG P (w:=w) (us:=s.map a.eval) (max:=max) (by simpa using hl) (λi c u h1 h2=>by
  rw[List.getElem?_map]at h2
  cases hx:s[i]? with
  | none=>simp[hx]at h2
  | some x'=>simp only[hx,Option.map_some,oI]at h2;subst h2;exact hh (i+1) c x' (by simpa using h1) (by simpa using hx)) hz
 cases max<;>simp_all[AA,execOp,ho,resolve,invoke,builtin,Builtin.max_,Builtin.min_]
theorem aY {src dst e:TypeId}(hs:P.underlying src=some (.slice e))(he:P.underlying e=some (.int .u8))(hd:P.underlying dst=some .string){okd:Nat->Prop}{sz:Nat}{els:List D}{v:Value}(hl:Lies w okd sz els v)(h1:sz=1\/els=[])(h8:∀d∈els,d.isU8=true):
   (convert src dst v).run P w = .ok (.string ⟨(els.map byteOf).toArray⟩) w:=by
 rcases hl with⟨⟨p,c,rfl,_⟩,rfl⟩|⟨b,off,c,vs,rfl,hc,hb,hsz,hv,hdd⟩
 ·have:=run_convert_bytes_string w src dst e p 0 c hs he hd
  rw[this]
  cases p<;>simp[Conv.bytesToString,loadCells]<;>rfl
 ·let xs:List Int:=els.map λd=>match d with | .int _ n=>n|_=>0
  have:=run_convert_bytes_arg (P:=P) w src e hs he b off els.length c xs (by simp[xs]) (λi hi=>by
   have hx:els[i]?=some els[i]:=gI hi;have h8':=h8 els[i] (List.getElem_mem hi);have hs1:sz=1:=by
    rcases h1 with h|h;·exact h
    ·subst h;simp at hi
   subst hs1
   cases hd':els[i] with
   | int k n=>
    rw[hd']at h8' hx;have hk:k = .u8:=by cases k<;>simp_all[D.isU8]
    subst hk;have h2:=hv i _ 0 (.int .u8 n) hx rfl;have h3:=hdd i _ 0 (.int .u8 n) hx rfl;simp only[Nat.mul_one,Nat.add_zero]at h2;rw[h2];generalize vs i 0=u at h3;cases h3;simp[xs,hx]
   | _=>rw[hd']at h8';simp[D.isU8]at h8') dst hd
  rw[this]
  simp only[strOfNums,xs,List.map_map]
  congr 3
  refine congrArg List.toArray (List.map_congr_left λd hd'=>?_)
  have:=h8 d hd'
  cases d<;>simp_all[byteOf,D.isU8]
theorem ABU {call:Al}{own:Nat->Prop}{H H':Heap}{o:Oper}{x:Operand}{s d e:TypeId}{v:AV}(hr:HR w C own m H)(hv:∀t,VR w C (owned H m) m (σ.get t) (a.tmps.getD t undef))
  (hs:P.underlying s=some (.slice e)) (he:P.underlying e=some (.int .u8)) (hd:P.underlying d=some .string) (ho:o.op = .convert s d x)
  (h:Ac call σ H (.b2s x)=some (v,H')):H'=H/\∃u,AA P a o w u/\VR w C (owned H m) m v u:=by
 simp only[Ac]at h
 split at h<;>try (simp at h;done)
 rename_i xv hx
 split at h<;>try (simp at h;done)
 rename_i nw sz els hels
 split at h<;>simp only[oI,reduceCtorEq,pI]at h
 obtain⟨rfl,rfl⟩:=h
 rename_i hc
 simp only[Bool.and_eq_true,Bool.or_eq_true,decide_eq_true_eq,List.isEmpty_iff,List.all_eq_true]at hc
 refine⟨rfl,_,?_,.n _ _ (.str _)⟩
 simp[AA,execOp,ho,aY hs he hd (SM hr (AK hv hx) hels) hc.1 hc.2]
theorem Gd:∀(xs:List AV) (cs:List AV) (off:Nat),(setCells cs off xs).length=cs.length
 | [],cs,off=>rfl
 | x::r,cs,off=>by rw[setCells,Gd r];simp
theorem F8:∀(xs:List AV) (cs:List AV) (off i:Nat),off+xs.length<=cs.length->(setCells cs off xs)[i]?=if off<=i/\i<off+xs.length then xs[i-off]? else cs[i]?
 | [],cs,off,i,_=>by rw[setCells,if_neg (by simp)]
 | x::r,cs,off,i,h=>by
  simp only[List.length_cons]at h;rw[setCells,F8 r (cs.set off x) (off+1) i (by simp;omega)];by_cases h1:off+1<=i/\i<off+1+r.length
  ·rw[if_pos h1,if_pos (by simp;omega)];obtain⟨j,hj⟩:∃j,i-off=j+1:=⟨i-off-1,by omega⟩
   rw[hj,List.getElem?_cons_succ];congr 1;omega
  ·rw[if_neg h1,List.getElem?_set];by_cases h2:off=i;·subst h2;rw[if_pos rfl,if_pos (by omega),if_pos ⟨Nat.le_refl _,by simp⟩];simp
   ·rw[if_neg h2,if_neg (by simp;omega)]
theorem H6:∀(us:List Value) (cs:List Value) (off:Nat) (k:Nat),(us.zipIdx k).foldl (λ(cs:Array Value) (p:Value×Nat)=>cs.setIfInBounds (off+p.2) p.1) cs.toArray=(List.foldl (λcs p=>cs.set (off+p.2) p.1) cs (us.zipIdx k)).toArray
 | [],cs,off,k=>rfl
 | u::r,cs,off,k=>by simp only[List.zipIdx_cons,List.foldl_cons];rw[List.setIfInBounds_toArray];exact H6 r _ off (k+1)
theorem HN:∀(us:List Value) (cs:List Value) (off k:Nat),(List.foldl (λ(cs:List Value) (p:Value×Nat)=>cs.set (off+p.2) p.1) cs (us.zipIdx k)).length=cs.length
 | [],cs,off,k=>rfl
 | u::r,cs,off,k=>by simp only[List.zipIdx_cons,List.foldl_cons];rw[HN r];simp
theorem Fh:∀(us:List Value) (cs:List Value) (off k i:Nat),off+k+us.length<=cs.length ->
   (List.foldl (λ(cs:List Value) (p:Value×Nat)=>cs.set (off+p.2) p.1) cs (us.zipIdx k))[i]?=if off+k<=i/\i<off+k+us.length then us[i-(off+k)]? else cs[i]?
 | [],cs,off,k,i,_=>by simp only[List.zipIdx_nil,List.foldl_nil];rw[if_neg (by simp)]
 | u::r,cs,off,k,i,h=>by
  simp only[List.length_cons]at h;simp only[List.zipIdx_cons,List.foldl_cons];rw[Fh r _ off (k+1) i (by simp;omega)];by_cases h1:off+(k+1)<=i/\i<off+(k+1)+r.length
  ·rw[if_pos h1,if_pos (by simp;omega)];obtain⟨j,hj⟩:∃j,i-(off+k)=j+1:=⟨i-(off+k)-1,by omega⟩
   rw[hj,List.getElem?_cons_succ];congr 1;omega
  ·rw[if_neg h1,List.getElem?_set];by_cases h2:off+k=i;·subst h2;rw[if_pos rfl,if_pos (by omega),if_pos ⟨Nat.le_refl _,by simp⟩];simp
   ·rw[if_neg h2,if_neg (by simp;omega)]
def Cells (w:World)(C:Cx)(ow:Nat->Prop)(m:Places)(cs:List AV)(us:List Value):Prop:=cs.length=us.length/\∀(i:Nat) c u,cs[i]?=some c->us[i]?=some u->VR w C ow m c u
theorem Cells.set {cs xs:List AV}{us ys:List Value}(h:Cells w C ow m cs us)(h2:Cells w C ow m xs ys)(off:Nat)(hle:off+xs.length<=cs.length):
   Cells w C ow m (setCells cs off xs) (List.foldl (λ(cs:List Value) (p:Value×Nat)=>cs.set (off+p.2) p.1) us (ys.zipIdx 0)):=by
 refine⟨by rw[Gd,HN,h.1],λi c u hc hu=>?_⟩
 rw[F8 xs cs off i hle]at hc
 rw[Fh ys us off 0 i (by rw[<-h2.1,<-h.1];omega)]at hu
 simp only[Nat.add_zero]at hu
 rw[<-h2.1]at hu
 split at hc
 ·rename_i hi
  rw[if_pos hi]at hu
  exact h2.2 _ _ _ hc hu
 ·rename_i hi
  rw[if_neg hi]at hu
  exact h.2 _ _ _ hc hu
theorem VR.cells {x:AV}{v:Value}(h:VR w C ow m x v)(hx:x≠.n .any):Cells w C ow m (AB x) v.cells.toList:=by
 cases h with
 | agg cs vs hl h=>exact⟨by simpa[AB,Value.cells] using hl,by simpa[AB,Value.cells] using h⟩
 | any v=>exact absurd rfl hx
 | n x v h=>
  refine⟨by cases h<;>rfl,λi c u hc hu=>?_⟩;have:v.cells.toList=[v]:=by cases h<;>rfl
  rw[this]at hu
  cases i with
  | zero=>simp only[AB,List.getElem?_cons_zero,oI]at hc hu;subst hc hu;exact .n _ _ h
  | succ i=>simp at hu
 | o x v h=>
  refine⟨by cases h<;>rfl,λi c u hc hu=>?_⟩;have:v.cells.toList=[v]:=by cases h<;>rfl
  rw[this]at hu
  cases i with
  | zero=>simp only[AB,List.getElem?_cons_zero,oI]at hc hu;subst hc hu;exact .o _ _ h
  | succ i=>simp at hu
 | tup cs vs hl h=>
  refine⟨rfl,λi c u hc hu=>?_⟩
  cases i with
  | zero=>simp only[AB,Value.cells,List.getElem?_cons_zero,oI]at hc hu;subst hc hu;exact .tup _ _ hl h
  | succ i=>simp[AB]at hc
 | undef=>
  refine⟨rfl,λi c u hc hu=>?_⟩
  cases i with
  | zero=>simp only[AB,Go.undef,Value.cells,List.getElem?_cons_zero,oI]at hc hu;subst hc hu;exact .undef
  | succ i=>simp[AB]at hc
 | ptr id off b h=>
  refine⟨rfl,λi c u hc hu=>?_⟩
  cases i with
  | zero=>simp only[AB,Value.cells,List.getElem?_cons_zero,oI]at hc hu;subst hc hu;exact .ptr _ _ _ h
  | succ i=>simp[AB]at hc
 | elt id ver sz i off b n c h=>
  refine⟨rfl,λi c u hc hu=>?_⟩
  cases i with
  | zero=>simp only[AB,Value.cells,List.getElem?_cons_zero,oI]at hc hu;subst hc hu;exact .elt _ _ _ _ _ _ _ _ h
  | succ i=>simp[AB]at hc
 | nilp=>
  refine⟨rfl,λi c u hc hu=>?_⟩
  cases i with
  | zero=>simp only[AB,Value.cells,List.getElem?_cons_zero,oI]at hc hu;subst hc hu;exact .nilp
  | succ i=>simp[AB]at hc
 | row id ver l h hr=>
  have e:l.val.cells.toList=[l.val]:=by cases l<;>rfl
  refine⟨by rw[e];rfl,λi c u hc hu=>?_⟩;rw[e]at hu
  cases i with
  | zero=>simp only[AB,List.getElem?_cons_zero,oI]at hc hu;subst hc hu;exact .row _ _ _ h hr
  | succ i=>simp[AB]at hc
 | dat nw cs b off vs hb hs hv hd=>
  refine⟨rfl,λi c u hc hu=>?_⟩
  cases i with
  | zero=>simp only[AB,Value.cells,List.getElem?_cons_zero,oI]at hc hu;subst hc hu;exact .dat _ _ _ _ _ hb hs hv hd
  | succ i=>simp[AB]at hc
 | fn f cap vs hl h=>
  refine⟨rfl,λi c u hc hu=>?_⟩
  cases i with
  | zero=>simp only[AB,Value.cells,List.getElem?_cons_zero,oI]at hc hu;subst hc hu;exact .fn _ _ _ hl h
  | succ i=>simp[AB]at hc
theorem Tn {pl:Nat->Option (Nat×Nat)}{ps:List (Nat×Operand)}{l:List (Nat×Nat×Operand)}(hv:∀t,VR w C ow m (σ.get t) (a.tmps.getD t undef))
   (hp:∀(k:Nat) i x,ps[k]?=some (i,x)->∃o s,pl i=some (o,s)/\l[k]?=some (o,s,x)) (hll:l.length=ps.length):
   ∀ {cs:List AV} {us:List Value} {cs':List AV},Cells w C ow m cs us->E5 σ cs l=some cs'->∃us',Instr.fill pl us.toArray (ps.map λ(i,x)=>(i,a.eval x))=some us'.toArray/\Cells w C ow m cs' us':=by
 induction ps generalizing l with
 | nil=>
  intro cs us cs' hc h
  obtain rfl:l=[]:=List.eq_nil_of_length_eq_zero hll
  simp only[E5,oI]at h;subst h
  exact⟨us,rfl,hc⟩
 | cons p r ih=>
  intro cs us cs' hc h
  obtain⟨i,x⟩:=p
  obtain⟨o,s,hpl,hl0⟩:=hp 0 i x rfl
  cases l with
  | nil=>simp at hl0
  | cons q l'=>
   simp only[List.getElem?_cons_zero,oI]at hl0
   subst hl0
   simp only[E5]at h
   split at h<;>try (simp at h;done)
   rename_i v hx
   split at h<;>try (simp at h;done)
   rename_i hcnd
   simp only[Bool.and_eq_true,beq_iff_eq,decide_eq_true_eq]at hcnd
   obtain⟨hcnd,hok⟩:=hcnd
   have hany:v≠.n .any:=by rintro rfl;simp[AB,AV.cellOK]at hok
   ·have hcv:=(AK hv hx).cells hany
    have hsz:(a.eval x).cells.size=s:=by rw[<-hcnd.1,hcv.1];simp
    obtain⟨us',h1,h2⟩:=ih (l:=l') (λk i x hk=>hp (k+1) i x (by simpa using hk)) (by simpa using hll) (hc.set hcv o (by omega)) h
    refine⟨us',?_,h2⟩
    simp only[List.map_cons,Instr.fill,hpl]
    rw[if_neg (by simp only[ne_eq,Bool.or_eq_true,decide_eq_true_eq,not_or];rw[hsz];simp;rw[<-hc.1];omega)]
    rw[<-h1]
    congr 1
    rw[<-H6,<-Array.foldl_toList,Array.toList_zipIdx]
theorem D5:∀ {vs:List Value} {xs:List AV},J4 vs=some xs->Cells w C ow m xs vs/\∀x∈xs,x.cellOK=true
 | [],xs,h=>by simp only[J4,oI]at h;subst h;exact⟨⟨rfl,λi c u h=>by simp at h⟩,by simp⟩
 | v::r,xs,h=>by
  simp only[J4]at h;split at h<;>simp only[oI,reduceCtorEq]at h;rename_i x s hx hs;subst h;obtain⟨⟨h1,h2⟩,h3⟩:=D5 hs;refine⟨⟨by simp[h1],λi c u hc hu=>?_⟩,λy hy=>?_⟩
  ·cases i with
   | zero=> simp only[List.getElem?_cons_zero,oI]at hc hu;subst hc hu;exact AK (σ:=[]) (a:=⟨#[],[]⟩) (λt => .any _) (x := .const v) (by simpa[ev] using hx)
   | succ i=>exact h2 i c u (by simpa using hc) (by simpa using hu)
  ·rcases List.mem_cons.1 hy with rfl|hy;·unfold Y1 at hx;split at hx<;>simp only[oI,reduceCtorEq]at hx<;>subst hx<;>rfl
   ·exact h3 y hy
theorem N5:∀ {fs:List Field} {ps:List (Nat×Nat)},places P fs=some ps->ps.length=fs.length/\∀(k:Nat) f,fs[k]?=some f->∃i,P.info? f.type=some i/\ps[k]?=some (f.offset,i.size)
 | [],ps,h=>by simp only[places,oI]at h;subst h;exact⟨rfl,λk f h=>by simp at h⟩
 | f::r,ps,h=>by
  simp only[places]at h;split at h<;>simp only[oI,reduceCtorEq]at h;rename_i i s hi hs;subst h;obtain⟨h1,h2⟩:=N5 hs;refine⟨by simp[h1],λk f' hf=>?_⟩
  cases k with
  | zero=>simp only[List.getElem?_cons_zero,oI]at hf;subst hf;exact⟨i,hi,rfl⟩
  | succ k=>exact h2 k f' (by simpa using hf)
theorem LZ {ps:List (Nat×Nat)}:∀ {parts:List (Nat×Operand)} {l:List (Nat×Nat×Operand)},Hh ps parts=some l->l.length=parts.length/\∀(k:Nat) i x,parts[k]?=some (i,x)->∃o s,ps[i]?=some (o,s)/\l[k]?=some (o,s,x)
 | [],l,h=>by simp only[Hh,oI]at h;subst h;exact⟨rfl,λk i x h=>by simp at h⟩
 | (i,x)::r,l,h=>by
  simp only[Hh]at h;split at h<;>simp only[oI,reduceCtorEq]at h;rename_i o s l' hi hs;subst h;obtain⟨h1,h2⟩:=LZ hs;refine⟨by simp[h1],λk i' x' hk=>?_⟩
  cases k with
  | zero=>simp only[List.getElem?_cons_zero,oI,pI]at hk;obtain⟨rfl,rfl⟩:=hk;exact⟨o,s,hi,rfl⟩
  | succ k=>exact h2 k i' x' (by simpa using hk)
theorem P8 {α β:Type}(f:α->Sem β)(g:α->β):∀(l:List α),(∀x∈l,(f x).run P w = .ok (g x) w)->(l.mapM f).run P w = .ok (l.map g) w
 | [],_=>by simp
 | x::r,h=>by have h1:=h x (List.mem_cons_self ..);have h2:=P8 f g r (λy hy=>h y (List.mem_cons_of_mem _ hy));simp[h1,h2]
theorem aT {call:Al}{H H':Heap}{o:Oper}{t:TypeId}{fs:Array Field}{z:List AV}{ps:List (Nat×Nat)}{parts:Array (Nat×Operand)}{l:List (Nat×Nat×Operand)}{v:AV}(hv:∀t,VR w C ow m (σ.get t) (a.tmps.getD t undef))
  (ht:P.underlying t=some (.struct fs)) (hz:Cf P t=some z) (hps:places P fs.toList=some ps) (hl:Hh ps parts.toList=some l) (ho:o.op = .build t parts)
  (h:Ac call σ H (.build z l)=some (v,H')):H'=H/\∃u,AA P a o w u/\VR w C ow m v u:=by
 simp only[Ac]at h
 split at h<;>simp only[oI,reduceCtorEq,pI]at h
 obtain⟨rfl,rfl⟩:=h
 rename_i cs hcs
 unfold Cf at hz
 split at hz<;>try (simp at hz;done)
 rename_i i hi
 split at hz<;>try (simp at hz;done)
 rename_i zv hzv
 obtain⟨hz1,_⟩:=D5 (w:=w) (C:=C) (ow:=ow) (m:=m) hz
 obtain⟨hp1,hp2⟩:=N5 hps
 obtain⟨hl1,hl2⟩:=LZ hl
 have hmap:(fs.mapM λf=>do pure (f.offset,<-sizeOf f.type):Sem (Array (Nat×Nat))).run P w = .ok ps.toArray w:=by
  rw[Array.mapM_eq_mapM_toList];have:=P8 (P:=P) (w:=w) (λf:Field=>do pure (f.offset,<-sizeOf f.type)) (λf=>(f.offset,((P.info? f.type).map (·.size)).getD 0)) fs.toList (λf hf=>by obtain⟨k,hk⟩:=List.getElem?_of_mem hf;obtain⟨i,h1,_⟩:=hp2 k f hk;simp[sizeOf,typeInfo,h1]);have e:fs.toList.map (λf=>(f.offset,((P.info? f.type).map (·.size)).getD 0))=ps:=by
   refine List.ext_getElem? λk=>?_;rw[List.getElem?_map]
   cases hk:fs.toList[k]? with
   | none=>simp only[Option.map_none];rw[List.getElem?_eq_none];rw[hp1];exact List.getElem?_eq_none_iff.1 hk
   | some f=> obtain⟨i,h1,h2⟩:=hp2 k f hk;simp[h1,h2]
  rw[e]at this;rw[Sem.run_map,this];rfl
 obtain⟨us',hf1,hf2⟩:=Tn (pl:=λk=>ps[k]?) (a:=a) hv hl2 hl1 hz1 hcs
 refine⟨rfl,.agg us'.toArray,?_,.agg _ _ hf2.1 hf2.2⟩
 simp[AA,execOp,ho,Instr.build,zeroValue,typeInfo,hi,hzv,run_underlying ht,hmap]
 have hmap':(fs.mapM λf=>Prod.mk f.offset <$> sizeOf f.type:Sem (Array (Nat×Nat))).run P w = .ok ps.toArray w:=by simpa using hmap
 have hf1':Instr.fill (λk=>ps.toArray[k]?) zv.cells (List.map (λx=>(x.1,a.eval x.2)) parts.toList)=some us'.toArray:=by simpa using hf1
 rw[hmap']
 simp only[Result.andThen_ok,hf1']
 rfl
theorem Zh {call:Al}{H H':Heap}{o:Oper}{t e:TypeId}{n:Nat}{inf:TypeInfo}{z:List AV}{parts:Array (Nat×Operand)}{v:AV}(hv:∀t,VR w C ow m (σ.get t) (a.tmps.getD t undef))
  (ht:P.underlying t=some (.array n e)) (hz:Cf P t=some z) (hj:P.info? e=some inf) (ho:o.op = .build t parts)
  (h:Ac call σ H (.build z (parts.toList.map λp=>(p.1*inf.size,inf.size,p.2)))=some (v,H')):H'=H/\∃u,AA P a o w u/\VR w C ow m v u:=by
 simp only[Ac]at h
 split at h<;>simp only[oI,reduceCtorEq,pI]at h
 obtain⟨rfl,rfl⟩:=h
 rename_i cs hcs
 unfold Cf at hz
 split at hz<;>try (simp at hz;done)
 rename_i i hi
 split at hz<;>try (simp at hz;done)
 rename_i zv hzv
 obtain⟨hz1,_⟩:=D5 (w:=w) (C:=C) (ow:=ow) (m:=m) hz
 obtain⟨us',hf1,hf2⟩:=Tn (pl:=λk=>some (k*inf.size,inf.size)) (a:=a) (ps:=parts.toList) hv (λk i x hk=>⟨_,_,rfl,by rw[List.getElem?_map,hk];rfl⟩) (by simp) hz1 hcs
 refine⟨rfl,.agg us'.toArray,?_,.agg _ _ hf2.1 hf2.2⟩
 have hf1':Instr.fill (λk=>some (k*inf.size,inf.size)) zv.cells (List.map (λx=>(x.1,a.eval x.2)) parts.toList)=some us'.toArray:=by simpa using hf1
 simp[AA,execOp,ho,Instr.build,zeroValue,typeInfo,hi,hzv,run_underlying ht,sizeOf,hj,hf1']
end quiet
end Go.Mir
