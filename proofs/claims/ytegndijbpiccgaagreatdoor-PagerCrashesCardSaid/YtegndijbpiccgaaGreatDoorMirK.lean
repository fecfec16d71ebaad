import Derived.Test.YtegndijbpiccgaaGreatDoorMirQ
namespace Go.Mir
set_option linter.unusedVariables false
set_option linter.unusedSimpArgs false
def Runs (Fs:Nat->Option Fun)(f:Nat)(as:List AV)(H:Heap)(r:AV)(H':Heap):Prop:=∃k0,∀k,k0<=k->run Fs k f as H=some (r,H')
def Js:Al:=λ_ _ _=>none
def mV (K:AV->Heap->Prop):Option (AV×Heap)->Prop
 | some (v,H)=>K v H
 | none=>False
def Fo (σ:Slots):Option Nat->AV->Slots
 | some d,v=>σ.put d v
 | none,_=>σ
abbrev MP:=Ex->Slots->Heap->Prop
def gQ (W:Slots->Heap->Prop)(Q:MP):MP
 | .norm,σ,H=>W σ H
 | e,σ,H=>Q e σ H
def Yo (id:Nat)(Q:MP):MP
 | .exit i,σ,H=>if i=id then Q .norm σ H else Q (.exit i) σ H
 | e,σ,H=>Q e σ H
def isS (W:Slots->Heap->Prop):Option (Slots×Heap)->Prop
 | some (σ,H)=>W σ H
 | none=>False
def Ae (b:Bool)(A B:Prop):Prop:=@Bool.rec (λ_=>Prop) B A b
theorem Aa {b:Bool}{A B:Prop}(h1:b=true->A)(h2:b=false->B):Ae b A B:=by
 cases b;·exact h2 rfl
 ·exact h1 rfl
theorem Ab {p:Prop}[Decidable p]{A B:Prop}(h1:p->A)(h2:¬p->B):Ae (decide p) A B:=Aa (λh=>h1 (of_decide_eq_true h)) (λh=>h2 (of_decide_eq_false h))
theorem Ay {b:Bool}{A B:Prop}(h:Ae b A B):(b=true/\A)\/(b=false/\B):=by
 cases b;·exact .inr ⟨rfl,h⟩
 ·exact .inl ⟨rfl,h⟩
def Lf.T:Lf->Type
 | .row _=>Nat
 | .nil=>Unit
 | .nilp=>Unit
 | .ptr _ _=>Unit
 | .sln _=>List D
 | .slo _=>List D
 | .int _=>Int
 | .bool=>Bool
 | .str=>bA
 | .raw=>AV
def Lf.v:(l:Lf)->l.T->AV
 | .row id,x => .row id x
 | .nil,_ => .n .nil
 | .nilp,_ => .nilp
 | .ptr id off,_ => .ptr id off
 | .sln sz,x => .n (.sl sz x)
 | .slo sz,x => .o (.sl sz x)
 | .int k,x => .n (.int k x)
 | .bool,x => .n (.bool x)
 | .str,x => .n (.str x)
 | .raw,x=>x
def Lf.ex (K:AV->Prop):Lf->Prop
 | .row id=>∃x:Nat,K (.row id x)
 | .nil=>∃x:Unit,(λ_=>K (.n .nil)) x
 | .nilp=>∃x:Unit,(λ_=>K .nilp) x
 | .ptr id off=>∃x:Unit,(λ_=>K (.ptr id off)) x
 | .sln sz=>∃x:List D,K (.n (.sl sz x))
 | .slo sz=>∃x:List D,K (.o (.sl sz x))
 | .int k=>∃x:Int,K (.n (.int k x))
 | .bool=>∃x:Bool,K (.n (.bool x))
 | .str=>∃x:bA,K (.n (.str x))
 | .raw=>∃x:AV,K x
def Lf.exL (K:List AV->Prop):List Lf->Prop
 | []=>K []
 | l::r=>l.ex λv=>Lf.exL (λvs=>K (v::vs)) r
def S1.ex (K:AV->Prop):S1->Prop
 | .one l=>l.ex K
 | .agg ls=>Lf.exL (λvs=>K (.agg vs)) ls
def S1.exL (K:List AV->Prop):List S1->Prop
 | []=>K []
 | l::r=>l.ex λv=>S1.exL (λvs=>K (v::vs)) r
def Sh.ex (K:AV->Prop):Sh->Prop
 | .val s=>s.ex K
 | .tup l=>S1.exL (λvs=>K (.tup vs)) l
theorem Lf.ex_elim {K:AV->Prop}{l:Lf}(h:l.ex K):∃v,K v:=by cases l<;>exact⟨_,h.choose_spec⟩
theorem Lf.exL_elim:∀ {l:List Lf} {K:List AV->Prop},Lf.exL K l->∃v,K v
 | [],K,h=>⟨_,h⟩
 | l::r,K,h=>by obtain⟨v,h⟩:=Lf.ex_elim h;obtain⟨vs,h⟩:=Lf.exL_elim h;exact⟨_,h⟩
theorem S1.ex_elim {K:AV->Prop}{l:S1}(h:l.ex K):∃v,K v:=by
 cases l with
 | one l=>exact Lf.ex_elim h
 | agg ls=>obtain⟨v,h⟩:=Lf.exL_elim h;exact⟨_,h⟩
theorem S1.exL_elim:∀ {l:List S1} {K:List AV->Prop},S1.exL K l->∃v,K v
 | [],K,h=>⟨_,h⟩
 | l::r,K,h=>by obtain⟨v,h⟩:=S1.ex_elim h;obtain⟨vs,h⟩:=S1.exL_elim h;exact⟨_,h⟩
theorem Sh.ex_elim {K:AV->Prop}{l:Sh}(h:l.ex K):∃v,K v:=by
 cases l with
 | val l=>exact S1.ex_elim h
 | tup ls=>obtain⟨v,h⟩:=S1.exL_elim h;exact⟨_,h⟩
def Lf.exD (nw:Bool)(K:D->AV->Prop):Lf->Prop
 | .row _=>∃x:D,K x (sub nw x)
 | .nil=>∃x:D,K x (sub nw x)
 | .nilp=>∃x:D,K x (sub nw x)
 | .ptr _ _=>∃x:D,K x (sub nw x)
 | .sln sz=>∃x:List D,K (.sl sz x) (sub nw (.sl sz x))
 | .slo sz=>∃x:List D,K (.sl sz x) (sub nw (.sl sz x))
 | .int k=>∃x:Int,K (.int k x) (.n (.int k x))
 | .bool=>∃x:Bool,K (.bool x) (.n (.bool x))
 | .str=>∃x:bA,K (.str x) (.n (.str x))
 | .raw=>∃x:D,K x (sub nw x)
def Lf.exDL (nw:Bool)(K:List D->List AV->Prop):List Lf->Prop
 | []=>K [] []
 | l::r=>l.exD nw λd v=>Lf.exDL nw (λds vs=>K (d::ds) (v::vs)) r
theorem Lf.exD_elim {nw:Bool}{K:D->AV->Prop}{l:Lf}(h:l.exD nw K):∃d,K d (sub nw d):=by cases l<;>obtain⟨x,h⟩:=h<;>first|exact⟨_,h⟩|exact⟨_,by cases nw<;>exact h⟩
theorem Lf.exDL_elim {nw:Bool}:∀ {l:List Lf} {K:List D->List AV->Prop},Lf.exDL nw K l->∃ds,K ds (ds.map (sub nw))
 | [],K,h=>⟨[],h⟩
 | l::r,K,h=>by obtain⟨d,h⟩:=Lf.exD_elim h;obtain⟨ds,h⟩:=Lf.exDL_elim h;exact⟨d::ds,h⟩
def gV:Sh->Lf
 | .val (.one l)=>l
 | _ => .raw
def Ra (n:Nat):Sh->List Lf
 | .val (.agg ls)=>ls
 | _=>List.replicate n .raw
def N4 (K:IntKind->Int->Prop):AV->Prop
 | .n (.int k x)=>K k x
 | _=>False
def asBool (K:Bool->Prop):AV->Prop
 | .n (.bool b)=>K b
 | _=>False
def Ul (K:bA->Prop):AV->Prop
 | .n (.str s)=>K s
 | _=>False
def asD (K:D->Prop):AV->Prop
 | .n d=>K d
 | _=>False
def AT {α:Type}(K:α->Prop):Option α->Prop
 | some x=>K x
 | none=>False
theorem Ai {α:Type}{K:α->Prop}{o:Option α}(h:AT K o):∃x,o=some x/\K x:=by
 cases o with
 | none=>exact h.elim
 | some x=>exact⟨x,rfl,h⟩
def OR (op:BinOp)(k:IntKind)(x y:Int)(K:D->Prop):Prop:=
 match op with
 | .quo=>y≠0/\K (.int k (k.wrap (x.tdiv y)))
 | .rem=>y≠0/\K (.int k (x.tmod y))
 | op=>AT K (F6 op k x y)
def Tx (op:BinOp)(x y:bA)(K:D->Prop):Prop:=
 match op with
 | .add=>((x.size+y.size:Nat):Int)<=9223372036854775807/\K (.str (x++y))
 | op=>AT K (Lj op x y)
def oL (op:BinOp)(K:D->Prop):D->D->Prop
 | .int k x,.int k' y=>
   match op with
   | .shl=>0<=y/\K (.int k (k.wrap (x*2 ^ (min y.toNat k.bits))))
   | .shr=>0<=y/\K (.int k (x.fdiv (2 ^ (min y.toNat k.bits))))
   | op=>Ae (k==k') (OR op k x y K) False
 | .str x,.str y=>Tx op x y K
 | _,_=>False
theorem Oj {op:BinOp}{k:IntKind}{x y:Int}{K:D->Prop}(h:OR op k x y K):∃d,F6 op k x y=some d/\K d:=by
 cases op<;>first
  | (obtain⟨h1,h2⟩:=h;exact⟨_,by simp[F6,h1],h2⟩)
  | exact Ai h
theorem Ph {op:BinOp}{x y:bA}{K:D->Prop}(h:Tx op x y K):∃d,Lj op x y=some d/\K d:=by
 cases op<;>first
  | (obtain⟨h1,h2⟩:=h;exact⟨_,by simp only[Lj,if_pos h1],h2⟩)
  | exact Ai h
theorem VE {op:BinOp}{K:D->Prop}{a b:D}(h:oL op K a b):∃d,M1 op a b=some d/\K d:=by
 cases a<;>cases b<;>try (exact h.elim)
 ·rename_i k x k' y;have gen:∀ {op:BinOp},Ae (k==k') (OR op k x y K) False->∃d,(if k=k' then F6 op k x y else none)=some d/\K d:=λh=>by
   rcases Ay h with⟨h1,h2⟩|⟨_,h2⟩
   ·rw[if_pos (by simpa using h1)];exact Oj h2
   ·exact h2.elim
  cases op<;>first
   | (obtain⟨h1,h2⟩:=h;exact⟨_,by simp only[M1];rw[if_neg (by omega)],h2⟩)
   | exact gen h
 ·exact Ph h
def OC (H:Heap)(K:Bool->Nat->List D->Prop)(x:AV):Prop:=
 match x with
 | .row id ver=>match H.get id with
   | some (.row _ nw v _ sz els)=>v=ver/\K nw sz els
   | _=>False
 | x=>AT (λp=>K p.1 p.2.1 p.2.2) (BC H x)
theorem Fm {H:Heap}{K:Bool->Nat->List D->Prop}{x:AV}(h:OC H K x):∃p,BC H x=some p/\K p.1 p.2.1 p.2.2:=by
 unfold OC at h;split at h
 ·split at h<;>try (exact h.elim)
  rename_i hg;obtain⟨rfl,h⟩:=h;exact⟨_,by simp[BC,hg];rfl,h⟩
 ·exact Ai h
def E6 (σ:Slots)(x:Option Operand)(dflt hi:Nat)(K:Nat->Prop):Prop:=
 match x with
 | none=>K dflt
 | some x=>AT (N4 λ_ i=>0<=i/\i<=hi/\K i.toNat) (ev σ x)
theorem C9 {σ:Slots}{x:Option Operand}{dflt hi:Nat}{K:Nat->Prop}(h:E6 σ x dflt hi K):∃n,Ct σ x dflt hi=some n/\K n:=by
 cases x with
 | none=>exact⟨_,rfl,h⟩
 | some x=>
  obtain⟨v,hv,h⟩:=Ai h;cases v<;>try (exact h.elim)
  rename_i d;cases d<;>try (exact h.elim)
  obtain⟨h1,h2,h3⟩:=h;exact⟨_,by simp only[Ct,hv];rw[if_pos ⟨h1,h2⟩],h3⟩
mutual
/-- What is handed on of a value. -/
def Gh (H:Heap):AV->(AV->Prop)->Prop
 | .n x,K=>K (.n x)
 | .o x,K=>K (.o x)
 | .row id ver,K=>match H.get id with
   | some (.row _ nw v _ sz els)=>v=ver/\K (sub nw (.sl sz els))
   | _=>False
 | .agg cs,K=>snapLQ H cs λl=>K (.agg l)
 | .tup vs,K=>snapLQ H vs λl=>K (.tup l)
 | .fn f cap,K=>snapLQ H cap λl=>K (.fn f l)
 | .ptr id off,K=>K (.ptr id off)
 | .nilp,K=>K .nilp
 | .elt ..,_=>False
 | .dat ..,_=>False
 | .undef,_=>False
def snapLQ (H:Heap):List AV->(List AV->Prop)->Prop
 | [],K=>K []
 | x::r,K=>Gh H x λy=>snapLQ H r λs=>K (y::s)
end
mutual
theorem C0 {H:Heap}:∀ {x:AV} {K:AV->Prop},Gh H x K->∃y,AN H x=some y/\K y
 | .n x,K,h=>⟨_,by simp[AN],h⟩
 | .o x,K,h=>⟨_,by simp[AN],h⟩
 | .row id ver,K,h=>by
  simp only[Gh]at h;split at h<;>try (exact h.elim)
  rename_i hg;obtain⟨rfl,h⟩:=h;exact⟨_,by simp[AN,hg],h⟩
 | .agg cs,K,h=>by simp only[Gh]at h;obtain⟨l,h1,h2⟩:=snapLQ_elim h;exact⟨_,by simp[AN,h1],h2⟩
 | .tup cs,K,h=>by simp only[Gh]at h;obtain⟨l,h1,h2⟩:=snapLQ_elim h;exact⟨_,by simp[AN,h1],h2⟩
 | .fn f cs,K,h=>by simp only[Gh]at h;obtain⟨l,h1,h2⟩:=snapLQ_elim h;exact⟨_,by simp[AN,h1],h2⟩
 | .ptr id off,K,h=>⟨_,by simp[AN],h⟩
 | .nilp,K,h=>⟨_,by simp[AN],h⟩
 | .elt ..,K,h=>h.elim
 | .dat ..,K,h=>h.elim
 | .undef,K,h=>h.elim
theorem snapLQ_elim {H:Heap}:∀ {x:List AV} {K:List AV->Prop},snapLQ H x K->∃y,snapL H x=some y/\K y
 | [],K,h=>⟨_,by simp[snapL],h⟩
 | x::r,K,h=>by simp only[snapLQ]at h;obtain⟨y,h1,h⟩:=C0 h;obtain⟨s,h2,h⟩:=snapLQ_elim h;exact⟨_,by simp[snapL,h1,h2],h⟩
end
def AV.exS (K:AV->Prop):AV->Prop
 | .n (.int k _)=>∃x:Int,K (.n (.int k x))
 | .n (.bool _)=>∃x:Bool,K (.n (.bool x))
 | .n (.str _)=>∃x:bA,K (.n (.str x))
 | .n (.sl sz _)=>∃x:List D,K (.n (.sl sz x))
 | .o (.sl sz _)=>∃x:List D,K (.o (.sl sz x))
 | .row id _=>∃x:Nat,K (.row id x)
 | x=>K x
def AV.exSL (K:List AV->Prop):List AV->Prop
 | []=>K []
 | x::r=>x.exS λy=>AV.exSL (λs=>K (y::s)) r
def Ob.exS (K:Ob->Prop):Ob->Prop
 | .box cs=>AV.exSL (λcs=>K (.box cs)) cs
 | .row fz nw _ e sz _=>∃(ver:Nat) (els:List D),K (.row fz nw ver e sz els)
def Heap.exS (K:Heap->Prop):Heap->Prop
 | []=>K []
 | (i,o)::r=>o.exS λo=>Heap.exS (λr=>K ((i,o)::r)) r
theorem AV.exS_elim {K:AV->Prop}{x:AV}(h:x.exS K):∃y,K y:=by unfold AV.exS at h;split at h<;>first|exact⟨_,h.choose_spec⟩|exact⟨_,h⟩
theorem AV.exSL_elim:∀ {l:List AV} {K:List AV->Prop},AV.exSL K l->∃y,K y
 | [],K,h=>⟨_,h⟩
 | x::r,K,h=>by obtain⟨y,h⟩:=AV.exS_elim h;obtain⟨s,h⟩:=AV.exSL_elim h;exact⟨_,h⟩
theorem Ob.exS_elim {K:Ob->Prop}{o:Ob}(h:o.exS K):∃y,K y:=by
 cases o with
 | box cs=>obtain⟨y,h⟩:=AV.exSL_elim h;exact⟨_,h⟩
 | row=>obtain⟨a,b,h⟩:=h;exact⟨_,h⟩
theorem Heap.exS_elim:∀ {H:Heap} {K:Heap->Prop},Heap.exS K H->∃y,K y
 | [],K,h=>⟨_,h⟩
 | (i,o)::r,K,h=>by obtain⟨o,h⟩:=Ob.exS_elim h;obtain⟨s,h⟩:=Heap.exS_elim h;exact⟨_,h⟩
def OV (σ:Slots)(hi:Option Operand)(len m:Nat)(K:Nat->Prop):Prop:=
 match hi with
 | none=>K len
 | some h=>E6 σ (some h) 0 m K
def asAgg (K:List AV->Prop):AV->Prop
 | .agg cs=>K cs
 | _=>False
def ZF (j:Int):List AV->Nat->(AV->Prop)->Prop
 | [],_,_=>False
 | c::r,n,K=>Ae (j==(n:Int)) (K c) (ZF j r (n+1) K)
theorem Ld {j:Int}{K:AV->Prop}:∀ {cs:List AV} {n:Nat},ZF j cs n K->∃k:Nat,j=(n+k:Nat)/\∃v,cs[k]?=some v/\K v
 | [],n,h=>h.elim
 | c::r,n,h=>by
  rcases Ay h with⟨h1,h⟩|⟨_,h⟩
  ·exact⟨0,by simpa using h1,c,rfl,h⟩
  ·obtain⟨k,hk,v,hv,h⟩:=Ld h;exact⟨k+1,by rw[hk];congr 1;omega,v,by simpa using hv,h⟩
def op1 (sh:Sh)(σ:Slots)(H:Heap)(K:AV->Heap->Prop)(o:Opn):Prop:=
 match o with
 | .bin op x y=>AT (λa=>AT (λb=>asD (λa=>asD (λb=>oL op (λd=>K (.n d) H) a b) b) a) (ev σ y)) (ev σ x)
 | .ld x size=>AT (λa=>match a with
    | .elt id v s i o=>AT (λob=>match ob with
      | .row _ nw v' _ sz els=>(v=v'/\s=sz)/\(∃el,els[i]?=some el/\match size with
         | none=>(gV sh).exD nw λd w=>el.cells[o]?=some d/\K w H
         | some n=>Lf.exDL nw (λds ws=>(el.cells.drop o).take n=ds/\o+n<=el.cells.length/\K (.agg ws) H) (Ra n sh))
      | _=>False) (H.get id)
    | .dat nw cs=>(match size with
      | none=>(gV sh).exD nw λd w=>cs[0]?=some d/\K w H
      | some n=>Lf.exDL nw (λds ws=>cs.take n=ds/\n<=cs.length/\K (.agg ws) H) (Ra n sh))
    | _=>mV K (Ac Js σ H (.ld x size))) (ev σ x)
 | .st x y size=>AT (λa=>match a with
    | .elt id ver s i o=>AT (λv=>AT (λob=>match ob with
      | .row false nw vr e sz els=>Ae (Nat.beq o 0&&Nat.beq sz size)
         ((((ver=vr/\o=0)/\sz=size)/\s=sz)/\i<els.length/\Gh H v λv'=>AT (λp=>K (.n .any) ((H.freeze (Ak v)).ins id (.row false (nw&&p.1) vr e sz (els.set i p.2)))) (Vf sz v'))
         (((ver=vr/\o+size<=sz)/\s=sz)/\∃el,els[i]?=some el/\Gh H v λv'=>AT (λp=>K (.n .any) ((H.freeze (Ak v)).ins id (.row false (nw&&p.1) vr e sz (els.set i (.rcd (QU el.cells o p.2.cells)))))) (Vf size v'))
      | _=>False) ((H.freeze (Ak v)).get id)) (ev σ y)
    | _=>mV K (Ac Js σ H (.st x y size))) (ev σ x)
 | .idxA x i sz=>AT (λa=>AT (N4 λ_ j=>match a with
    | .row id ver=>AT (λob=>match ob with
      | .row _ _ v _ s els=>(v=ver/\s=sz)/\0<=j/\j<els.length/\K (.elt id ver sz j.toNat 0) H
      | _=>False) (H.get id)
    | a=>OC H (λnw s els=>s=sz/\0<=j/\∃d,els[j.toNat]?=some d/\K (.dat nw d.cells) H) a) (ev σ i)) (ev σ x)
 | .idx x i=>AT (Ul λs=>AT (N4 λ_ j=>0<=j/\∃b,s.data.toList[j.toNat]?=some b/\K (.n (.int .u8 (b.toNat:Int))) H) (ev σ i)) (ev σ x)
 | .idxG x i n=>AT (asAgg λcs=>AT (N4 λ_ j=>0<=j/\j<n/\ZF j cs 0 λv=>K v H) (ev σ i)) (ev σ x)
 | .scut x lo hi=>AT (Ul λs=>E6 σ hi s.size s.size λh=>E6 σ lo 0 h λl=>K (.n (.str (s.extract l h))) H) (ev σ x)
 | .cut x lo hi mx sz=>AT (λa=>match a with
    | .n .nil=>mV K (Ac Js σ H (.cut x lo hi mx sz))
    | a=>OC H (λnw s els=>s=sz/\E6 σ mx els.length els.length λm=>OV σ hi els.length m λh=>E6 σ lo 0 h λl=>K (sub nw (.sl sz ((els.take h).drop l))) (H.freeze (Ak a))) a) (ev σ x)
 | .mk id e zero bytes n=>Ae (H.get id).isSome False (AT (N4 λ_ k=>0<=k/\k.toNat*bytes<=140737488355328/\K (.row id 0) (H.ins id (.row false true 0 e zero.cells.length (List.replicate k.toNat zero)))) (ev σ n))
 | .app id e sz bytes x y=>AT (λx=>AT (λy=>OC H (λb s ys=>(s=sz\/ys=[])/\(match x with
    | .n .nil=>Ae (H.get id).isSome False (ys.length*bytes<=140737488355328/\K (.row id 0) ((H.freeze (Ak y)).ins id (.row false b 0 e sz ys)))
    | .row i ver=>AT (λob=>match ob with
      | .row false nw v e' s els=>((v=ver/\e'=e)/\s=sz)/\(els.length+ys.length)*bytes<=140737488355328/\K (.row i (ver+1)) ((H.freeze (Ak y)).ins i (.row false (nw&&b) (ver+1) e sz (els++ys)))
      | _=>False) ((H.freeze (Ak y)).get i)
    | _=>False)) y) (ev σ y)) (ev σ x)
 | .apps id e x y=>AT (λx=>AT (Ul λs=>match x with
    | .n .nil=>Ae (H.get id).isSome False (s.size<=140737488355328/\K (.row id 0) (H.ins id (.row false true 0 e 1 (bytesD s))))
    | .row i ver=>AT (λob=>match ob with
      | .row false nw v e' z els=>((v=ver/\e'=e)/\z=1)/\els.length+s.size<=140737488355328/\K (.row i (ver+1)) (H.ins i (.row false nw (ver+1) e 1 (els++bytesD s)))
      | _=>False) (H.get i)
    | _=>False) (ev σ y)) (ev σ x)
 | .pick c a b=>AT (asBool λt=>AT (λx=>AT (λy=>Ae t (K (Tg true x y) H) (K (Tg false x y) H)) (ev σ b)) (ev σ a)) (ev σ c)
 | .len x=>AT (OC H λ_ _ els=>K (.n (.int .i64 els.length)) H) (ev σ x)
 | .b2s x=>AT (OC H λ_ s els=>(s=1\/els=[])/\els.all D.isU8=true/\K (.n (.str ⟨(els.map byteOf).toArray⟩)) H) (ev σ x)
 | o=>mV K (Ac Js σ H o)
theorem IC {K:AV->Heap->Prop}{e:Option (AV×Heap)}(h:mV K e):∃v H',e=some (v,H')/\K v H':=by
 cases e with
 | none=>exact h.elim
 | some p=>exact⟨p.1,p.2,rfl,h⟩
theorem WE {sh:Sh}{σ:Slots}{H:Heap}{K:AV->Heap->Prop}{o:Opn}(h:op1 sh σ H K o):∃v H',Ac Js σ H o=some (v,H')/\K v H':=by
 cases o
 case bin op x y=>
  obtain⟨a,ha,h⟩:=Ai h
  obtain⟨b,hb,h⟩:=Ai h
  cases a<;>try (exact h.elim)
  cases b<;>try (exact h.elim)
  have h':oL op (λd=>K (.n d) H) _ _:=h
  obtain⟨d,hd,h⟩:=VE h'
  exact⟨_,_,by simp only[Ac,ha,hb,hd],h⟩
 case ld x size=>
  obtain⟨a,ha,h⟩:=Ai h
  cases a<;>try (exact IC h)
  ·rename_i id v s i o
   obtain⟨ob,hob,h⟩:=Ai h
   cases ob<;>try (exact h.elim)
   rename_i fz nw v' e sz els
   obtain⟨h1,el,hel,h⟩:=h
   cases size with
   | none=>
    obtain⟨d,hd,h⟩:=Lf.exD_elim h
    exact⟨_,_,by simp only[Ac,ha,hob,hel,hd,h1];simp,h⟩
   | some n=>
    obtain⟨ds,hd,hle,h⟩:=Lf.exDL_elim h
    exact⟨_,_,by simp only[Ac,ha,hob,hel,h1,hle,hd];simp,h⟩
  ·rename_i nw cs
   cases size with
   | none=>
    obtain⟨d,hd,h⟩:=Lf.exD_elim h
    exact⟨_,_,by simp only[Ac,ha,hd],h⟩
   | some n=>
    obtain⟨ds,hd,hle,h⟩:=Lf.exDL_elim h
    exact⟨_,_,by simp only[Ac,ha,hle,hd];simp,h⟩
 case st x y size=>
  obtain⟨a,ha,h⟩:=Ai h
  cases a<;>try (exact IC h)
  rename_i id v s i o
  obtain⟨w,hw,h⟩:=Ai h
  obtain⟨ob,hob,h⟩:=Ai h
  cases ob<;>try (exact h.elim)
  rename_i fz nw v' e sz els
  cases fz<;>try (exact h.elim)
  rcases Ay h with⟨hb,h⟩|⟨hb,h⟩
  ·obtain⟨h1,hi,h⟩:=h
   obtain⟨v',hv',h⟩:=C0 h
   obtain⟨p,hp,h⟩:=Ai h
   obtain⟨⟨⟨e1,e2⟩,e3⟩,e4⟩:=h1
   refine⟨_,_,?_,h⟩
   simp only[Ac,ha,hw,hob]
   rw[if_pos (by simp[e1,e2,e3,e4]),gI hi]
   subst e2 e3
   simp only[hv',hp,Ka,hb]
  ·obtain⟨h1,el,hi,h⟩:=h
   obtain⟨v',hv',h⟩:=C0 h
   obtain⟨p,hp,h⟩:=Ai h
   obtain⟨⟨e1,e2⟩,e4⟩:=h1
   refine⟨_,_,?_,h⟩
   simp only[Ac,ha,hw,hob]
   rw[if_pos (by simp[e1,e2,e4]),hi]
   simp only[hv',hp,Ka,hb]
 case idxA x i sz=>
  obtain⟨a,ha,h⟩:=Ai h
  obtain⟨j,hj,h⟩:=Ai h
  cases j<;>try (exact h.elim)
  rename_i d
  cases d<;>try (exact h.elim)
  rename_i k j
  have gen:OC H (λnw s els=>s=sz/\0<=j/\∃d,els[j.toNat]?=some d/\K (.dat nw d.cells) H) a->(∀id ver,a≠.row id ver)->∃v H',Ac Js σ H (.idxA x i sz)=some (v,H')/\K v H':=λh hr=>by obtain⟨p,hp,hs,h0,d,hd,h⟩:=Fm h;refine⟨_,_,?_,h⟩;cases a<;>first|exact absurd rfl (hr _ _)|(simp only[Ac,ha,hj,hp,hs,h0,hd];simp)
  cases a<;>try (exact gen h (by simp))
  obtain⟨ob,hob,h⟩:=Ai h
  cases ob<;>try (exact h.elim)
  obtain⟨h1,h2,h3,h⟩:=h
  exact⟨_,_,by simp only[Ac,ha,hj,hob,h1,h2,h3];simp,h⟩
 case idx x i=>
  obtain⟨a,ha,h⟩:=Ai h
  cases a<;>try (exact h.elim)
  rename_i d
  cases d<;>try (exact h.elim)
  obtain⟨j,hj,h⟩:=Ai h
  cases j<;>try (exact h.elim)
  rename_i d
  cases d<;>try (exact h.elim)
  obtain⟨h0,b,hb,h⟩:=h
  exact⟨_,_,by simp only[Ac,ha,hj,h0,hb];simp,h⟩
 case idxG x i n=>
  obtain⟨a,ha,h⟩:=Ai h
  cases a<;>try (exact h.elim)
  obtain⟨j,hj,h⟩:=Ai h
  cases j<;>try (exact h.elim)
  rename_i d
  cases d<;>try (exact h.elim)
  obtain⟨h0,h1,h⟩:=h
  obtain⟨k,rfl,v,hv,h⟩:=Ld h
  refine⟨_,_,?_,h⟩
  simp only[Ac,ha,hj]
  rw[if_pos ⟨h0,h1⟩,show(((0+k:Nat):Int)).toNat=k by omega,hv]
 case scut x lo hi=>
  obtain⟨a,ha,h⟩:=Ai h
  cases a<;>try (exact h.elim)
  rename_i d
  cases d<;>try (exact h.elim)
  rename_i s
  have h':E6 σ hi s.size s.size (λh=>E6 σ lo 0 h λl=>K (.n (.str (s.extract l h))) H):=h
  obtain⟨n,hn,h⟩:=C9 h'
  obtain⟨l,hl,h⟩:=C9 h
  exact⟨_,_,by simp only[Ac,ha,hn,hl],h⟩
 case cut x lo hi mx sz=>
  obtain⟨a,ha,h⟩:=Ai h
  have gen:OC H (λnw s els=>s=sz/\E6 σ mx els.length els.length λm=>OV σ hi els.length m λh=>E6 σ lo 0 h λl=>K (sub nw (.sl sz ((els.take h).drop l))) (H.freeze (Ak a))) a ->
      ∃nw els m u l,BC H a=some (nw,sz,els)/\Ct σ mx els.length els.length=some m/\(hi=none->u=els.length)/\(hi≠none->Ct σ hi 0 m=some u)/\Ct σ lo 0 u=some l/\K (sub nw (.sl sz ((els.take u).drop l))) (H.freeze (Ak a)):=λh=>by
    obtain⟨⟨nw,s,els⟩,hp,hs,h⟩:=Fm h
    dsimp only at hs h
    subst hs
    obtain⟨m,hm,h⟩:=C9 h
    cases hi with
    | none=>
     simp only[OV]at h
     obtain⟨l,hl,h⟩:=C9 h
     exact⟨nw,els,m,_,l,hp,hm,λ_=>rfl,λh=>absurd rfl h,hl,h⟩
    | some y=>
     simp only[OV]at h
     obtain⟨u,hu,h⟩:=C9 h
     obtain⟨l,hl,h⟩:=C9 h
     exact⟨nw,els,m,u,l,hp,hm,λh=>(by cases h),λ_=>hu,hl,h⟩
  cases a
  case n d=>
   cases d
   case nil=>exact IC h
   all_goals
     obtain⟨nw,els,m,u,l,h1,h2,h3,h4,h5,h6⟩:=gen h
     refine⟨_,_,?_,h6⟩
     cases hi
     ·obtain rfl:=h3 rfl
      simp[Ac,ha,h1,h2,h5]
     ·simp[Ac,ha,h1,h2,h4 (by simp),h5]
  all_goals
    obtain⟨nw,els,m,u,l,h1,h2,h3,h4,h5,h6⟩:=gen h
    refine⟨_,_,?_,h6⟩
    cases hi
    ·obtain rfl:=h3 rfl
     simp[Ac,ha,h1,h2,h5]
    ·simp[Ac,ha,h1,h2,h4 (by simp),h5]
 case mk id e zero bytes n=>
  rcases Ay h with⟨_,h⟩|⟨h1,h⟩
  ·exact h.elim
  ·obtain⟨a,ha,h⟩:=Ai h
   cases a<;>try (exact h.elim)
   rename_i d
   cases d<;>try (exact h.elim)
   obtain⟨h2,h3,h⟩:=h
   exact⟨_,_,by simp only[Ac,ha,h1,h2,h3];simp,h⟩
 case app id e sz bytes x y=>
  obtain⟨a,ha,h1⟩:=Ai h
  obtain⟨b,hb,h2⟩:=Ai h1
  obtain⟨⟨pb,ps,pys⟩,hp,hsz,h3⟩:=Fm h2
  clear h h1 h2
  have h:=h3
  clear h3
  have hsz':(ps=sz||pys.isEmpty)=true:=by rcases hsz with h|h<;>simp at h<;>simp[h]
  clear hsz
  dsimp only at h
  cases a<;>try (exact h.elim)
  ·rename_i d
   cases d<;>try (exact h.elim)
   rcases Ay h with⟨_,h⟩|⟨h1,h2,h⟩
   ·exact h.elim
   ·exact⟨_,_,by simp only[Ac,ha,hb,hp,hsz',h1];simp[h2],h⟩
  ·obtain⟨ob,hob,h⟩:=Ai h
   cases ob<;>try (exact h.elim)
   rename_i fz nw v e' s els
   cases fz<;>try (exact h.elim)
   obtain⟨h1,h2,h⟩:=h
   exact⟨_,_,by simp only[Ac,ha,hb,hp,hsz',hob,h1];simp[h2],h⟩
 case apps id e x y=>
  obtain⟨a,ha,h1⟩:=Ai h
  obtain⟨b,hb,h2⟩:=Ai h1
  clear h h1
  cases b<;>try (exact h2.elim)
  rename_i d
  cases d<;>try (exact h2.elim)
  rename_i s
  cases a<;>try (exact h2.elim)
  ·rename_i d
   cases d<;>try (exact h2.elim)
   rcases Ay h2 with⟨_,h⟩|⟨h1,h3,h⟩
   ·exact h.elim
   ·exact⟨_,_,by simp only[Ac,ha,hb,h1];simp[h3],h⟩
  ·obtain⟨ob,hob,h⟩:=Ai h2
   clear h2
   cases ob<;>try (exact h.elim)
   rename_i fz nw v e' z els
   cases fz<;>try (exact h.elim)
   obtain⟨h1,h2,h⟩:=h
   exact⟨_,_,by simp only[Ac,ha,hb,hob,h1];simp[h2],h⟩
 case pick c a b=>
  obtain⟨t,ht,h⟩:=Ai h
  cases t<;>try (exact h.elim)
  rename_i d
  cases d<;>try (exact h.elim)
  obtain⟨x,hx,h⟩:=Ai h
  obtain⟨y,hy,h⟩:=Ai h
  rcases Ay h with⟨rfl,h⟩|⟨rfl,h⟩<;>exact⟨_,_,by simp only[Ac,ht,hx,hy],h⟩
 case len x=>
  obtain⟨a,ha,h⟩:=Ai h
  obtain⟨p,hp,h⟩:=Fm h
  exact⟨_,_,by simp only[Ac,ha,hp],h⟩
 case b2s x=>
  obtain⟨a,ha,h⟩:=Ai h
  obtain⟨p,hp,hs,hu,h⟩:=Fm h
  obtain⟨pb,ps,pys⟩:=p
  have hs':(ps=1||pys.isEmpty)=true:=by rcases hs with h|h<;>simp at h<;>simp[h]
  exact⟨_,_,by simp only[Ac,ha,hp,hs',hu];simp,h⟩
 all_goals exact IC h
end Go.Mir
