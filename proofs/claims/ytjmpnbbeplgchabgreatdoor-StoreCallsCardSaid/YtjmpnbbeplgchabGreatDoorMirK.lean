import Derived.Test.YtjmpnbbeplgchabGreatDoorMirQ
namespace Go.Mir
set_option linter.unusedVariables false
set_option linter.unusedSimpArgs false
def Runs (Fs:Nat->Option Fun)(f:Nat)(as:List AV)(H:Heap)(r:AV)(H':Heap):Prop:=∃k0,∀k,k0<=k->run Fs k f as H=some (r,H')
def Jr:Am:=λ_ _ _=>none
def mO (K:AV->Heap->Prop):Option (AV×Heap)->Prop
 | some (v,H)=>K v H
 | none=>False
def Fi (σ:Slots):Option Nat->AV->Slots
 | some d,v=>σ.put d v
 | none,_=>σ
abbrev MJ:=Ex->Slots->Heap->Prop
def iI (W:Slots->Heap->Prop)(Q:MJ):MJ
 | .norm,σ,H=>W σ H
 | e,σ,H=>Q e σ H
def YL (id:Nat)(Q:MJ):MJ
 | .exit i,σ,H=>if i=id then Q .norm σ H else Q (.exit i) σ H
 | e,σ,H=>Q e σ H
def isS (W:Slots->Heap->Prop):Option (Slots×Heap)->Prop
 | some (σ,H)=>W σ H
 | none=>False
def Ae (b:Bool)(A B:Prop):Prop:=@Bool.rec (λ_=>Prop) B A b
theorem Aa {b:Bool}{A B:Prop}(h1:b=true->A)(h2:b=false->B):Ae b A B:=by
 cases b;·exact h2 rfl
 ·exact h1 rfl
theorem Ab {p:Prop}[Decidable p]{A B:Prop}(h1:p->A)(h2:¬p->B):Ae (decide p) A B:=Aa (λh=>h1 (of_decide_eq_true h)) (λh=>h2 (of_decide_eq_false h))
theorem Aw {b:Bool}{A B:Prop}(h:Ae b A B):(b=true/\A)\/(b=false/\B):=by
 cases b;·exact .inr ⟨rfl,h⟩
 ·exact .inl ⟨rfl,h⟩
def Lf.T:Lf->Type
 | .row _=>Nat
 | .nil=>Unit
 | .nilp=>Unit
 | .ptr _ _=>Unit
 | .sln _=>List D
 | .slo _=>List D
 | .int _=>Int
 | .bool=>Bool
 | .str=>bA
 | .raw=>AV
def Lf.v:(l:Lf)->l.T->AV
 | .row id,x => .row id x
 | .nil,_ => .n .nil
 | .nilp,_ => .nilp
 | .ptr id off,_ => .ptr id off
 | .sln sz,x => .n (.sl sz x)
 | .slo sz,x => .o (.sl sz x)
 | .int k,x => .n (.int k x)
 | .bool,x => .n (.bool x)
 | .str,x => .n (.str x)
 | .raw,x=>x
def Lf.ex (K:AV->Prop):Lf->Prop
 | .row id=>∃x:Nat,K (.row id x)
 | .nil=>∃x:Unit,(λ_=>K (.n .nil)) x
 | .nilp=>∃x:Unit,(λ_=>K .nilp) x
 | .ptr id off=>∃x:Unit,(λ_=>K (.ptr id off)) x
 | .sln sz=>∃x:List D,K (.n (.sl sz x))
 | .slo sz=>∃x:List D,K (.o (.sl sz x))
 | .int k=>∃x:Int,K (.n (.int k x))
 | .bool=>∃x:Bool,K (.n (.bool x))
 | .str=>∃x:bA,K (.n (.str x))
 | .raw=>∃x:AV,K x
def Lf.exL (K:List AV->Prop):List Lf->Prop
 | []=>K []
 | l::r=>l.ex λv=>Lf.exL (λvs=>K (v::vs)) r
def S1.ex (K:AV->Prop):S1->Prop
 | .one l=>l.ex K
 | .agg ls=>Lf.exL (λvs=>K (.agg vs)) ls
def S1.exL (K:List AV->Prop):List S1->Prop
 | []=>K []
 | l::r=>l.ex λv=>S1.exL (λvs=>K (v::vs)) r
def Sh.ex (K:AV->Prop):Sh->Prop
 | .val s=>s.ex K
 | .tup l=>S1.exL (λvs=>K (.tup vs)) l
theorem Lf.ex_elim {K:AV->Prop}{l:Lf}(h:l.ex K):∃v,K v:=by cases l<;>exact⟨_,h.choose_spec⟩
theorem Lf.exL_elim:∀ {l:List Lf} {K:List AV->Prop},Lf.exL K l->∃v,K v
 | [],K,h=>⟨_,h⟩
 | l::r,K,h=>by obtain⟨v,h⟩:=Lf.ex_elim h;obtain⟨vs,h⟩:=Lf.exL_elim h;exact⟨_,h⟩
theorem S1.ex_elim {K:AV->Prop}{l:S1}(h:l.ex K):∃v,K v:=by
 cases l with
 | one l=>exact Lf.ex_elim h
 | agg ls=>obtain⟨v,h⟩:=Lf.exL_elim h;exact⟨_,h⟩
theorem S1.exL_elim:∀ {l:List S1} {K:List AV->Prop},S1.exL K l->∃v,K v
 | [],K,h=>⟨_,h⟩
 | l::r,K,h=>by obtain⟨v,h⟩:=S1.ex_elim h;obtain⟨vs,h⟩:=S1.exL_elim h;exact⟨_,h⟩
theorem Sh.ex_elim {K:AV->Prop}{l:Sh}(h:l.ex K):∃v,K v:=by
 cases l with
 | val l=>exact S1.ex_elim h
 | tup ls=>obtain⟨v,h⟩:=S1.exL_elim h;exact⟨_,h⟩
def Lf.exD (nw:Bool)(K:D->AV->Prop):Lf->Prop
 | .row _=>∃x:D,K x (sub nw x)
 | .nil=>∃x:D,K x (sub nw x)
 | .nilp=>∃x:D,K x (sub nw x)
 | .ptr _ _=>∃x:D,K x (sub nw x)
 | .sln sz=>∃x:List D,K (.sl sz x) (sub nw (.sl sz x))
 | .slo sz=>∃x:List D,K (.sl sz x) (sub nw (.sl sz x))
 | .int k=>∃x:Int,K (.int k x) (.n (.int k x))
 | .bool=>∃x:Bool,K (.bool x) (.n (.bool x))
 | .str=>∃x:bA,K (.str x) (.n (.str x))
 | .raw=>∃x:D,K x (sub nw x)
def Lf.exDL (nw:Bool)(K:List D->List AV->Prop):List Lf->Prop
 | []=>K [] []
 | l::r=>l.exD nw λd v=>Lf.exDL nw (λds vs=>K (d::ds) (v::vs)) r
theorem Lf.exD_elim {nw:Bool}{K:D->AV->Prop}{l:Lf}(h:l.exD nw K):∃d,K d (sub nw d):=by cases l<;>obtain⟨x,h⟩:=h<;>first|exact⟨_,h⟩|exact⟨_,by cases nw<;>exact h⟩
theorem Lf.exDL_elim {nw:Bool}:∀ {l:List Lf} {K:List D->List AV->Prop},Lf.exDL nw K l->∃ds,K ds (ds.map (sub nw))
 | [],K,h=>⟨[],h⟩
 | l::r,K,h=>by obtain⟨d,h⟩:=Lf.exD_elim h;obtain⟨ds,h⟩:=Lf.exDL_elim h;exact⟨d::ds,h⟩
def iF:Sh->Lf
 | .val (.one l)=>l
 | _ => .raw
def QK (n:Nat):Sh->List Lf
 | .val (.agg ls)=>ls
 | _=>List.replicate n .raw
def No (K:IntKind->Int->Prop):AV->Prop
 | .n (.int k x)=>K k x
 | _=>False
def asBool (K:Bool->Prop):AV->Prop
 | .n (.bool b)=>K b
 | _=>False
def TZ (K:bA->Prop):AV->Prop
 | .n (.str s)=>K s
 | _=>False
def asD (K:D->Prop):AV->Prop
 | .n d=>K d
 | _=>False
def AY {α:Type}(K:α->Prop):Option α->Prop
 | some x=>K x
 | none=>False
theorem Ai {α:Type}{K:α->Prop}{o:Option α}(h:AY K o):∃x,o=some x/\K x:=by
 cases o with
 | none=>exact h.elim
 | some x=>exact⟨x,rfl,h⟩
def Of (op:BinOp)(k:IntKind)(x y:Int)(K:D->Prop):Prop:=
 match op with
 | .quo=>y≠0/\K (.int k (k.wrap (x.tdiv y)))
 | .rem=>y≠0/\K (.int k (x.tmod y))
 | op=>AY K (FQ op k x y)
def TL (op:BinOp)(x y:bA)(K:D->Prop):Prop:=
 match op with
 | .add=>((x.size+y.size:Nat):Int)<=9223372036854775807/\K (.str (x++y))
 | op=>AY K (Lw op x y)
def rL (op:BinOp)(K:D->Prop):D->D->Prop
 | .int k x,.int k' y=>
   match op with
   | .shl=>0<=y/\K (.int k (k.wrap (x*2 ^ (min y.toNat k.bits))))
   | .shr=>0<=y/\K (.int k (x.fdiv (2 ^ (min y.toNat k.bits))))
   | op=>Ae (k==k') (Of op k x y K) False
 | .str x,.str y=>TL op x y K
 | _,_=>False
theorem O6 {op:BinOp}{k:IntKind}{x y:Int}{K:D->Prop}(h:Of op k x y K):∃d,FQ op k x y=some d/\K d:=by
 cases op<;>first
  | (obtain⟨h1,h2⟩:=h;exact⟨_,by simp[FQ,h1],h2⟩)
  | exact Ai h
theorem Ox {op:BinOp}{x y:bA}{K:D->Prop}(h:TL op x y K):∃d,Lw op x y=some d/\K d:=by
 cases op<;>first
  | (obtain⟨h1,h2⟩:=h;exact⟨_,by simp only[Lw,if_pos h1],h2⟩)
  | exact Ai h
theorem Vg {op:BinOp}{K:D->Prop}{a b:D}(h:rL op K a b):∃d,MY op a b=some d/\K d:=by
 cases a<;>cases b<;>try (exact h.elim)
 ·rename_i k x k' y;have gen:∀ {op:BinOp},Ae (k==k') (Of op k x y K) False->∃d,(if k=k' then FQ op k x y else none)=some d/\K d:=λh=>by
   rcases Aw h with⟨h1,h2⟩|⟨_,h2⟩
   ·rw[if_pos (by simpa using h1)];exact O6 h2
   ·exact h2.elim
  cases op<;>first
   | (obtain⟨h1,h2⟩:=h;exact⟨_,by simp only[MY];rw[if_neg (by omega)],h2⟩)
   | exact gen h
 ·exact Ox h
def Pl (H:Heap)(K:Bool->Nat->List D->Prop)(x:AV):Prop:=
 match x with
 | .row id ver=>match H.get id with
   | some (.row _ nw v _ sz els)=>v=ver/\K nw sz els
   | _=>False
 | x=>AY (λp=>K p.1 p.2.1 p.2.2) (BE H x)
theorem Fl {H:Heap}{K:Bool->Nat->List D->Prop}{x:AV}(h:Pl H K x):∃p,BE H x=some p/\K p.1 p.2.1 p.2.2:=by
 unfold Pl at h;split at h
 ·split at h<;>try (exact h.elim)
  rename_i hg;obtain⟨rfl,h⟩:=h;exact⟨_,by simp[BE,hg];rfl,h⟩
 ·exact Ai h
def EZ (σ:Slots)(x:Option Operand)(dflt hi:Nat)(K:Nat->Prop):Prop:=
 match x with
 | none=>K dflt
 | some x=>AY (No λ_ i=>0<=i/\i<=hi/\K i.toNat) (ev σ x)
theorem Db {σ:Slots}{x:Option Operand}{dflt hi:Nat}{K:Nat->Prop}(h:EZ σ x dflt hi K):∃n,Cv σ x dflt hi=some n/\K n:=by
 cases x with
 | none=>exact⟨_,rfl,h⟩
 | some x=>
  obtain⟨v,hv,h⟩:=Ai h;cases v<;>try (exact h.elim)
  rename_i d;cases d<;>try (exact h.elim)
  obtain⟨h1,h2,h3⟩:=h;exact⟨_,by simp only[Cv,hv];rw[if_pos ⟨h1,h2⟩],h3⟩
mutual
/-- What is handed on of a value. -/
def F2 (H:Heap):AV->(AV->Prop)->Prop
 | .n x,K=>K (.n x)
 | .o x,K=>K (.o x)
 | .row id ver,K=>match H.get id with
   | some (.row _ nw v _ sz els)=>v=ver/\K (sub nw (.sl sz els))
   | _=>False
 | .agg cs,K=>snapLQ H cs λl=>K (.agg l)
 | .tup vs,K=>snapLQ H vs λl=>K (.tup l)
 | .fn f cap,K=>snapLQ H cap λl=>K (.fn f l)
 | .ptr id off,K=>K (.ptr id off)
 | .nilp,K=>K .nilp
 | .elt ..,_=>False
 | .dat ..,_=>False
 | .undef,_=>False
def snapLQ (H:Heap):List AV->(List AV->Prop)->Prop
 | [],K=>K []
 | x::r,K=>F2 H x λy=>snapLQ H r λs=>K (y::s)
end
mutual
theorem C4 {H:Heap}:∀ {x:AV} {K:AV->Prop},F2 H x K->∃y,AO H x=some y/\K y
 | .n x,K,h=>⟨_,by simp[AO],h⟩
 | .o x,K,h=>⟨_,by simp[AO],h⟩
 | .row id ver,K,h=>by
  simp only[F2]at h;split at h<;>try (exact h.elim)
  rename_i hg;obtain⟨rfl,h⟩:=h;exact⟨_,by simp[AO,hg],h⟩
 | .agg cs,K,h=>by simp only[F2]at h;obtain⟨l,h1,h2⟩:=snapLQ_elim h;exact⟨_,by simp[AO,h1],h2⟩
 | .tup cs,K,h=>by simp only[F2]at h;obtain⟨l,h1,h2⟩:=snapLQ_elim h;exact⟨_,by simp[AO,h1],h2⟩
 | .fn f cs,K,h=>by simp only[F2]at h;obtain⟨l,h1,h2⟩:=snapLQ_elim h;exact⟨_,by simp[AO,h1],h2⟩
 | .ptr id off,K,h=>⟨_,by simp[AO],h⟩
 | .nilp,K,h=>⟨_,by simp[AO],h⟩
 | .elt ..,K,h=>h.elim
 | .dat ..,K,h=>h.elim
 | .undef,K,h=>h.elim
theorem snapLQ_elim {H:Heap}:∀ {x:List AV} {K:List AV->Prop},snapLQ H x K->∃y,snapL H x=some y/\K y
 | [],K,h=>⟨_,by simp[snapL],h⟩
 | x::r,K,h=>by simp only[snapLQ]at h;obtain⟨y,h1,h⟩:=C4 h;obtain⟨s,h2,h⟩:=snapLQ_elim h;exact⟨_,by simp[snapL,h1,h2],h⟩
end
def AV.exS (K:AV->Prop):AV->Prop
 | .n (.int k _)=>∃x:Int,K (.n (.int k x))
 | .n (.bool _)=>∃x:Bool,K (.n (.bool x))
 | .n (.str _)=>∃x:bA,K (.n (.str x))
 | .n (.sl sz _)=>∃x:List D,K (.n (.sl sz x))
 | .o (.sl sz _)=>∃x:List D,K (.o (.sl sz x))
 | .row id _=>∃x:Nat,K (.row id x)
 | x=>K x
def AV.exSL (K:List AV->Prop):List AV->Prop
 | []=>K []
 | x::r=>x.exS λy=>AV.exSL (λs=>K (y::s)) r
def Ob.exS (K:Ob->Prop):Ob->Prop
 | .box cs=>AV.exSL (λcs=>K (.box cs)) cs
 | .row fz nw _ e sz _=>∃(ver:Nat) (els:List D),K (.row fz nw ver e sz els)
def Heap.exS (K:Heap->Prop):Heap->Prop
 | []=>K []
 | (i,o)::r=>o.exS λo=>Heap.exS (λr=>K ((i,o)::r)) r
theorem AV.exS_elim {K:AV->Prop}{x:AV}(h:x.exS K):∃y,K y:=by unfold AV.exS at h;split at h<;>first|exact⟨_,h.choose_spec⟩|exact⟨_,h⟩
theorem AV.exSL_elim:∀ {l:List AV} {K:List AV->Prop},AV.exSL K l->∃y,K y
 | [],K,h=>⟨_,h⟩
 | x::r,K,h=>by obtain⟨y,h⟩:=AV.exS_elim h;obtain⟨s,h⟩:=AV.exSL_elim h;exact⟨_,h⟩
theorem Ob.exS_elim {K:Ob->Prop}{o:Ob}(h:o.exS K):∃y,K y:=by
 cases o with
 | box cs=>obtain⟨y,h⟩:=AV.exSL_elim h;exact⟨_,h⟩
 | row=>obtain⟨a,b,h⟩:=h;exact⟨_,h⟩
theorem Heap.exS_elim:∀ {H:Heap} {K:Heap->Prop},Heap.exS K H->∃y,K y
 | [],K,h=>⟨_,h⟩
 | (i,o)::r,K,h=>by obtain⟨o,h⟩:=Ob.exS_elim h;obtain⟨s,h⟩:=Heap.exS_elim h;exact⟨_,h⟩
def OE (σ:Slots)(hi:Option Operand)(len m:Nat)(K:Nat->Prop):Prop:=
 match hi with
 | none=>K len
 | some h=>EZ σ (some h) 0 m K
def asAgg (K:List AV->Prop):AV->Prop
 | .agg cs=>K cs
 | _=>False
def YQ (j:Int):List AV->Nat->(AV->Prop)->Prop
 | [],_,_=>False
 | c::r,n,K=>Ae (j==(n:Int)) (K c) (YQ j r (n+1) K)
theorem Mv {j:Int}{K:AV->Prop}:∀ {cs:List AV} {n:Nat},YQ j cs n K->∃k:Nat,j=(n+k:Nat)/\∃v,cs[k]?=some v/\K v
 | [],n,h=>h.elim
 | c::r,n,h=>by
  rcases Aw h with⟨h1,h⟩|⟨_,h⟩
  ·exact⟨0,by simpa using h1,c,rfl,h⟩
  ·obtain⟨k,hk,v,hv,h⟩:=Mv h;exact⟨k+1,by rw[hk];congr 1;omega,v,by simpa using hv,h⟩
def op1 (sh:Sh)(σ:Slots)(H:Heap)(K:AV->Heap->Prop)(o:Opn):Prop:=
 match o with
 | .bin op x y=>AY (λa=>AY (λb=>asD (λa=>asD (λb=>rL op (λd=>K (.n d) H) a b) b) a) (ev σ y)) (ev σ x)
 | .ld x size=>AY (λa=>match a with
    | .elt id v s i o=>AY (λob=>match ob with
      | .row _ nw v' _ sz els=>(v=v'/\s=sz)/\(∃el,els[i]?=some el/\match size with
         | none=>(iF sh).exD nw λd w=>el.cells[o]?=some d/\K w H
         | some n=>Lf.exDL nw (λds ws=>(el.cells.drop o).take n=ds/\o+n<=el.cells.length/\K (.agg ws) H) (QK n sh))
      | _=>False) (H.get id)
    | .dat nw cs=>(match size with
      | none=>(iF sh).exD nw λd w=>cs[0]?=some d/\K w H
      | some n=>Lf.exDL nw (λds ws=>cs.take n=ds/\n<=cs.length/\K (.agg ws) H) (QK n sh))
    | _=>mO K (Ad Jr σ H (.ld x size))) (ev σ x)
 | .st x y size=>AY (λa=>match a with
    | .elt id ver s i o=>AY (λv=>AY (λob=>match ob with
      | .row false nw vr e sz els=>Ae (Nat.beq o 0&&Nat.beq sz size)
         ((((ver=vr/\o=0)/\sz=size)/\s=sz)/\i<els.length/\F2 H v λv'=>AY (λp=>K (.n .any) ((H.freeze (Ak v)).ins id (.row false (nw&&p.1) vr e sz (els.set i p.2)))) (U8 sz v'))
         (((ver=vr/\o+size<=sz)/\s=sz)/\∃el,els[i]?=some el/\F2 H v λv'=>AY (λp=>K (.n .any) ((H.freeze (Ak v)).ins id (.row false (nw&&p.1) vr e sz (els.set i (.rcd (Rp el.cells o p.2.cells)))))) (U8 size v'))
      | _=>False) ((H.freeze (Ak v)).get id)) (ev σ y)
    | _=>mO K (Ad Jr σ H (.st x y size))) (ev σ x)
 | .idxA x i sz=>AY (λa=>AY (No λ_ j=>match a with
    | .row id ver=>AY (λob=>match ob with
      | .row _ _ v _ s els=>(v=ver/\s=sz)/\0<=j/\j<els.length/\K (.elt id ver sz j.toNat 0) H
      | _=>False) (H.get id)
    | a=>Pl H (λnw s els=>s=sz/\0<=j/\∃d,els[j.toNat]?=some d/\K (.dat nw d.cells) H) a) (ev σ i)) (ev σ x)
 | .idx x i=>AY (TZ λs=>AY (No λ_ j=>0<=j/\∃b,s.data.toList[j.toNat]?=some b/\K (.n (.int .u8 (b.toNat:Int))) H) (ev σ i)) (ev σ x)
 | .idxG x i n=>AY (asAgg λcs=>AY (No λ_ j=>0<=j/\j<n/\YQ j cs 0 λv=>K v H) (ev σ i)) (ev σ x)
 | .scut x lo hi=>AY (TZ λs=>EZ σ hi s.size s.size λh=>EZ σ lo 0 h λl=>K (.n (.str (s.extract l h))) H) (ev σ x)
 | .cut x lo hi mx sz=>AY (λa=>match a with
    | .n .nil=>mO K (Ad Jr σ H (.cut x lo hi mx sz))
    | a=>Pl H (λnw s els=>s=sz/\EZ σ mx els.length els.length λm=>OE σ hi els.length m λh=>EZ σ lo 0 h λl=>K (sub nw (.sl sz ((els.take h).drop l))) (H.freeze (Ak a))) a) (ev σ x)
 | .mk id e zero bytes n=>Ae (H.get id).isSome False (AY (No λ_ k=>0<=k/\k.toNat*bytes<=140737488355328/\K (.row id 0) (H.ins id (.row false true 0 e zero.cells.length (List.replicate k.toNat zero)))) (ev σ n))
 | .app id e sz bytes x y=>AY (λx=>AY (λy=>Pl H (λb s ys=>(s=sz\/ys=[])/\(match x with
    | .n .nil=>Ae (H.get id).isSome False (ys.length*bytes<=140737488355328/\K (.row id 0) ((H.freeze (Ak y)).ins id (.row false b 0 e sz ys)))
    | .row i ver=>AY (λob=>match ob with
      | .row false nw v e' s els=>((v=ver/\e'=e)/\s=sz)/\(els.length+ys.length)*bytes<=140737488355328/\K (.row i (ver+1)) ((H.freeze (Ak y)).ins i (.row false (nw&&b) (ver+1) e sz (els++ys)))
      | _=>False) ((H.freeze (Ak y)).get i)
    | _=>False)) y) (ev σ y)) (ev σ x)
 | .apps id e x y=>AY (λx=>AY (TZ λs=>match x with
    | .n .nil=>Ae (H.get id).isSome False (s.size<=140737488355328/\K (.row id 0) (H.ins id (.row false true 0 e 1 (bytesD s))))
    | .row i ver=>AY (λob=>match ob with
      | .row false nw v e' z els=>((v=ver/\e'=e)/\z=1)/\els.length+s.size<=140737488355328/\K (.row i (ver+1)) (H.ins i (.row false nw (ver+1) e 1 (els++bytesD s)))
      | _=>False) (H.get i)
    | _=>False) (ev σ y)) (ev σ x)
 | .pick c a b=>AY (asBool λt=>AY (λx=>AY (λy=>Ae t (K (TB true x y) H) (K (TB false x y) H)) (ev σ b)) (ev σ a)) (ev σ c)
 | .len x=>AY (Pl H λ_ _ els=>K (.n (.int .i64 els.length)) H) (ev σ x)
 | .b2s x=>AY (Pl H λ_ s els=>(s=1\/els=[])/\els.all D.isU8=true/\K (.n (.str ⟨(els.map byteOf).toArray⟩)) H) (ev σ x)
 | o=>mO K (Ad Jr σ H o)
theorem II {K:AV->Heap->Prop}{e:Option (AV×Heap)}(h:mO K e):∃v H',e=some (v,H')/\K v H':=by
 cases e with
 | none=>exact h.elim
 | some p=>exact⟨p.1,p.2,rfl,h⟩
theorem Zr {sh:Sh}{σ:Slots}{H:Heap}{K:AV->Heap->Prop}{o:Opn}(h:op1 sh σ H K o):∃v H',Ad Jr σ H o=some (v,H')/\K v H':=by
 cases o
 case bin op x y=>
  obtain⟨a,ha,h⟩:=Ai h
  obtain⟨b,hb,h⟩:=Ai h
  cases a<;>try (exact h.elim)
  cases b<;>try (exact h.elim)
  have h':rL op (λd=>K (.n d) H) _ _:=h
  obtain⟨d,hd,h⟩:=Vg h'
  exact⟨_,_,by simp only[Ad,ha,hb,hd],h⟩
 case ld x size=>
  obtain⟨a,ha,h⟩:=Ai h
  cases a<;>try (exact II h)
  ·rename_i id v s i o
   obtain⟨ob,hob,h⟩:=Ai h
   cases ob<;>try (exact h.elim)
   rename_i fz nw v' e sz els
   obtain⟨h1,el,hel,h⟩:=h
   cases size with
   | none=>
    obtain⟨d,hd,h⟩:=Lf.exD_elim h
    exact⟨_,_,by simp only[Ad,ha,hob,hel,hd,h1];simp,h⟩
   | some n=>
    obtain⟨ds,hd,hle,h⟩:=Lf.exDL_elim h
    exact⟨_,_,by simp only[Ad,ha,hob,hel,h1,hle,hd];simp,h⟩
  ·rename_i nw cs
   cases size with
   | none=>
    obtain⟨d,hd,h⟩:=Lf.exD_elim h
    exact⟨_,_,by simp only[Ad,ha,hd],h⟩
   | some n=>
    obtain⟨ds,hd,hle,h⟩:=Lf.exDL_elim h
    exact⟨_,_,by simp only[Ad,ha,hle,hd];simp,h⟩
 case st x y size=>
  obtain⟨a,ha,h⟩:=Ai h
  cases a<;>try (exact II h)
  rename_i id v s i o
  obtain⟨w,hw,h⟩:=Ai h
  obtain⟨ob,hob,h⟩:=Ai h
  cases ob<;>try (exact h.elim)
  rename_i fz nw v' e sz els
  cases fz<;>try (exact h.elim)
  rcases Aw h with⟨hb,h⟩|⟨hb,h⟩
  ·obtain⟨h1,hi,h⟩:=h
   obtain⟨v',hv',h⟩:=C4 h
   obtain⟨p,hp,h⟩:=Ai h
   obtain⟨⟨⟨e1,e2⟩,e3⟩,e4⟩:=h1
   refine⟨_,_,?_,h⟩
   simp only[Ad,ha,hw,hob]
   rw[if_pos (by simp[e1,e2,e3,e4]),gI hi]
   subst e2 e3
   simp only[hv',hp,J2,hb]
  ·obtain⟨h1,el,hi,h⟩:=h
   obtain⟨v',hv',h⟩:=C4 h
   obtain⟨p,hp,h⟩:=Ai h
   obtain⟨⟨e1,e2⟩,e4⟩:=h1
   refine⟨_,_,?_,h⟩
   simp only[Ad,ha,hw,hob]
   rw[if_pos (by simp[e1,e2,e4]),hi]
   simp only[hv',hp,J2,hb]
 case idxA x i sz=>
  obtain⟨a,ha,h⟩:=Ai h
  obtain⟨j,hj,h⟩:=Ai h
  cases j<;>try (exact h.elim)
  rename_i d
  cases d<;>try (exact h.elim)
  rename_i k j
  have gen:Pl H (λnw s els=>s=sz/\0<=j/\∃d,els[j.toNat]?=some d/\K (.dat nw d.cells) H) a->(∀id ver,a≠.row id ver)->∃v H',Ad Jr σ H (.idxA x i sz)=some (v,H')/\K v H':=λh hr=>by obtain⟨p,hp,hs,h0,d,hd,h⟩:=Fl h;refine⟨_,_,?_,h⟩;cases a<;>first|exact absurd rfl (hr _ _)|(simp only[Ad,ha,hj,hp,hs,h0,hd];simp)
  cases a<;>try (exact gen h (by simp))
  obtain⟨ob,hob,h⟩:=Ai h
  cases ob<;>try (exact h.elim)
  obtain⟨h1,h2,h3,h⟩:=h
  exact⟨_,_,by simp only[Ad,ha,hj,hob,h1,h2,h3];simp,h⟩
 case idx x i=>
  obtain⟨a,ha,h⟩:=Ai h
  cases a<;>try (exact h.elim)
  rename_i d
  cases d<;>try (exact h.elim)
  obtain⟨j,hj,h⟩:=Ai h
  cases j<;>try (exact h.elim)
  rename_i d
  cases d<;>try (exact h.elim)
  obtain⟨h0,b,hb,h⟩:=h
  exact⟨_,_,by simp only[Ad,ha,hj,h0,hb];simp,h⟩
 case idxG x i n=>
  obtain⟨a,ha,h⟩:=Ai h
  cases a<;>try (exact h.elim)
  obtain⟨j,hj,h⟩:=Ai h
  cases j<;>try (exact h.elim)
  rename_i d
  cases d<;>try (exact h.elim)
  obtain⟨h0,h1,h⟩:=h
  obtain⟨k,rfl,v,hv,h⟩:=Mv h
  refine⟨_,_,?_,h⟩
  simp only[Ad,ha,hj]
  rw[if_pos ⟨h0,h1⟩,show(((0+k:Nat):Int)).toNat=k by omega,hv]
 case scut x lo hi=>
  obtain⟨a,ha,h⟩:=Ai h
  cases a<;>try (exact h.elim)
  rename_i d
  cases d<;>try (exact h.elim)
  rename_i s
  have h':EZ σ hi s.size s.size (λh=>EZ σ lo 0 h λl=>K (.n (.str (s.extract l h))) H):=h
  obtain⟨n,hn,h⟩:=Db h'
  obtain⟨l,hl,h⟩:=Db h
  exact⟨_,_,by simp only[Ad,ha,hn,hl],h⟩
 case cut x lo hi mx sz=>
  obtain⟨a,ha,h⟩:=Ai h
  have gen:Pl H (λnw s els=>s=sz/\EZ σ mx els.length els.length λm=>OE σ hi els.length m λh=>EZ σ lo 0 h λl=>K (sub nw (.sl sz ((els.take h).drop l))) (H.freeze (Ak a))) a ->
      ∃nw els m u l,BE H a=some (nw,sz,els)/\Cv σ mx els.length els.length=some m/\(hi=none->u=els.length)/\(hi≠none->Cv σ hi 0 m=some u)/\Cv σ lo 0 u=some l/\K (sub nw (.sl sz ((els.take u).drop l))) (H.freeze (Ak a)):=λh=>by
    obtain⟨⟨nw,s,els⟩,hp,hs,h⟩:=Fl h
    dsimp only at hs h
    subst hs
    obtain⟨m,hm,h⟩:=Db h
    cases hi with
    | none=>
     simp only[OE]at h
     obtain⟨l,hl,h⟩:=Db h
     exact⟨nw,els,m,_,l,hp,hm,λ_=>rfl,λh=>absurd rfl h,hl,h⟩
    | some y=>
     simp only[OE]at h
     obtain⟨u,hu,h⟩:=Db h
     obtain⟨l,hl,h⟩:=Db h
     exact⟨nw,els,m,u,l,hp,hm,λh=>(by cases h),λ_=>hu,hl,h⟩
  cases a
  case n d=>
   cases d
   case nil=>exact II h
   all_goals
     obtain⟨nw,els,m,u,l,h1,h2,h3,h4,h5,h6⟩:=gen h
     refine⟨_,_,?_,h6⟩
     cases hi
     ·obtain rfl:=h3 rfl
      simp[Ad,ha,h1,h2,h5]
     ·simp[Ad,ha,h1,h2,h4 (by simp),h5]
  all_goals
    obtain⟨nw,els,m,u,l,h1,h2,h3,h4,h5,h6⟩:=gen h
    refine⟨_,_,?_,h6⟩
    cases hi
    ·obtain rfl:=h3 rfl
     simp[Ad,ha,h1,h2,h5]
    ·simp[Ad,ha,h1,h2,h4 (by simp),h5]
 case mk id e zero bytes n=>
  rcases Aw h with⟨_,h⟩|⟨h1,h⟩
  ·exact h.elim
  ·obtain⟨a,ha,h⟩:=Ai h
   cases a<;>try (exact h.elim)
   rename_i d
   cases d<;>try (exact h.elim)
   obtain⟨h2,h3,h⟩:=h
   exact⟨_,_,by simp only[Ad,ha,h1,h2,h3];simp,h⟩
 case app id e sz bytes x y=>
  obtain⟨a,ha,h1⟩:=Ai h
  obtain⟨b,hb,h2⟩:=Ai h1
  obtain⟨⟨pb,ps,pys⟩,hp,hsz,h3⟩:=Fl h2
  clear h h1 h2
  have h:=h3
  clear h3
  have hsz':(ps=sz||pys.isEmpty)=true:=by rcases hsz with h|h<;>simp at h<;>simp[h]
  clear hsz
  dsimp only at h
  cases a<;>try (exact h.elim)
  ·rename_i d
   cases d<;>try (exact h.elim)
   rcases Aw h with⟨_,h⟩|⟨h1,h2,h⟩
   ·exact h.elim
   ·exact⟨_,_,by simp only[Ad,ha,hb,hp,hsz',h1];simp[h2],h⟩
  ·obtain⟨ob,hob,h⟩:=Ai h
   cases ob<;>try (exact h.elim)
   rename_i fz nw v e' s els
   cases fz<;>try (exact h.elim)
   obtain⟨h1,h2,h⟩:=h
   exact⟨_,_,by simp only[Ad,ha,hb,hp,hsz',hob,h1];simp[h2],h⟩
 case apps id e x y=>
  obtain⟨a,ha,h1⟩:=Ai h
  obtain⟨b,hb,h2⟩:=Ai h1
  clear h h1
  cases b<;>try (exact h2.elim)
  rename_i d
  cases d<;>try (exact h2.elim)
  rename_i s
  cases a<;>try (exact h2.elim)
  ·rename_i d
   cases d<;>try (exact h2.elim)
   rcases Aw h2 with⟨_,h⟩|⟨h1,h3,h⟩
   ·exact h.elim
   ·exact⟨_,_,by simp only[Ad,ha,hb,h1];simp[h3],h⟩
  ·obtain⟨ob,hob,h⟩:=Ai h2
   clear h2
   cases ob<;>try (exact h.elim)
   rename_i fz nw v e' z els
   cases fz<;>try (exact h.elim)
   obtain⟨h1,h2,h⟩:=h
   exact⟨_,_,by simp only[Ad,ha,hb,hob,h1];simp[h2],h⟩
 case pick c a b=>
  obtain⟨t,ht,h⟩:=Ai h
  cases t<;>try (exact h.elim)
  rename_i d
  cases d<;>try (exact h.elim)
  obtain⟨x,hx,h⟩:=Ai h
  obtain⟨y,hy,h⟩:=Ai h
  rcases Aw h with⟨rfl,h⟩|⟨rfl,h⟩<;>exact⟨_,_,by simp only[Ad,ht,hx,hy],h⟩
 case len x=>
  obtain⟨a,ha,h⟩:=Ai h
  obtain⟨p,hp,h⟩:=Fl h
  exact⟨_,_,by simp only[Ad,ha,hp],h⟩
 case b2s x=>
  obtain⟨a,ha,h⟩:=Ai h
  obtain⟨p,hp,hs,hu,h⟩:=Fl h
  obtain⟨pb,ps,pys⟩:=p
  have hs':(ps=1||pys.isEmpty)=true:=by rcases hs with h|h<;>simp at h<;>simp[h]
  exact⟨_,_,by simp only[Ad,ha,hp,hs',hu];simp,h⟩
 all_goals exact II h
end Go.Mir
