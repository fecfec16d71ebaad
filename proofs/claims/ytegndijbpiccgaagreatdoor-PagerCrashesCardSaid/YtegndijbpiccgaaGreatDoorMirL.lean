import Derived.Test.YtegndijbpiccgaaGreatDoorMirK
namespace Go.Mir
set_option linter.unusedVariables false
set_option linter.unusedSimpArgs false
def Fun.orow:Fun->Option (Nat×Nat×Nat×Bool)
 | .code c=>if c.own then c.orow else none
 | .prim o _=>o
def Fun.muts:Fun->Bool
 | .code c=>c.muts
 | .prim ..=>false
def Fun.wps:Fun->List AV->List AV
 | .code c,as=>Ns c.ps as
 | .prim ..,as=>as
def Fun.sh:Fun->Sh->Sh
 | .code c,_=>c.rs
 | .prim ..,s=>s
def Fun.alts:Fun->List (Sh×List It)
 | .code c=>if c.own then c.alts else []
 | .prim ..=>[]
def It.kept:List It->List Nat
 | []=>[]
 | .keepO i::r=>i::It.kept r
 | _::r=>It.kept r
def Fun.frz:Fun->List Nat
 | .code c=>if c.own then [] else c.alts.flatMap λa=>It.kept a.2
 | .prim ..=>[]
def Heap.freezeB (b:Bool):List Nat->Heap->Heap
 | [],H=>H
 | i::r,H=>match H.get i with
   | some (.row _ nw v e sz els)=>Heap.freezeB b r (H.ins i (.row b nw v e sz els))
   | _=>Heap.freezeB b r H
def Heap.exZ (K:Heap->Prop)(l:List Nat)(H:Heap):Prop:=match l with
 | []=>Heap.exS K H
 | i::r=>∃fz:Bool,Heap.exS K (H.freezeB fz (i::r))
theorem Heap.exZ_elim {K:Heap->Prop}{l:List Nat}{H:Heap}(h:Heap.exZ K l H):∃y,K y:=by
 cases l with
 | nil=>exact Heap.exS_elim h
 | cons i r=>obtain⟨fz,h⟩:=h;exact Heap.exS_elim h
def It.obs (K:Heap->Prop):List It->Prop
 | []=>K []
 | .row id e sz nw::r=>∃(ver:Nat) (els:List D),It.obs (λH=>K (H.ins id (.row false nw ver e sz els))) r
 | .box id ls::r=>Lf.exL (λcs=>It.obs (λH=>K (H.ins id (.box cs))) r) ls
 | .slot ..::r=>It.obs K r
 | .rowIn ..::r=>It.obs K r
 | .ptr ..::r=>It.obs K r
 | .nilp ..::r=>It.obs K r
 | .keep _::r=>It.obs K r
 | .keepO _::r=>It.obs K r
 | .keepF _::r=>It.obs K r
theorem It.obs_elim:∀ {is:List It} {K:Heap->Prop},It.obs K is->∃H,K H
 | [],K,h=>⟨_,h⟩
 | .row id e sz nw::r,K,h=>by obtain⟨ver,els,h⟩:=h;obtain⟨H,h⟩:=It.obs_elim (is:=r) h;exact⟨_,h⟩
 | .box id ls::r,K,h=>by obtain⟨cs,h⟩:=Lf.exL_elim (l:=ls) h;obtain⟨H,h⟩:=It.obs_elim (is:=r) h;exact⟨_,h⟩
 | .slot a b::r,K,h=>It.obs_elim (is:=r) (K:=K) h
 | .rowIn a b::r,K,h=>It.obs_elim (is:=r) (K:=K) h
 | .ptr a b c::r,K,h=>It.obs_elim (is:=r) (K:=K) h
 | .nilp a::r,K,h=>It.obs_elim (is:=r) (K:=K) h
 | .keep a::r,K,h=>It.obs_elim (is:=r) (K:=K) h
 | .keepO a::r,K,h=>It.obs_elim (is:=r) (K:=K) h
 | .keepF a::r,K,h=>It.obs_elim (is:=r) (K:=K) h
def HE (f:Nat)(ids lent:List Nat)(H:Heap)(K:AV->Heap->Prop)(r:AV)(H1:Heap):Prop:=mV K (ER (Bz f) (CQ f) ids lent H (r,H1))
theorem Le {f:Nat}{ids lent:List Nat}{H:Heap}{K:AV->Heap->Prop}{r:AV}{H1:Heap}(h:HE f ids lent H K r H1):∃v H',ER (Bz f) (CQ f) ids lent H (r,H1)=some (v,H')/\K v H':=by
 unfold HE mV at h;split at h;·rename_i v H' e;exact⟨v,H',e,h⟩
 ·exact h.elim
def WA (Fs:Nat->Option Fun)(f:Nat)(as':List AV)(lent:List Nat)(H:Heap)(K:AV->Heap->Prop):List (Sh×List It)->Prop
 | []=>False
 | [a]=>a.1.ex λr=>It.obs (λH1=>Runs Fs (CQ f) as' [] r H1/\HE f [] lent H K r H1) a.2
 | a::b::l=>(a.1.ex λr=>It.obs (λH1=>Runs Fs (CQ f) as' [] r H1/\HE f [] lent H K r H1) a.2)\/WA Fs f as' lent H K (b::l)
def TH (Fs:Nat->Option Fun)(own:Bool)(sh:Sh)(H:Heap)(K:AV->Heap->Prop)(f:Nat)(as:List AV):Prop:=
 Ae (own&&Gk f)
 (AT (λF=>Ae (H.closed (H.reach 1000 (refsL as++rowsInL as) []) as)
   (match Fun.orow F with
   | some (_,e,sz,_)=>(match as with
     | .row i v::_=>∃els:List D,Runs Fs (CQ f) (Fun.wps F (ageL as)) ((H.keep (H.reach 1000 (refsL as++rowsInL as) [])).age) (.row i (v+1)) (((H.keep (H.reach 1000 (refsL as++rowsInL as) [])).age).ins i (.row false false (v+1) e sz els)) /\
         HE f (H.reach 1000 (refsL as++rowsInL as) []) [] H K (.row i (v+1)) (((H.keep (H.reach 1000 (refsL as++rowsInL as) [])).age).ins i (.row false false (v+1) e sz els))
     | _=>False)
   | none=>(Fun.sh F sh).ex λr=>Heap.exZ (λH1=>Runs Fs (CQ f) (Fun.wps F (ageL as)) ((H.keep (H.reach 1000 (refsL as++rowsInL as) [])).age) r H1 /\
       HE f (H.reach 1000 (refsL as++rowsInL as) []) [] H K r H1) (Fun.frz F) ((H.keep (H.reach 1000 (refsL as++rowsInL as) [])).age)) False) (Fs (CQ f)))
 (AT (λF=>snapLQ H as λas'=>match Fun.orow F with
   | none=>match Fun.alts F with
     | []=>Ae ((refsL as').isEmpty&&(rowsInL as').isEmpty)
       ((Fun.sh F sh).ex λr=>Runs Fs (Cd own f) (Fun.wps F (ageL as')) [] r []/\Ae (plain r) (K r (if Gc r then H.freeze (rowsInL as) else H)) False)
       (Ae own False (Ae (!((rowsInL as).any (H.reach 1000 (refsL as') []).contains)&&H.closed (H.reach 1000 (refsL as') []) as' && !(H.reach 1000 (refsL as') []).isEmpty)
         (Ae (Fun.muts F) ((Fun.sh F sh).ex λr=>Heap.exZ (λH1=>Runs Fs f (Fun.wps F (ageL as')) ((H.keep (H.reach 1000 (refsL as') [])).age) r H1 /\
           Ae (plain r&&H1.closed (H.reach 1000 (refsL as') []) [r]) (K r ((H.freeze (rowsInL as)).merge (H1.keep (H.reach 1000 (refsL as') [])))) False) (Fun.frz F) ((H.keep (H.reach 1000 (refsL as') [])).age))
         ((Fun.sh F sh).ex λr=>Runs Fs f (Fun.wps F (ageL as')) ((H.keep (H.reach 1000 (refsL as') [])).age) r ((H.keep (H.reach 1000 (refsL as') [])).age) /\
           Ae (plain r&&((H.keep (H.reach 1000 (refsL as') [])).age).closed (H.reach 1000 (refsL as') []) [r]) (K r ((H.freeze (rowsInL as)).merge (((H.keep (H.reach 1000 (refsL as') [])).age).keep (H.reach 1000 (refsL as') [])))) False)) False))
     | al=>Ae (own&&(refsL as').isEmpty&&(rowsInL as').isEmpty) (WA Fs f (Fun.wps F (ageL as')) (rowsInL as) H K al) False
   | some (id,e,sz,nw)=>Ae (own&&(refsL as').isEmpty&&(rowsInL as').isEmpty)
       (∃(ver:Nat) (els:List D),Runs Fs (CQ f) (Fun.wps F (ageL as')) [] (.row id ver) [(id,.row false nw ver e sz els)]/\HE f [] (rowsInL as) H K (.row id ver) [(id,.row false nw ver e sz els)]) False) (Fs (Cd own f)))
def ZT (Fs:Nat->Option Fun)(sh:Sh)(σ:Slots)(H:Heap)(K:AV->Heap->Prop)(o:Opn):Prop:=
 match o with
 | .call own f args=>AT (λas=>TH Fs own sh H K f as) (Jj σ args)
 | .dyn own x args=>AT (λc=>match c with
   | .fn f cap=>AT (λas=>TH Fs own sh H K f (as++cap)) (Jj σ args)
   | _=>False) (ev σ x)
 | o=>op1 sh σ H K o
def Mv:Slots->(Slots->Prop)->Prop
 | [],K=>K []
 | x::r,K=>Mv r λs=>K (x::s)
theorem GY:∀(σ:Slots) (K:Slots->Prop),Mv σ K=K σ
 | [],K=>rfl
 | x::r,K=>by rw[Mv,GY r]
def DO (σ:Slots)(t:Nat)(b:Bool):Slots:=σ.put t (.n (.bool b))
def SW (σ:Slots)(c:Operand)(b:Bool):Slots:=
 match c with
 | .tmp t=>DO σ t b
 | _=>σ
theorem HG:∀(σ:Slots) (t:Nat),Slots.put σ t (Slots.get σ t)=σ
 | [],t=>by cases t<;>rfl
 | x::r,0=>rfl
 | x::r,t+1=>by simp only[Slots.get,Slots.put,HG r t]
theorem L0 {σ:Slots}{t:Nat}{b:Bool}(h:σ.get t = .n (.bool b)):DO σ t b=σ:=by unfold DO;rw[<-h];exact HG _ _
theorem N6 {σ:Slots}{c:Operand}{b:Bool}(h:ev σ c=some (.n (.bool b))):SW σ c b=σ:=by
 cases c<;>try rfl
 exact L0 (by simpa[ev] using h)
def EZ (K:Bool->Prop)(U:Prop):AV->Prop
 | .n (.bool b)=>K b
 | .undef=>U
 | _=>False
def HP (Fs:Nat->Option Fun):List RO->Slots->Heap->(Slots->Heap->Prop)->Prop
 | [],σ,H,Q=>Q σ H
 | ⟨dst,op,none,sh⟩::r,σ,H,Q=>ZT Fs sh σ H (λv H'=>HP Fs r (Fo σ dst v) H' Q) op
 | ⟨dst,op,some (g,true),sh⟩::r,σ,H,Q=>EZ (λb=>Ae b (ZT Fs sh (DO σ g true) H (λv H'=>HP Fs r (Fo (DO σ g true) dst v) H' Q) op) (HP Fs r (Fo (DO σ g false) dst .undef) H Q)) (HP Fs r (Fo σ dst .undef) H Q) (σ.get g)
 | ⟨dst,op,some (g,false),sh⟩::r,σ,H,Q=>EZ (λb=>Ae b (HP Fs r (Fo (DO σ g true) dst .undef) H Q) (ZT Fs sh (DO σ g false) H (λv H'=>HP Fs r (Fo (DO σ g false) dst v) H' Q) op)) (HP Fs r (Fo σ dst .undef) H Q) (σ.get g)
def EF (Fs:Nat->Option Fun):List RO->List Fg->Slots->Heap->(List Fg->Slots->Heap->Prop)->Prop
 | [],fl,σ,H,Q=>Q fl σ H
 | ⟨dst,op,none,sh⟩::r,fl,σ,H,Q=>ZT Fs sh σ H (λv H'=>EF Fs r (fl++[op.fg σ H]) (Fo σ dst v) H' Q) op
 | ⟨dst,op,some (g,true),sh⟩::r,fl,σ,H,Q=>EZ (λb=>Ae b (ZT Fs sh (DO σ g true) H (λv H'=>EF Fs r (fl++[op.fg (DO σ g true) H]) (Fo (DO σ g true) dst v) H' Q) op) (EF Fs r (fl++[.q]) (Fo (DO σ g false) dst .undef) H Q)) (EF Fs r (fl++[.q]) (Fo σ dst .undef) H Q) (σ.get g)
 | ⟨dst,op,some (g,false),sh⟩::r,fl,σ,H,Q=>EZ (λb=>Ae b (EF Fs r (fl++[.q]) (Fo (DO σ g true) dst .undef) H Q) (ZT Fs sh (DO σ g false) H (λv H'=>EF Fs r (fl++[op.fg (DO σ g false) H]) (Fo (DO σ g false) dst v) H' Q) op)) (EF Fs r (fl++[.q]) (Fo σ dst .undef) H Q) (σ.get g)
def Lf.Ts:List Lf->Type
 | []=>Unit
 | l::r=>l.T×Lf.Ts r
def Lf.vs:(ls:List Lf)->Lf.Ts ls->List AV
 | [],_=>[]
 | l::r,(x,xs)=>l.v x::Lf.vs r xs
def It.T:It->Type
 | .slot _ (.one l)=>l.T
 | .slot _ (.agg ls)=>Lf.Ts ls
 | .row ..=>Nat×List D
 | .box _ ls=>Lf.Ts ls
 | .rowIn ..=>Nat
 | .ptr ..=>Unit
 | .nilp _=>Unit
 | .keep _=>Unit
 | .keepO _=>Unit
 | .keepF _=>Unit
def It.Vals:List It->Type
 | []=>Unit
 | i::r=>i.T×It.Vals r
def It.Fn (C:Type):List It->Type
 | []=>C
 | .keep _::r=>It.Fn C r
 | .keepO _::r=>It.Fn C r
 | .keepF _::r=>It.Fn C r
 | .slot a b::r=>(It.slot a b).T->It.Fn C r
 | .row a b c d::r=>(It.row a b c d).T->It.Fn C r
 | .box a b::r=>(It.box a b).T->It.Fn C r
 | .rowIn a b::r=>(It.rowIn a b).T->It.Fn C r
 | .ptr a b c::r=>(It.ptr a b c).T->It.Fn C r
 | .nilp a::r=>(It.nilp a).T->It.Fn C r
def It.ap {C:Type}:(is:List It)->It.Fn C is->It.Vals is->C
 | [],f,_=>f
 | .keep _::r,f,(_,v)=>It.ap r f v
 | .keepO _::r,f,(_,v)=>It.ap r f v
 | .keepF _::r,f,(_,v)=>It.ap r f v
 | .slot a b::r,f,(x,v)=>It.ap r (f x) v
 | .row a b c d::r,f,(x,v)=>It.ap r (f x) v
 | .box a b::r,f,(x,v)=>It.ap r (f x) v
 | .rowIn a b::r,f,(x,v)=>It.ap r (f x) v
 | .ptr a b c::r,f,(x,v)=>It.ap r (f x) v
 | .nilp a::r,f,(x,v)=>It.ap r (f x) v
def It.all:(is:List It)->(It.Vals is->Prop)->Prop
 | [],K=>K ()
 | .keep _::r,K=>It.all r λv=>K ((),v)
 | .keepO _::r,K=>It.all r λv=>K ((),v)
 | .keepF _::r,K=>It.all r λv=>K ((),v)
 | .slot a b::r,K=>∀x:(It.slot a b).T,It.all r λv=>K (x,v)
 | .row a b c d::r,K=>∀x:(It.row a b c d).T,It.all r λv=>K (x,v)
 | .box a b::r,K=>∀x:(It.box a b).T,It.all r λv=>K (x,v)
 | .rowIn a b::r,K=>∀x:(It.rowIn a b).T,It.all r λv=>K (x,v)
 | .ptr a b c::r,K=>∀x:(It.ptr a b c).T,It.all r λv=>K (x,v)
 | .nilp a::r,K=>∀x:(It.nilp a).T,It.all r λv=>K (x,v)
theorem It.all_elim:∀ {is:List It} {K:It.Vals is->Prop},It.all is K->∀v,K v
 | [],K,h,()=>h
 | .keep _::r,K,h,((),v)=>It.all_elim (is:=r) (K:=λv=>K ((),v)) h v
 | .keepO _::r,K,h,((),v)=>It.all_elim (is:=r) (K:=λv=>K ((),v)) h v
 | .keepF _::r,K,h,((),v)=>It.all_elim (is:=r) (K:=λv=>K ((),v)) h v
 | .slot a b::r,K,h,(x,v)=>It.all_elim (is:=r) (K:=λv=>K (x,v)) (h x) v
 | .row a b c d::r,K,h,(x,v)=>It.all_elim (is:=r) (K:=λv=>K (x,v)) (h x) v
 | .box a b::r,K,h,(x,v)=>It.all_elim (is:=r) (K:=λv=>K (x,v)) (h x) v
 | .rowIn a b::r,K,h,(x,v)=>It.all_elim (is:=r) (K:=λv=>K (x,v)) (h x) v
 | .ptr a b c::r,K,h,(x,v)=>It.all_elim (is:=r) (K:=λv=>K (x,v)) (h x) v
 | .nilp a::r,K,h,(x,v)=>It.all_elim (is:=r) (K:=λv=>K (x,v)) (h x) v
def wY (K:Nat->List D->Prop):AV->Prop
 | .n (.sl sz x)=>K sz x
 | _=>False
def tQ (K:Nat->List D->Prop):AV->Prop
 | .o (.sl sz x)=>K sz x
 | _=>False
def tM (id:Nat)(K:Nat->Prop):AV->Prop
 | .row i v=>Ae (i==id) (K v) False
 | _=>False
def AA8 (K:Prop):AV->Prop
 | .n .nil=>K
 | _=>False
def nG (K:Prop):AV->Prop
 | .nilp=>K
 | _=>False
def uU (id off:Nat)(K:Prop):AV->Prop
 | .ptr i o=>Ae (i==id&&o==off) K False
 | _=>False
def Lf.rd1:(l:Lf)->(l.T->Prop)->AV->Prop
 | .row id,K,v=>tM id K v
 | .nil,K,v=>AA8 (K ()) v
 | .nilp,K,v=>nG (K ()) v
 | .ptr id off,K,v=>uU id off (K ()) v
 | .sln sz,K,v=>wY (λsz' x=>Ae (sz'==sz) (K x) False) v
 | .slo sz,K,v=>tQ (λsz' x=>Ae (sz'==sz) (K x) False) v
 | .int k,K,v=>N4 (λk' x=>Ae (k'==k) (K x) False) v
 | .bool,K,v=>asBool K v
 | .str,K,v=>Ul K v
 | .raw,K,v=>K v
def Lf.rdL:(ls:List Lf)->(Lf.Ts ls->Prop)->List AV->Prop
 | [],K,[]=>K ()
 | l::r,K,v::vs=>l.rd1 (λx=>Lf.rdL r (λxs=>K (x,xs)) vs) v
 | _,_,_=>False
theorem Lf.rd1_elim {l:Lf}{K:l.T->Prop}{v:AV}(h:l.rd1 K v):∃x,v=l.v x/\K x:=by
 cases l with
 | int k=>
  cases v<;>try (exact h.elim)
  rename_i d;cases d<;>try (exact h.elim)
  rcases Ay h with⟨h1,h⟩|⟨_,h⟩
  ·simp only[beq_iff_eq]at h1;subst h1;exact⟨_,rfl,h⟩
  ·exact h.elim
 | bool=>
  cases v<;>try (exact h.elim)
  rename_i d;cases d<;>try (exact h.elim)
  exact⟨_,rfl,h⟩
 | str=>
  cases v<;>try (exact h.elim)
  rename_i d;cases d<;>try (exact h.elim)
  exact⟨_,rfl,h⟩
 | raw=>exact⟨v,rfl,h⟩
 | row id=>
  cases v<;>try (exact h.elim)
  rcases Ay h with⟨h1,h⟩|⟨_,h⟩
  ·simp only[beq_iff_eq]at h1;subst h1;exact⟨_,rfl,h⟩
  ·exact h.elim
 | nil=>
  cases v<;>try (exact h.elim)
  rename_i d;cases d<;>try (exact h.elim)
  exact⟨(),rfl,h⟩
 | nilp=>
  cases v<;>try (exact h.elim)
  exact⟨(),rfl,h⟩
 | ptr id off=>
  cases v<;>try (exact h.elim)
  rcases Ay h with⟨h1,h⟩|⟨_,h⟩
  ·simp only[Bool.and_eq_true,beq_iff_eq]at h1;obtain⟨rfl,rfl⟩:=h1;exact⟨(),rfl,h⟩
  ·exact h.elim
 | sln sz=>
  cases v<;>try (exact h.elim)
  rename_i d;cases d<;>try (exact h.elim)
  rcases Ay h with⟨h1,h⟩|⟨_,h⟩
  ·simp only[beq_iff_eq]at h1;subst h1;exact⟨_,rfl,h⟩
  ·exact h.elim
 | slo sz=>
  cases v<;>try (exact h.elim)
  rename_i d;cases d<;>try (exact h.elim)
  rcases Ay h with⟨h1,h⟩|⟨_,h⟩
  ·simp only[beq_iff_eq]at h1;subst h1;exact⟨_,rfl,h⟩
  ·exact h.elim
theorem Lf.rdL_elim:∀ {ls:List Lf} {K:Lf.Ts ls->Prop} {vs:List AV},Lf.rdL ls K vs->∃xs,vs=Lf.vs ls xs/\K xs
 | [],K,[],h=>⟨(),rfl,h⟩
 | [],K,_::_,h=>h.elim
 | l::r,K,[],h=>h.elim
 | l::r,K,v::vs,h=>by have h0:l.rd1 (λx=>Lf.rdL r (λxs=>K (x,xs)) vs) v:=h;obtain⟨x,rfl,h1⟩:=Lf.rd1_elim h0;obtain⟨xs,rfl,h2⟩:=Lf.rdL_elim (ls:=r) h1;exact⟨(x,xs),rfl,h2⟩
def It.rd1 (chk:Bool)(σ0 σ:Slots)(H:Heap):(i:It)->(i.T->Prop)->Prop
 | .slot t (.one l),K=>l.rd1 K (σ.get t)
 | .slot t (.agg ls),K=>match σ.get t with
   | .agg cs=>Lf.rdL ls K cs
   | _=>False
 | .row id e sz nw,K=>match H.get id with
   | some (.row _ _ ver _ _ els)=>K (ver,els)
   | _=>False
 | .box id ls,K=>match H.get id with
   | some (.box cs)=>Lf.rdL ls K cs
   | _=>False
 | .rowIn t id,K=>match σ.get t with
   | .row i v=>Ae (i==id) (K v) False
   | _=>False
 | .ptr t id off,K=>match σ.get t with
   | .ptr i o=>Ae (i==id&&o==off) (K ()) False
   | _=>False
 | .nilp t,K=>match σ.get t with
   | .nilp=>K ()
   | _=>False
 | .keep t,K=>Ae chk (σ.get t=σ0.get t/\K ()) (K ())
 | .keepO _,K=>K ()
 | .keepF _,K=>K ()
def It.rd (chk:Bool)(σ0 σ:Slots)(H:Heap):(is:List It)->(It.Vals is->Prop)->Prop
 | [],K=>K ()
 | i::r,K=>It.rd1 chk σ0 σ H i λx=>It.rd chk σ0 σ H r λv=>K (x,v)
def It.mk1 (σ0 σ:Slots):(i:It)->i.T->Slots
 | .slot t (.one l),x=>σ.put t (l.v x)
 | .slot t (.agg ls),x=>σ.put t (.agg (Lf.vs ls x))
 | .row ..,_=>σ
 | .box ..,_=>σ
 | .rowIn t id,x=>σ.put t (.row id x)
 | .ptr t id off,_=>σ.put t (.ptr id off)
 | .nilp t,_=>σ.put t .nilp
 | .keep t,_=>σ.put t (σ0.get t)
 | .keepO _,_=>σ
 | .keepF _,_=>σ
def It.mk (σ0 σ:Slots):(is:List It)->It.Vals is->Slots
 | [],_=>σ
 | i::r,(x,v)=>It.mk σ0 (It.mk1 σ0 σ i x) r v
def ACt (id:Nat)(H:Heap):Option Ob->Heap
 | some o=>H.ins id o
 | none=>H
def It.mkH (H0:Heap):(is:List It)->It.Vals is->Heap
 | [],_=>[]
 | .row id e sz nw::r,(x,v)=>(It.mkH H0 r v).ins id (.row false nw x.1 e sz x.2)
 | .box id ls::r,(x,v)=>(It.mkH H0 r v).ins id (.box (Lf.vs ls x))
 | .slot ..::r,(_,v)=>It.mkH H0 r v
 | .rowIn ..::r,(_,v)=>It.mkH H0 r v
 | .ptr ..::r,(_,v)=>It.mkH H0 r v
 | .nilp ..::r,(_,v)=>It.mkH H0 r v
 | .keep _::r,(_,v)=>It.mkH H0 r v
 | .keepO id::r,(_,v)=>ACt id (It.mkH H0 r v) (H0.get id)
 | .keepF _::r,(_,v)=>H0.merge (It.mkH H0 r v)
def WY (n:Nat)(j:Nat->AV):Slots:=(List.range n).map j
theorem Slots.put_get:∀(σ:Slots) (t:Nat),Slots.put σ t (Slots.get σ t)=σ
 | [],t=>by cases t<;>rfl
 | x::r,0=>rfl
 | x::r,t+1=>by simp only[Slots.get,Slots.put,Slots.put_get r t]
theorem VB:∀(σ:Slots),WY σ.length (Slots.get σ)=σ:=by
 intro σ;have:∀(σ:Slots) (t:Nat),t<σ.length->σ[t]?=some (Slots.get σ t):=by
  intro σ
  induction σ with
  | nil=>intro t h;simp at h
  | cons x r ih=>intro t h;cases t with
    | zero=>rfl
    | succ t=>simpa[Slots.get] using ih t (by simpa using h)
 refine List.ext_getElem? λt=>?_;unfold WY;rw[List.getElem?_map];by_cases h:t<σ.length;·rw[List.getElem?_range h,this σ t h];rfl
 ·rw[List.getElem?_eq_none (by simpa using h),List.getElem?_eq_none (by simpa using h)];rfl
theorem It.rd1_elim {chk:Bool}{σ0 σ:Slots}(hc:chk=false->σ0=σ){H:Heap}{i:It}{K:i.T->Prop}(h:It.rd1 chk σ0 σ H i K):∃x,It.mk1 σ0 σ i x=σ/\K x:=by
 have put:∀ {t:Nat} {v:AV},σ.get t=v->σ.put t v=σ:=λh=>by rw[<-h];exact Slots.put_get _ _
 cases i with
 | slot t s=>
  cases s with
  | one l=> obtain⟨x,hx,h⟩:=Lf.rd1_elim h;exact⟨x,put hx,h⟩
  | agg ls=>
   simp only[It.rd1]at h;split at h<;>try (exact h.elim)
   rename_i cs hc;obtain⟨xs,hx,h2⟩:=Lf.rdL_elim h;subst hx;exact⟨xs,put hc,h2⟩
 | row id e sz nw=>
  simp only[It.rd1]at h;split at h<;>try (exact h.elim)
  exact⟨_,rfl,h⟩
 | box id ls=>
  simp only[It.rd1]at h;split at h<;>try (exact h.elim)
  obtain⟨xs,hx,h⟩:=Lf.rdL_elim h;exact⟨xs,rfl,h⟩
 | rowIn t id=>
  simp only[It.rd1]at h;split at h<;>try (exact h.elim)
  rename_i i v hv;rcases Ay h with⟨h1,h⟩|⟨_,h⟩
  ·simp only[beq_iff_eq]at h1;subst h1;exact⟨v,put hv,h⟩
  ·exact h.elim
 | ptr t id off=>
  simp only[It.rd1]at h;split at h<;>try (exact h.elim)
  rename_i i v hv;rcases Ay h with⟨h1,h⟩|⟨_,h⟩
  ·simp only[Bool.and_eq_true,beq_iff_eq]at h1;obtain⟨rfl,rfl⟩:=h1;exact⟨(),put hv,h⟩
  ·exact h.elim
 | nilp t=>
  simp only[It.rd1]at h;split at h<;>try (exact h.elim)
  rename_i hv;exact⟨(),put hv,h⟩
 | keep t=>
  rcases Ay h with⟨_,h1,h2⟩|⟨h1,h2⟩
  ·exact⟨(),put h1,h2⟩
  ·exact⟨(),put (by rw[hc h1]),h2⟩
 | keepO id=>exact⟨(),rfl,h⟩
 | keepF fn=>exact⟨(),rfl,h⟩
theorem It.rd_elim {chk:Bool}{σ0 σ:Slots}(hc:chk=false->σ0=σ){H:Heap}:∀ {is:List It} {K:It.Vals is->Prop},It.rd chk σ0 σ H is K->∃v,It.mk σ0 σ is v=σ/\K v
 | [],K,h=>⟨(),rfl,h⟩
 | i::r,K,h=>by obtain⟨x,h1,h⟩:=It.rd1_elim hc h;obtain⟨v,h2,h⟩:=It.rd_elim hc h;exact⟨(x,v),by simp only[It.mk,h1,h2],h⟩
def X6 (chk:Bool)(σ0:Slots)(H0:Heap)(n:Nat)(is:List It)(K:It.Vals is->Prop)(σ:Slots)(H:Heap):Prop:=Ae (σ.length==n) (It.rd chk σ0 σ H is λv=>It.mkH H0 is v=H/\K v) False
theorem Ml {chk:Bool}{σ0:Slots}{H0:Heap}{n:Nat}{is:List It}{K:It.Vals is->Prop}{σ:Slots}{H:Heap}(hc:chk=false->σ0=σ)(h:X6 chk σ0 H0 n is K σ H):∃v j,σ=It.mk σ0 (WY n j) is v/\H=It.mkH H0 is v/\K v:=by
 rcases Ay h with⟨h1,h⟩|⟨_,h⟩
 ·simp only[beq_iff_eq]at h1;obtain⟨v,h2,h3,h4⟩:=It.rd_elim hc h;exact⟨v,Slots.get σ,by rw[<-h1,VB,h2],h3.symm,h4⟩
 ·exact h.elim
def Da:List Nat->Slots->Heap->(Slots->Heap->Prop)->Prop
 | [],σ,H,K=>K σ H
 | s::r,σ,H,K=>match Nat.ble s 99999 with
   | true=>Gh H (σ.get s) λv=>Da r (σ.put s (age v)) (H.freeze (Ak (σ.get s))) K
   | false=>match Nat.ble s 9999999999 with
     | true=>match H.get s with
       | some o=>if o.thaw then Da r σ (H.ins s o.age) K else Da r σ H K
       | none=>Da r σ H K
     | false=>match H.get (J9 s) with
       | some (.box cs)=>match cs[LY s]? with
         | some x=>Gh H x λv=>Da r σ ((H.freeze (Ak x)).ins (J9 s) (.box (cs.set (LY s) (age v)))) K
         | none=>False
       | _=>False
theorem B5:∀ {l:List Nat} {σ:Slots} {H:Heap} {K:Slots->Heap->Prop},Da l σ H K->∃σ' H',BN l σ H=some (σ',H')/\K σ' H'
 | [],σ,H,K,h=>⟨σ,H,rfl,h⟩
 | s::r,σ,H,K,h=>by
  unfold Da at h;unfold BN
  cases hb:Nat.ble s 99999 with
  | true=> rw[hb]at h;obtain⟨v,hv,h⟩:=C0 h;dsimp only;rw[hv];exact B5 h
  | false=>
   rw[hb]at h;dsimp only at h |-
   cases hc:Nat.ble s 9999999999 with
   | true=>
    rw[hc]at h;dsimp only at h |-
    cases hg:H.get s with
    | none=>rw[hg]at h;exact B5 h
    | some o=>
     rw[hg]at h;dsimp only at h |-;by_cases ht:o.thaw=true;·rw[if_pos ht]at h |-;exact B5 h
     ·rw[if_neg ht]at h |-;exact B5 h
   | false=>
    rw[hc]at h;dsimp only at h |-
    cases hg:H.get (J9 s) with
    | none=>rw[hg]at h;exact h.elim
    | some o=>
     rw[hg]at h
     cases o with
     | row _ _ _ _ _ _=>exact h.elim
     | box cs=>
      dsimp only at h |-
      cases hx:cs[LY s]? with
      | none=>rw[hx]at h;exact h.elim
      | some x=> rw[hx]at h;obtain⟨v,hv,h⟩:=C0 h;dsimp only;rw[hv];exact B5 h
theorem U1 {fn:Nat}{keep drop:List Nat}{rows:List (Nat×Nat×Nat×Nat)}{data:List Nat}{σ σ':Slots}{H H':Heap}(h:BN data σ H=some (σ',H')):Fi fn keep drop rows data σ H=Fi fn keep drop rows [] σ' H':=by simp only[Fi,h,BN]
theorem NK {x:AV}{i:Nat}:∀ {xs:List AV},i∈refsL xs->∃x∈xs,i∈Ek x
 | [],h=>by simp[refsL]at h
 | x::r,h=>by
  simp only[refsL,List.mem_append]at h;rcases h with h|h;·exact⟨x,List.mem_cons_self,h⟩
  ·obtain⟨y,h1,h2⟩:=NK (x:=x) h;exact⟨y,List.mem_cons_of_mem _ h1,h2⟩
theorem J0 {x:AV}{i:Nat}:∀ {xs:List AV},i∈rowsInL xs->∃x∈xs,i∈Ak x
 | [],h=>by simp[rowsInL]at h
 | x::r,h=>by
  simp only[rowsInL,List.mem_append]at h;rcases h with h|h;·exact⟨x,List.mem_cons_self,h⟩
  ·obtain⟨y,h1,h2⟩:=J0 (x:=x) h;exact⟨y,List.mem_cons_of_mem _ h1,h2⟩
theorem Ro {x:AV}{i:Nat}:∀ {xs:List AV},x∈xs->i∈Ek x->i∈refsL xs
 | y::r,h,hi=>by
  simp only[refsL,List.mem_append];rcases List.mem_cons.1 h with rfl|h;·exact .inl hi
  ·exact .inr (Ro h hi)
theorem Mt {x:AV}{i:Nat}:∀ {xs:List AV},x∈xs->i∈Ak x->i∈rowsInL xs
 | y::r,h,hi=>by
  simp only[rowsInL,List.mem_append];rcases List.mem_cons.1 h with rfl|h;·exact .inl hi
  ·exact .inr (Mt h hi)
theorem Rs:∀ {σ:Slots} {x:AV},x∈σ->∃i,Slots.get σ i=x
 | y::r,x,h=>by
  rcases List.mem_cons.1 h with rfl|h;·exact⟨0,rfl⟩
  ·obtain⟨i,hi⟩:=Rs h;exact⟨i+1,by simpa[Slots.get] using hi⟩
theorem J2 (keep:List Nat):∀(σ:Slots) (i t:Nat),Slots.get (A2 keep i σ) t=if keep.contains (i+t) then Slots.get σ t else .n .any
 | [],i,t=>by simp[A2,Slots.get]
 | x::r,i,t=>by
  cases t with
  | zero=>simp[A2,Slots.get]
  | succ t=>
   simp only[A2,Slots.get];rw[J2 keep r (i+1) t];have:i+1+t=i+(t+1):=by omega
   rw[this]
theorem Q9 {H:Heap}{ids keep:List Nat}{σ:Slots}(h:H.closed ids (keep.map (Slots.get (A2 keep 0 σ)))=true):H.closed ids (A2 keep 0 σ)=true:=by
 unfold Heap.closed at h |-;rw[Bool.and_eq_true]at h |-;refine⟨?_,h.2⟩;rw[List.all_eq_true]at h |-;have at_:∀x∈A2 keep 0 σ,x = .n .any\/x∈keep.map (Slots.get (A2 keep 0 σ)):=λx hx=>by
  obtain⟨i,hi⟩:=Rs hx;by_cases hk:keep.contains i=true;·exact .inr (List.mem_map.2 ⟨i,by simpa using hk,hi⟩)
  ·left;rw[<-hi,J2,Nat.zero_add,if_neg hk]
 intro i hi;refine h.1 i ?_;rcases List.mem_append.1 hi with hi|hi
 ·obtain⟨x,hx,hr⟩:=NK (x := .undef) hi;rcases at_ x hx with rfl|hm;·simp[Ek]at hr
  ·exact List.mem_append_left _ (Ro hm hr)
 ·obtain⟨x,hx,hr⟩:=J0 (x := .undef) hi;rcases at_ x hx with rfl|hm;·simp[Ak]at hr
  ·exact List.mem_append_right _ (Mt hm hr)
def X5 (fn:Nat)(keep drop:List Nat)(rows:List (Nat×Nat×Nat×Nat))(σ:Slots)(H:Heap)(K:Slots->Heap->Prop):Prop:=
 Mv (A2 keep 0 σ) λσ1=>Ae (H.closed (H.dom.filter λi => !drop.contains i) (keep.map (Slots.get σ1)) && !drop.any (λi=>i / 100000 != fn)) (isS K (Df rows σ1 (H.keep (H.dom.filter λi => !drop.contains i)))) False
theorem Sj {fn:Nat}{keep drop:List Nat}{rows:List (Nat×Nat×Nat×Nat)}{σ:Slots}{H:Heap}{K:Slots->Heap->Prop}(h:X5 fn keep drop rows σ H K):∃σ' H',Fi fn keep drop rows [] σ H=some (σ',H')/\K σ' H':=by
 unfold X5 at h;rw[GY]at h;rcases Ay h with⟨hc,h⟩|⟨_,h⟩
 ·rw[Bool.and_eq_true,Bool.not_eq_true']at hc;have h1:=Q9 hc.1;unfold isS at h;split at h<;>try (exact h.elim)
  rename_i σ' H' hh;refine⟨σ',H',?_,h⟩;unfold Fi;simp only[BN];rw[if_neg (by rw[h1,hc.2];simp)];exact hh
 ·exact h.elim
def Vc (Fs:Nat->Option Fun):Cmd->Slots->Heap->MP->Prop
 | .skip,σ,H,Q=>Q .norm σ H
 | .region ops,σ,H,Q=>Mv σ λσ=>HP Fs ops σ H λσ H=>Q .norm σ H
 | .drawn ops un,σ,H,Q=>Mv σ λσ=>EF Fs ops [] σ H λfl σ H=>Ae (Jh fl un) (Q .norm σ H) False
 | .seq a b,σ,H,Q=>Vc Fs a σ H (gQ (λσ H=>Vc Fs b σ H Q) Q)
 | .cond c a b,σ,H,Q=>AT (asBool λt=>Ae t (Vc Fs a (SW σ c true) H Q) (Vc Fs b (SW σ c false) H Q)) (ev σ c)
 | .block id c,σ,H,Q=>Vc Fs c σ H (Yo id Q)
 | .loop is c,σ,H,Q=>Mv σ λσ=>∃(I:It.Fn Prop is) (μ:It.Fn Nat is),X6 false σ H σ.length is (It.ap is I) σ H /\
    It.all is λv=>It.ap is I v->∀j:Nat->AV,Vc Fs c (It.mk σ (WY σ.length j) is v) (It.mkH H is v) (gQ (X6 true σ H σ.length is λv'=>It.ap is I v'/\It.ap is μ v'<It.ap is μ v) Q)
 | .exit id,σ,H,Q=>Q (.exit id) σ H
 | .ret,σ,H,Q=>Q .ret σ H
 | .hint fn keep drop rows data,σ,H,Q=>Da data σ H λσ H=>X5 fn keep drop rows σ H λσ H=>Q .norm σ H
section
variable {Fs:Nat->Option Fun}
theorem Sw (ls:List Lf):∀(xs:List AV),ML ls (ML ls xs)=ML ls xs:=by
 induction ls with
 | nil=>intro xs;cases xs<;>rfl
 | cons l r ih=>
  intro xs
  cases xs with
  | nil=>rfl
  | cons x s=> simp only[ML,ih];congr 1;unfold Lf.wk;split<;>split<;>first|rfl|simp_all
theorem Lf.wk_twice (l:Lf)(x:AV):l.wk (l.wk x)=l.wk x:=by unfold Lf.wk;split<;>split<;>first|rfl|simp_all
theorem S1.wk_twice (l:S1)(x:AV):l.wk (l.wk x)=l.wk x:=by
 cases l with
 | one l=>exact Lf.wk_twice l x
 | agg ls=>cases x<;>first|rfl|simp only[S1.wk,Sw]
theorem Us (ls:List S1):∀(xs:List AV),Ns ls (Ns ls xs)=Ns ls xs:=by
 induction ls with
 | nil=>intro xs;cases xs<;>rfl
 | cons l r ih=>
  intro xs
  cases xs with
  | nil=>rfl
  | cons x s=>simp only[Ns,ih,S1.wk_twice]
theorem TI:∀(ls:List S1) (xs:List AV),(Ns ls xs).length=xs.length
 | [],xs=>by cases xs<;>rfl
 | l::r,[]=>rfl
 | l::r,x::s=>by simp[Ns,TI r s]
theorem XZ (call:Al)(fuel:Nat)(c:FnC)(as:List AV)(H:Heap):HJ call fuel c (Ns c.ps as) H=HJ call fuel c as H:=by unfold HJ;rw[Us,TI]
theorem eI {F:Fun}{f k:Nat}{as:List AV}{H:Heap}(hf:Fs f=some F):run Fs k f (Fun.wps F as) H=run Fs k f as H:=by
 cases k with
 | zero=>rfl
 | succ k=>
  simp only[run,hf]
  cases F with
  | code c=>exact XZ _ _ _ _ _
  | prim o p=>rfl
theorem GA {F:Fun}{f:Nat}{as:List AV}{H:Heap}{r:AV}{H':Heap}(hf:Fs f=some F)(h:Runs Fs f (Fun.wps F as) H r H'):Runs Fs f as H r H':=by obtain⟨k0,hk⟩:=h;exact⟨k0,λk h=>(eI hf).symm.trans (hk k h)⟩
theorem Me {f:Nat}{as':List AV}{lent:List Nat}{H:Heap}{K:AV->Heap->Prop}:∀ {al:List (Sh×List It)},WA Fs f as' lent H K al->∃r H1,Runs Fs (CQ f) as' [] r H1/\HE f [] lent H K r H1
 | [],h=>h.elim
 | [a],h=>by obtain⟨r,h⟩:=Sh.ex_elim h;obtain⟨H1,h⟩:=It.obs_elim h;exact⟨r,H1,h⟩
 | a::b::l,h=>by
  rcases h with h|h;·obtain⟨r,h⟩:=Sh.ex_elim h;obtain⟨H1,h⟩:=It.obs_elim h;exact⟨r,H1,h⟩
  ·exact Me (al:=b::l) h
theorem JW {own:Bool}{sh:Sh}{H:Heap}{K:AV->Heap->Prop}{f:Nat}{as:List AV}(h:TH Fs own sh H K f as):∃v H',(∃k0,∀k,k0<=k->AF (run Fs k) own H f as=some (v,H'))/\K v H':=by
 unfold TH at h;replace h:=Ay h;rcases h with⟨hown,h⟩|⟨hnr,h⟩
 ·simp only[Bool.and_eq_true]at hown;obtain⟨rfl,hR⟩:=hown;obtain⟨F,hF,h⟩:=Ai h;rcases Ay h with⟨hcl,h⟩|⟨_,h⟩
  ·have key:∀ {r:AV} {H1:Heap},Runs Fs (CQ f) (Fun.wps F (ageL as)) ((H.keep (H.reach 1000 (refsL as++rowsInL as) [])).age) r H1->HE f (H.reach 1000 (refsL as++rowsInL as) []) [] H K r H1->∃v H',(∃k0,∀k,k0<=k->AF (run Fs k) true H f as=some (v,H'))/\K v H':=λ{r H1} hr hb=>by
    obtain⟨v,H',e,hk⟩:=Le hb;obtain⟨k0,hk0⟩:=GA hF hr;refine⟨v,H',⟨k0,λk hk'=>?_⟩,hk⟩;unfold AF;have e1:Be true H f as=some as:=by simp only[Be,hR]
    have e2:BJ true f as=refsL as++rowsInL as:=by simp only[BJ,hR]
    have e3:BY true f as=[]:=by simp only[BY,hR]
    simp only[e1,e2,e3,Cd,hcl,hk0 k hk',e];simp
   generalize ho:Fun.orow F=o at h;rcases o with _|⟨id,e,sz,nw⟩
   ·obtain⟨r,h⟩:=Sh.ex_elim h;obtain⟨H1,h1,h2⟩:=Heap.exZ_elim h;exact key h1 h2
   ·dsimp only at h;split at h;·obtain⟨els,h1,h2⟩:=h;exact key h1 h2
    ·exact h.elim
  ·exact h.elim
 obtain⟨F,hF,h⟩:=Ai h;obtain⟨as',hs,h⟩:=snapLQ_elim h;have hreach:H.reach 1000 [] []=[]:=rfl;have e1:Be own H f as=some as':=by
  cases own with
  | false=>exact hs
  | true=>
   have hR:Gk f=false:=by simpa using hnr
   simp only[Be,hR];exact hs
 have e2:BJ own f as'=refsL as':=by
  cases own with
  | false=>rfl
  | true=>
   have hR:Gk f=false:=by simpa using hnr
   simp only[BJ,hR]
 have e3:BY own f as=rowsInL as:=by
  cases own with
  | false=>rfl
  | true=>
   have hR:Gk f=false:=by simpa using hnr
   simp only[BY,hR]
 have back:∀ {r:AV} {H1:Heap},own=true->refsL as'=[]->rowsInL as'=[]->Runs Fs (CQ f) (Fun.wps F (ageL as')) [] r H1->HE f [] (rowsInL as) H K r H1->∃v H',(∃k0,∀k,k0<=k->AF (run Fs k) own H f as=some (v,H'))/\K v H':=λ{r H1} hown h1 h2 hr hb=>by
  subst hown;obtain⟨v,H',e,hk⟩:=Le hb;obtain⟨k0,hk0⟩:=GA (f:=CQ f) hF hr;refine⟨v,H',⟨k0,λk hk'=>?_⟩,hk⟩;have hcl:∀H:Heap,H.closed [] as'=true:=λH=>by simp[Heap.closed,h1,h2]
  unfold AF;simp only[e1,e2,e3,h1,hreach,hcl,EI,Heap.age,Cd,hk0 k hk',e];simp
 generalize ho:Fun.orow F=o at h;rcases o with _|⟨id,e,sz,nw⟩
 ·dsimp only at h;generalize hal:Fun.alts F=al at h;rcases al with _|⟨a,al⟩
  ·dsimp only at h;replace h:=Ay h;rcases h with⟨h1,h⟩|⟨h1,h⟩
   ·simp only[Bool.and_eq_true,List.isEmpty_iff]at h1;obtain⟨h1,h2⟩:=h1;obtain⟨r,hr,h⟩:=Sh.ex_elim h;rcases Ay h with⟨hp,h⟩|⟨_,h⟩
    ·obtain⟨k0,hk⟩:=GA hF hr;refine⟨r,_,⟨k0,λk hk'=>?_⟩,h⟩;obtain⟨p1,p2,p3⟩:=GV (H:=[]) hp;have hcl:∀H:Heap,H.closed [] as'=true:=λH=>by simp[Heap.closed,h1,h2]
     have hcl2:∀H:Heap,H.closed [] [r]=true:=λH=>by simp[Heap.closed,refsL,rowsInL,p1,p2]
     unfold AF;simp only[e1,e2,e3,h1,hreach,hcl,EI,Heap.age,hk k hk',p3,hcl2,p2];have hsw:∀s,(if s=0 then ([]:List (Nat×Nat)) else CY s [] 0 [])=[]:=λs=>by split<;>rfl
     cases own<;>cases hO:Gc r<;>simp[ER,hsw,Np,Gg,Heap.freeze,Heap.merge,Heap.keep,hO]
    ·exact h.elim
   ·replace h:=Ay h;rcases h with⟨_,h⟩|⟨hown,hz⟩
    ·exact h.elim
    subst hown;replace hz:=Ay hz;rcases hz with⟨h2,h⟩|⟨_,h⟩
    ·generalize hids:H.reach 1000 (refsL as') []=ids at h h2;simp only[Bool.and_eq_true,Bool.not_eq_true']at h2;obtain⟨⟨g1,g2⟩,g4⟩:=h2;rcases Ay h with⟨_,h⟩|⟨_,h⟩
     ·obtain⟨r,h⟩:=Sh.ex_elim h;obtain⟨H1,hr,h⟩:=Heap.exZ_elim h;rcases Ay h with⟨hp,h⟩|⟨_,h⟩
      ·simp only[Bool.and_eq_true,Bool.not_eq_true']at hp;obtain⟨hp1,hp3⟩:=hp;obtain⟨k0,hk⟩:=GA (f:=f) hF hr;refine⟨r,_,⟨k0,λk hk'=>?_⟩,h⟩;obtain⟨p1,p2,p3⟩:=GV (H:=H1) hp1;unfold AF;simp only[e1,e2,e3,Cd,hids,g1,g2,hk k hk',p3,hp3,p2,Heap.freeze,g4];simp
      ·exact h.elim
     obtain⟨r,hr,h⟩:=Sh.ex_elim h;rcases Ay h with⟨hp,h⟩|⟨_,h⟩
     ·simp only[Bool.and_eq_true]at hp;obtain⟨k0,hk⟩:=GA (f:=f) hF hr;refine⟨r,_,⟨k0,λk hk'=>?_⟩,h⟩;obtain⟨p1,p2,p3⟩:=GV (H:=((H.keep ids).age)) hp.1;unfold AF;simp only[e1,e2,e3,Cd,hids,g1,g2,hk k hk',p3,hp.2,p2,Heap.freeze,g4];simp
     ·exact h.elim
    ·exact h.elim
  ·dsimp only at h;rcases Ay h with⟨h1,h⟩|⟨_,h⟩
   ·simp only[Bool.and_eq_true,List.isEmpty_iff]at h1;obtain⟨r,H1,hr,hb⟩:=Me h;exact back h1.1.1 h1.1.2 h1.2 hr hb
   ·exact h.elim
 ·dsimp only at h;rcases Ay h with⟨h1,h⟩|⟨_,h⟩
  ·simp only[Bool.and_eq_true,List.isEmpty_iff]at h1;obtain⟨ver,els,hr,hb⟩:=h;exact back h1.1.1 h1.1.2 h1.2 hr hb
  ·exact h.elim
theorem Hl {sh:Sh}{o:Opn}{σ:Slots}{H:Heap}{K:AV->Heap->Prop}(h:ZT Fs sh σ H K o):∃v H',(∃k0,∀k,k0<=k->Ac (run Fs k) σ H o=some (v,H'))/\K v H':=by
 cases o
 case call own f args=>
  obtain⟨as,ha,h⟩:=Ai h
  obtain⟨r,H',⟨k0,hk⟩,h⟩:=JW h
  exact⟨r,H',⟨k0,λk hk'=>by simp only[Ac,ha];exact hk k hk'⟩,h⟩
 case dyn own x args=>
  obtain⟨c,hc,h⟩:=Ai h
  cases c<;>try (exact h.elim)
  obtain⟨as,ha,h⟩:=Ai h
  obtain⟨r,H',⟨k0,hk⟩,h⟩:=JW h
  exact⟨r,H',⟨k0,λk hk'=>by simp only[Ac,hc,ha];exact hk k hk'⟩,h⟩
 all_goals
  simp only[ZT]at h
  obtain⟨v,H',he,h⟩:=WE h
  exact⟨v,H',⟨0,λk _=>he⟩,h⟩
theorem ED:∀ {l:List RO} {σ:Slots} {H:Heap} {Q:Slots->Heap->Prop},HP Fs l σ H Q->∃σ' H',(∃k0,∀k,k0<=k->BG (run Fs k) l σ H=some (σ',H'))/\Q σ' H'
 | [],σ,H,Q,h=>⟨σ,H,⟨0,λk _=>rfl⟩,h⟩
 | ⟨dst,op,none,sh⟩::r,σ,H,Q,h=>by obtain⟨v,H1,⟨k0,hk⟩,h1⟩:=Hl h;obtain⟨σ2,H2,⟨k1,hk1⟩,h2⟩:=ED h1;refine⟨σ2,H2,⟨max k0 k1,λk hk'=>?_⟩,h2⟩;simp only[BG,hk k (by omega)];exact(by cases dst<;>exact hk1 k (by omega))
 | ⟨dst,op,some (g,want),sh⟩::r,σ,H,Q,h=>by
  have key:(∃b,σ.get g = .n (.bool b)/\((b=want/\ZT Fs sh σ H (λv H'=>HP Fs r (Fo σ dst v) H' Q) op)\/(b≠want/\HP Fs r (Fo σ dst .undef) H Q)))\/(σ.get g = .undef/\HP Fs r (Fo σ dst .undef) H Q):=by
   have hx:(∃b,σ.get g = .n (.bool b))\/σ.get g = .undef:=by
    cases want;all_goals
     simp only[HP]at h
     generalize σ.get g=x at h
     cases x<;>first
      | exact h.elim
      | exact .inr rfl
      | (rename_i d
         cases d<;>first|exact h.elim|exact .inl ⟨_,rfl⟩)
   rcases hx with⟨b,hb⟩|hb
   ·refine .inl ⟨b,hb,?_⟩;cases want;all_goals
     simp only[HP,hb,EZ]at h
     rcases Ay h with⟨rfl,h⟩|⟨rfl,h⟩<;>rw[L0 hb]at h<;>first|exact .inl ⟨rfl,h⟩|exact .inr ⟨by simp,h⟩
   ·refine .inr ⟨hb,?_⟩;cases want<;>(simp only[HP,hb,EZ]at h;exact h)
  obtain⟨b,hb,⟨hw,h⟩|⟨hw,h⟩⟩|⟨hb,h⟩:=key;·obtain⟨v,H1,⟨k0,hk⟩,h1⟩:=Hl h;obtain⟨σ2,H2,⟨k1,hk1⟩,h2⟩:=ED h1;refine⟨σ2,H2,⟨max k0 k1,λk hk'=>?_⟩,h2⟩;simp only[BG,hb,if_pos hw,hk k (by omega)];exact(by cases dst<;>exact hk1 k (by omega))
  ·obtain⟨σ2,H2,⟨k1,hk1⟩,h2⟩:=ED h;refine⟨σ2,H2,⟨k1,λk hk'=>?_⟩,h2⟩;simp only[BG,hb,if_neg hw];exact(by cases dst<;>exact hk1 k (by omega))
  ·obtain⟨σ2,H2,⟨k1,hk1⟩,h2⟩:=ED h;refine⟨σ2,H2,⟨k1,λk hk'=>?_⟩,h2⟩;simp only[BG,hb];exact(by cases dst<;>exact hk1 k (by omega))
theorem DP:∀ {l:List RO} {fl:List Fg} {σ:Slots} {H:Heap} {Q:List Fg->Slots->Heap->Prop},EF Fs l fl σ H Q->∃fl' σ' H',(∃k0,∀k,k0<=k->Dy (run Fs k) l σ H fl=some (σ',H',fl'))/\Q fl' σ' H'
 | [],fl,σ,H,Q,h=>⟨fl,σ,H,⟨0,λk _=>rfl⟩,h⟩
 | ⟨dst,op,none,sh⟩::r,fl,σ,H,Q,h=>by obtain⟨v,H1,⟨k0,hk⟩,h1⟩:=Hl h;obtain⟨fl2,σ2,H2,⟨k1,hk1⟩,h2⟩:=DP h1;refine⟨fl2,σ2,H2,⟨max k0 k1,λk hk'=>?_⟩,h2⟩;simp only[Dy,RO.run,RO.flag,hk k (by omega)];exact(by cases dst<;>exact hk1 k (by omega))
 | ⟨dst,op,some (g,want),sh⟩::r,fl,σ,H,Q,h=>by
  have key:(∃b,σ.get g = .n (.bool b)/\((b=want/\ZT Fs sh σ H (λv H'=>EF Fs r (fl++[op.fg σ H]) (Fo σ dst v) H' Q) op)\/(b≠want/\EF Fs r (fl++[.q]) (Fo σ dst .undef) H Q)))\/(σ.get g = .undef/\EF Fs r (fl++[.q]) (Fo σ dst .undef) H Q):=by
   have hx:(∃b,σ.get g = .n (.bool b))\/σ.get g = .undef:=by
    cases want;all_goals
     simp only[EF]at h
     generalize σ.get g=x at h
     cases x<;>first
      | exact h.elim
      | exact .inr rfl
      | (rename_i d
         cases d<;>first|exact h.elim|exact .inl ⟨_,rfl⟩)
   rcases hx with⟨b,hb⟩|hb
   ·refine .inl ⟨b,hb,?_⟩;cases want;all_goals
     simp only[EF,hb,EZ]at h
     rcases Ay h with⟨rfl,h⟩|⟨rfl,h⟩<;>rw[L0 hb]at h<;>first|exact .inl ⟨rfl,h⟩|exact .inr ⟨by simp,h⟩
   ·refine .inr ⟨hb,?_⟩;cases want<;>(simp only[EF,hb,EZ]at h;exact h)
  obtain⟨b,hb,⟨hw,h⟩|⟨hw,h⟩⟩|⟨hb,h⟩:=key;·obtain⟨v,H1,⟨k0,hk⟩,h1⟩:=Hl h;obtain⟨fl2,σ2,H2,⟨k1,hk1⟩,h2⟩:=DP h1;refine⟨fl2,σ2,H2,⟨max k0 k1,λk hk'=>?_⟩,h2⟩;simp only[Dy,RO.run,RO.flag,hb,if_pos hw,hk k (by omega)];exact(by cases dst<;>exact hk1 k (by omega))
  ·obtain⟨fl2,σ2,H2,⟨k1,hk1⟩,h2⟩:=DP h;refine⟨fl2,σ2,H2,⟨k1,λk hk'=>?_⟩,h2⟩;simp only[Dy,RO.run,RO.flag,hb,if_neg hw];exact(by cases dst<;>exact hk1 k (by omega))
  ·obtain⟨fl2,σ2,H2,⟨k1,hk1⟩,h2⟩:=DP h;refine⟨fl2,σ2,H2,⟨k1,λk hk'=>?_⟩,h2⟩;simp only[Dy,RO.run,RO.flag,hb];exact(by cases dst<;>exact hk1 k (by omega))
theorem YA:∀ {c:Cmd} {σ:Slots} {H:Heap} {Q:MP},Vc Fs c σ H Q->∃ex σ' H',(∃k0,∀k j,k0<=k->k0<=j->Bd (run Fs k) j c σ H=some (ex,σ',H'))/\Q ex σ' H':=by
 intro c
 induction c with
 | skip=>intro σ H Q h;exact⟨_,_,_,⟨0,λ_ _ _ _=>rfl⟩,h⟩
 | region ops=> intro σ H Q h;simp only[Vc,GY]at h;obtain⟨σ',H',⟨k0,hk⟩,hq⟩:=ED h;exact⟨.norm,σ',H',⟨k0,λk j h1 h2=>by simp only[Bd,hk k h1]⟩,hq⟩
 | drawn ops un=>
  intro σ H Q h;simp only[Vc,GY]at h;obtain⟨fl,σ',H',⟨k0,hk⟩,hq⟩:=DP h;rcases Ay hq with⟨hf,hq⟩|⟨_,hq⟩
  ·exact⟨.norm,σ',H',⟨k0,λk j h1 h2=>by simp only[Bd,hk k h1,hf,if_true]⟩,hq⟩
  ·exact hq.elim
 | seq a b iha ihb=>
  intro σ H Q h;obtain⟨ex,σ1,H1,⟨k0,hk⟩,h1⟩:=iha h
  cases ex with
  | norm=> obtain⟨ex,σ2,H2,⟨k1,hk1⟩,h2⟩:=ihb h1;exact⟨ex,σ2,H2,⟨max k0 k1,λk j h1 h2=>by simp only[Bd,hk k j (by omega) (by omega)];exact hk1 k j (by omega) (by omega)⟩,h2⟩
  | exit i=>exact⟨_,σ1,H1,⟨k0,λk j h1 h2=>by simp only[Bd,hk k j h1 h2]⟩,h1⟩
  | ret=>exact⟨_,σ1,H1,⟨k0,λk j h1 h2=>by simp only[Bd,hk k j h1 h2]⟩,h1⟩
 | cond c a b iha ihb=>
  intro σ H Q h;obtain⟨v,hv,h⟩:=Ai h;cases v<;>try (exact h.elim)
  rename_i d;cases d<;>try (exact h.elim)
  rcases Ay h with⟨rfl,h⟩|⟨rfl,h⟩
  ·rw[N6 hv]at h;obtain⟨ex,σ1,H1,⟨k0,hk⟩,h1⟩:=iha h;exact⟨ex,σ1,H1,⟨k0,λk j h1 h2=>by simp only[Bd,hv];exact hk k j h1 h2⟩,h1⟩
  ·rw[N6 hv]at h;obtain⟨ex,σ1,H1,⟨k0,hk⟩,h1⟩:=ihb h;exact⟨ex,σ1,H1,⟨k0,λk j h1 h2=>by simp only[Bd,hv];exact hk k j h1 h2⟩,h1⟩
 | block id c ih=>
  intro σ H Q h;obtain⟨ex,σ1,H1,⟨k0,hk⟩,h1⟩:=ih h
  cases ex with
  | norm=>exact⟨_,σ1,H1,⟨k0,λk j h1 h2=>by simp only[Bd,hk k j h1 h2]⟩,h1⟩
  | ret=>exact⟨_,σ1,H1,⟨k0,λk j h1 h2=>by simp only[Bd,hk k j h1 h2]⟩,h1⟩
  | exit i=>
   simp only[Yo]at h1;split at h1;·rename_i hi;exact⟨_,σ1,H1,⟨k0,λk j h1 h2=>by simp only[Bd,hk k j h1 h2,if_pos hi]⟩,h1⟩
   ·rename_i hi;exact⟨_,σ1,H1,⟨k0,λk j h1 h2=>by simp only[Bd,hk k j h1 h2,if_neg hi]⟩,h1⟩
 | loop is c ih=>
  intro σ H Q h;rw[Vc,GY]at h;obtain⟨I,μ,h0,hs⟩:=h;generalize σ.length=n at h0 hs;obtain⟨v,j,e1,e2,hI⟩:=Ml (λ_=>rfl) h0;generalize hσ0:σ=σ0 at hs e1;generalize hH0:H=H0 at hs e2;rw[e1,e2];clear e1 e2 h0;have:∀m v j,It.ap is I v->It.ap is μ v=m->∃ex σ' H',(∃k0,∀k j' i,k0<=k->k0<=j'->k0<=i->GU (Bd (run Fs k) j' c) i (It.mk σ0 (WY n j) is v) (It.mkH H0 is v)=some (ex,σ',H'))/\Q ex σ' H':=by
   intro m
   induction m using Nat.strongRecOn with
   | ind m ihm=>
    intro v j hI hm;subst hm;obtain⟨ex,σ1,H1,⟨k0,hk⟩,h1⟩:=ih (It.all_elim hs v hI j)
    cases ex with
    | norm=>
     obtain⟨v',j',rfl,rfl,hI',hlt⟩:=Ml (by simp) h1;obtain⟨ex,σ2,H2,⟨k1,hk1⟩,h2⟩:=ihm _ hlt v' j' hI' rfl;refine⟨ex,σ2,H2,⟨max k0 k1+1,λk j i h1 h2 h3=>?_⟩,h2⟩;obtain⟨i,rfl⟩:∃i',i=i'+1:=⟨i-1,by omega⟩
     simp only[GU,hk k j (by omega) (by omega)];exact hk1 k j i (by omega) (by omega) (by omega)
    | exit e=>
     refine⟨_,σ1,H1,⟨k0+1,λk j i h1 h2 h3=>?_⟩,h1⟩;obtain⟨i,rfl⟩:∃i',i=i'+1:=⟨i-1,by omega⟩
     simp only[GU,hk k j (by omega) (by omega)]
    | ret=>
     refine⟨_,σ1,H1,⟨k0+1,λk j i h1 h2 h3=>?_⟩,h1⟩;obtain⟨i,rfl⟩:∃i',i=i'+1:=⟨i-1,by omega⟩
     simp only[GU,hk k j (by omega) (by omega)]
  obtain⟨ex,σ',H',⟨k0,hk⟩,hq⟩:=this _ v j hI rfl;exact⟨ex,σ',H',⟨k0,λk j h1 h2=>by simp only[Bd];exact hk k j j h1 h2 h2⟩,hq⟩
 | exit id=>intro σ H Q h;exact⟨_,_,_,⟨0,λ_ _ _ _=>rfl⟩,h⟩
 | ret=>intro σ H Q h;exact⟨_,_,_,⟨0,λ_ _ _ _=>rfl⟩,h⟩
 | hint fn keep drop rows data=> intro σ H Q h;simp only[Vc]at h;obtain⟨σ1,H1,h1,h⟩:=B5 h;obtain⟨σ',H',hh,h⟩:=Sj h;rw[<-U1 h1]at hh;exact⟨.norm,σ',H',⟨0,λ_ _ _ _=>by simp only[Bd,hh]⟩,h⟩
def Af (c:FnC)(as:List AV):Slots:=Ns c.ps as++List.replicate (c.ntmps-as.length) (.n .any)
def lY (c:FnC)(R:AV->Prop)(σ:Slots)(H:Heap):Prop:=
 AT (λvs=>Gh H (one vs) λr=>Ae (plain r) (R (c.rs.wk r)) False) (Gs σ H c.results)
def Av (c:FnC)(R:AV->Prop):MP
 | .norm,σ,H=>lY c R σ H
 | .ret,σ,H=>lY c R σ H
 | _,_,_=>False
def We (c:FnC)(R:AV->Heap->Prop)(σ:Slots)(H:Heap):Prop:=
 AT (λvs=>Ae (H.closed (H.reach 1000 (Ek (one vs)++Ak (one vs)) []) [one vs]) (R (c.rs.wk (one vs)) (H.keep (H.reach 1000 (Ek (one vs)++Ak (one vs)) []))) False) (Gs σ H c.results)
def Nh (c:FnC)(R:AV->Heap->Prop):MP
 | .norm,σ,H=>We c R σ H
 | .ret,σ,H=>We c R σ H
 | _,_,_=>False
def Zt (c:FnC)(Hin:Heap)(R:AV->Heap->Prop)(σ:Slots)(H:Heap):Prop:=
 AT (λvs=>Gh H (one vs) λr=>Ae (plain r&&H.closed (H.reach 1000 (Hin.dom++Ek r) []) [r]&&Hin.dom.all (H.reach 1000 (Hin.dom++Ek r) []).contains) (R (c.rs.wk r) ((H.freeze (Ak (one vs))).keep (H.reach 1000 (Hin.dom++Ek r) []))) False) (Gs σ H c.results)
def AP (c:FnC)(Hin:Heap)(R:AV->Heap->Prop):MP
 | .norm,σ,H=>Zt c Hin R σ H
 | .ret,σ,H=>Zt c Hin R σ H
 | _,_,_=>False
theorem Hn {f:Nat}{c:FnC}{as:List AV}{Hin:Heap}{R:AV->Heap->Prop}{Q:MP}(hf:Fs f=some (.code c))(hd:Hin.dom.any (λi=>i / 100000==c.fn)=false)
  (hQ:∀ex σ H,Q ex σ H->(ex = .norm\/ex = .ret)/\∃vs r H',Gs σ H c.results=some vs/\Bw c.own Hin H (one vs)=some (r,H')/\R (c.rs.wk r) H')
  (h:Vc Fs c.body (Af c as) Hin Q):∃r H',Runs Fs f as Hin r H'/\R r H':=by
 obtain⟨ex,σ',H1,⟨k0,hk⟩,hq⟩:=YA h
 obtain⟨hex,vs,r,H',h1,h2,h3⟩:=hQ _ _ _ hq
 refine⟨c.rs.wk r,H',⟨k0+1,λk hk'=>?_⟩,h3⟩
 obtain⟨k,rfl⟩:∃i',k=i'+1:=⟨k-1,by omega⟩
 have:=hk k k (by omega) (by omega)
 unfold Af at this
 rcases hex with rfl|rfl<;>simp only[run,hf,HJ,hd,this,h1,h2]<;>rfl
theorem Vj (H:Heap)(n:Nat):H.reach n [] []=[]:=by cases n<;>rfl
theorem TJ {c:FnC}{R:AV->Prop}(ho:c.own=false)(ex σ H)(h:Av c R ex σ H):(ex = .norm\/ex = .ret)/\∃vs r H',Gs σ H c.results=some vs/\Bw c.own [] H (one vs)=some (r,H')/\(R (c.rs.wk r)/\H'=[]):=by
 have key:lY c R σ H->∃vs r H',Gs σ H c.results=some vs/\Bw c.own [] H (one vs)=some (r,H')/\(R (c.rs.wk r)/\H'=[]):=λh=>by
  obtain⟨vs,hv,h⟩:=Ai h;obtain⟨r,hr,h⟩:=C0 h;rcases Ay h with⟨hp,h⟩|⟨_,h⟩
  ·obtain⟨p1,p2,p3⟩:=GV (H:=[]) hp;refine⟨vs,r,[],hv,?_,h,rfl⟩;have hcl2:∀H:Heap,H.closed [] [r]=true:=λH=>by simp[Heap.closed,refsL,rowsInL,p1,p2]
   simp only[Bw,ho,hr,Heap.dom,List.map_nil,List.nil_append,p1,Vj,hcl2,EI];simp
  ·exact h.elim
 cases ex with
 | norm=>exact⟨.inl rfl,key h⟩
 | ret=>exact⟨.inr rfl,key h⟩
 | exit i=>exact h.elim
theorem Xt {c:FnC}{R:AV->Heap->Prop}(ho:c.own=true)(ex σ H)(h:Nh c R ex σ H):(ex = .norm\/ex = .ret)/\∃vs r H',Gs σ H c.results=some vs/\Bw c.own [] H (one vs)=some (r,H')/\R (c.rs.wk r) H':=by
 have key:We c R σ H->∃vs r H',Gs σ H c.results=some vs/\Bw c.own [] H (one vs)=some (r,H')/\R (c.rs.wk r) H':=λh=>by
  obtain⟨vs,hv,h⟩:=Ai h;rcases Ay h with⟨hp,h⟩|⟨_,h⟩
  ·refine⟨vs,_,_,hv,?_,h⟩;simp only[Bw,ho,Heap.dom,List.map_nil,List.nil_append,hp];simp
  ·exact h.elim
 cases ex with
 | norm=>exact⟨.inl rfl,key h⟩
 | ret=>exact⟨.inr rfl,key h⟩
 | exit i=>exact h.elim
theorem Mz {c:FnC}{Hin:Heap}{R:AV->Heap->Prop}(ho:c.own=false)(ex σ H)(h:AP c Hin R ex σ H):(ex = .norm\/ex = .ret)/\∃vs r H',Gs σ H c.results=some vs/\Bw c.own Hin H (one vs)=some (r,H')/\R (c.rs.wk r) H':=by
 have key:Zt c Hin R σ H->∃vs r H',Gs σ H c.results=some vs/\Bw c.own Hin H (one vs)=some (r,H')/\R (c.rs.wk r) H':=λh=>by
  obtain⟨vs,hv,h⟩:=Ai h;obtain⟨r,hr,h⟩:=C0 h;rcases Ay h with⟨hp,h⟩|⟨_,h⟩
  ·simp only[Bool.and_eq_true]at hp;refine⟨vs,r,_,hv,?_,h⟩;simp only[Bw,ho,hr,hp.1.2,hp.2];simp
  ·exact h.elim
 cases ex with
 | norm=>exact⟨.inl rfl,key h⟩
 | ret=>exact⟨.inr rfl,key h⟩
 | exit i=>exact h.elim
theorem An {f:Nat}{c:FnC}{as:List AV}{r:AV}(hf:Fs f=some (.code c))(ho:c.own=false)(h:Vc Fs c.body (Af c as) [] (Av c (· = r))):Runs Fs f as [] r []:=by obtain⟨r',H',h1,rfl,rfl⟩:=Hn (R:=λx H=>x=r/\H=[]) hf rfl (TJ ho) h;exact h1
theorem O1 {f:Nat}{c:FnC}{as:List AV}{R:AV->Heap->Prop}(hf:Fs f=some (.code c))(ho:c.own=true)(h:Vc Fs c.body (Af c as) [] (Nh c R)):∃r H',Runs Fs f as [] r H'/\R r H':=
 Hn hf rfl (Xt ho) h
theorem Ca {f:Nat}{c:FnC}{as:List AV}{Hin:Heap}{r:AV}(hf:Fs f=some (.code c))(ho:c.own=false)(hd:Hin.dom.any (λi=>i / 100000==c.fn)=false)(h:Vc Fs c.body (Af c as) Hin (AP c Hin λr' H'=>r'=r/\H'=Hin)):Runs Fs f as Hin r Hin:=by obtain⟨r',H',h1,rfl,rfl⟩:=Hn hf hd (Mz ho) h;exact h1
theorem D8 {f:Nat}{c:FnC}{as:List AV}{Hin Hout:Heap}{r:AV}(hf:Fs f=some (.code c))(ho:c.own=false)(hd:Hin.dom.any (λi=>i / 100000==c.fn)=false)(h:Vc Fs c.body (Af c as) Hin (AP c Hin λr' H'=>r'=r/\H'=Hout)):Runs Fs f as Hin r Hout:=by obtain⟨r',H',h1,rfl,rfl⟩:=Hn hf hd (Mz ho) h;exact h1
theorem DH {f:Nat}{c:FnC}{as:List AV}{Hin:Heap}{R:AV->Heap->Prop}(hf:Fs f=some (.code c))(ho:c.own=false)(hd:Hin.dom.any (λi=>i / 100000==c.fn)=false)(h:Vc Fs c.body (Af c as) Hin (AP c Hin R)):∃r H',Runs Fs f as Hin r H'/\R r H':=
 Hn hf hd (Mz ho) h
theorem F0 {f:Nat}{c:FnC}{as:List AV}{R:AV->Prop}(hf:Fs f=some (.code c))(ho:c.own=false)(h:Vc Fs c.body (Af c as) [] (Av c R)):∃r,Runs Fs f as [] r []/\R r:=by obtain⟨r',H',h1,h2,rfl⟩:=Hn (R:=λx H=>R x/\H=[]) hf rfl (TJ ho) h;exact⟨r',h1,h2⟩
end
end Go.Mir
