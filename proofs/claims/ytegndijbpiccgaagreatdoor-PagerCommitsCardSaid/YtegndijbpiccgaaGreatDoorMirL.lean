import Derived.Test.YtegndijbpiccgaaGreatDoorMirK
namespace Go.Mir
set_option linter.unusedVariables false
set_option linter.unusedSimpArgs false
def Fun.orow:Fun→Option (Nat×Nat×Nat×Bool)
 | .code c=>if c.own then c.orow else none
 | .prim o _=>o
def Fun.muts:Fun→Bool
 | .code c=>c.muts
 | .prim ..=>false
def Fun.wps:Fun→List AV→List AV
 | .code c,as=>wkL c.ps as
 | .prim ..,as=>as
def Fun.sh:Fun→Sh→Sh
 | .code c,_=>c.rs
 | .prim ..,s=>s
def Fun.alts:Fun→List (Sh×List It)
 | .code c=>if c.own then c.alts else []
 | .prim ..=>[]
def It.kept:List It→List Nat
 | []=>[]
 | .keepO i :: r=>i :: It.kept r
 | _ :: r=>It.kept r
def Fun.frz:Fun→List Nat
 | .code c=>if c.own then [] else c.alts.flatMap fun a=>It.kept a.2
 | .prim ..=>[]
def Heap.freezeB (b:Bool):List Nat→Heap→Heap
 | [],H=>H
 | i :: r,H=>match H.get i with
   | some (.row _ nw v e sz els)=>Heap.freezeB b r (H.ins i (.row b nw v e sz els))
   | _=>Heap.freezeB b r H
def Heap.exZ (K:Heap→Prop) (l:List Nat) (H:Heap):Prop:=match l with
 | []=>Heap.exS K H
 | i :: r=>∃fz:Bool,Heap.exS K (H.freezeB fz (i :: r))
theorem Heap.exZ_elim {K:Heap→Prop} {l:List Nat} {H:Heap} (h:Heap.exZ K l H):∃y,K y:=by
 cases l with
 | nil=>exact Heap.exS_elim h
 | cons i r=>obtain ⟨fz,h⟩:=h;exact Heap.exS_elim h
def It.obs (K:Heap→Prop):List It→Prop
 | []=>K []
 | .row id e sz nw :: r=>∃(ver:Nat) (els:List D),It.obs (fun H=>K (H.ins id (.row false nw ver e sz els))) r
 | .box id ls :: r=>Lf.exL (fun cs=>It.obs (fun H=>K (H.ins id (.box cs))) r) ls
 | .slot .. :: r=>It.obs K r
 | .rowIn .. :: r=>It.obs K r
 | .ptr .. :: r=>It.obs K r
 | .nilp .. :: r=>It.obs K r
 | .keep _ :: r=>It.obs K r
 | .keepO _ :: r=>It.obs K r
 | .keepF _ :: r=>It.obs K r
theorem It.obs_elim:∀ {is:List It} {K:Heap→Prop},It.obs K is→∃H,K H
 | [],K,h=>⟨_,h⟩
 | .row id e sz nw :: r,K,h=>by
   obtain ⟨ver,els,h⟩:=h
   obtain ⟨H,h⟩:=It.obs_elim (is:=r) h
   exact ⟨_,h⟩
 | .box id ls :: r,K,h=>by
   obtain ⟨cs,h⟩:=Lf.exL_elim (l:=ls) h
   obtain ⟨H,h⟩:=It.obs_elim (is:=r) h
   exact ⟨_,h⟩
 | .slot a b :: r,K,h=>It.obs_elim (is:=r) (K:=K) h
 | .rowIn a b :: r,K,h=>It.obs_elim (is:=r) (K:=K) h
 | .ptr a b c :: r,K,h=>It.obs_elim (is:=r) (K:=K) h
 | .nilp a :: r,K,h=>It.obs_elim (is:=r) (K:=K) h
 | .keep a :: r,K,h=>It.obs_elim (is:=r) (K:=K) h
 | .keepO a :: r,K,h=>It.obs_elim (is:=r) (K:=K) h
 | .keepF a :: r,K,h=>It.obs_elim (is:=r) (K:=K) h
def backQ (f:Nat) (ids lent:List Nat) (H:Heap) (K:AV→Heap→Prop) (r:AV) (H1:Heap):Prop:=is1 K (ownBack (callS' f) (callF f) ids lent H (r,H1))
theorem backQ_elim {f:Nat} {ids lent:List Nat} {H:Heap} {K:AV→Heap→Prop} {r:AV} {H1:Heap} (h:backQ f ids lent H K r H1):∃v H',ownBack (callS' f) (callF f) ids lent H (r,H1)=some (v,H')∧K v H':=by
 unfold backQ is1 at h
 split at h
 · rename_i v H' e;exact ⟨v,H',e,h⟩
 · exact h.elim
def altsQ (Fs:Nat→Option Fun) (f:Nat) (as':List AV) (lent:List Nat) (H:Heap) (K:AV→Heap→Prop):List (Sh×List It)→Prop
 | []=>False
 | [a]=>a.1.ex fun r=>It.obs (fun H1=>Runs Fs (callF f) as' [] r H1∧backQ f [] lent H K r H1) a.2
 | a :: b :: l=>(a.1.ex fun r=>It.obs (fun H1=>Runs Fs (callF f) as' [] r H1∧backQ f [] lent H K r H1) a.2)∨altsQ Fs f as' lent H K (b :: l)
def callQ (Fs:Nat→Option Fun) (own:Bool) (sh:Sh) (H:Heap) (K:AV→Heap→Prop) (f:Nat) (as:List AV):Prop:=
 sel (own&&callR f)
 (someQ (fun F=>sel (H.closed (H.reach 1000 (refsL as++rowsInL as) []) as)
   (match Fun.orow F with
   | some (_,e,sz,_)=>(match as with
     | .row i v :: _=>∃els:List D,Runs Fs (callF f) (Fun.wps F (ageL as)) ((H.keep (H.reach 1000 (refsL as++rowsInL as) [])).age) (.row i (v+1)) (((H.keep (H.reach 1000 (refsL as++rowsInL as) [])).age).ins i (.row false false (v+1) e sz els)) ∧
         backQ f (H.reach 1000 (refsL as++rowsInL as) []) [] H K (.row i (v+1)) (((H.keep (H.reach 1000 (refsL as++rowsInL as) [])).age).ins i (.row false false (v+1) e sz els))
     | _=>False)
   | none=>(Fun.sh F sh).ex fun r=>Heap.exZ (fun H1=>Runs Fs (callF f) (Fun.wps F (ageL as)) ((H.keep (H.reach 1000 (refsL as++rowsInL as) [])).age) r H1 ∧
       backQ f (H.reach 1000 (refsL as++rowsInL as) []) [] H K r H1) (Fun.frz F) ((H.keep (H.reach 1000 (refsL as++rowsInL as) [])).age)) False) (Fs (callF f)))
 (someQ (fun F=>snapLQ H as fun as'=>match Fun.orow F with
   | none=>match Fun.alts F with
     | []=>sel ((refsL as').isEmpty&&(rowsInL as').isEmpty)
       ((Fun.sh F sh).ex fun r=>Runs Fs (callFn own f) (Fun.wps F (ageL as')) [] r []∧sel (plain r) (K r (if hasO r then H.freeze (rowsInL as) else H)) False)
       (sel own False (sel (!((rowsInL as).any (H.reach 1000 (refsL as') []).contains)&&H.closed (H.reach 1000 (refsL as') []) as' && !(H.reach 1000 (refsL as') []).isEmpty)
         (sel (Fun.muts F) ((Fun.sh F sh).ex fun r=>Heap.exZ (fun H1=>Runs Fs f (Fun.wps F (ageL as')) ((H.keep (H.reach 1000 (refsL as') [])).age) r H1 ∧
           sel (plain r&&H1.closed (H.reach 1000 (refsL as') []) [r]) (K r ((H.freeze (rowsInL as)).merge (H1.keep (H.reach 1000 (refsL as') [])))) False) (Fun.frz F) ((H.keep (H.reach 1000 (refsL as') [])).age))
         ((Fun.sh F sh).ex fun r=>Runs Fs f (Fun.wps F (ageL as')) ((H.keep (H.reach 1000 (refsL as') [])).age) r ((H.keep (H.reach 1000 (refsL as') [])).age) ∧
           sel (plain r&&((H.keep (H.reach 1000 (refsL as') [])).age).closed (H.reach 1000 (refsL as') []) [r]) (K r ((H.freeze (rowsInL as)).merge (((H.keep (H.reach 1000 (refsL as') [])).age).keep (H.reach 1000 (refsL as') [])))) False)) False))
     | al=>sel (own&&(refsL as').isEmpty&&(rowsInL as').isEmpty) (altsQ Fs f (Fun.wps F (ageL as')) (rowsInL as) H K al) False
   | some (id,e,sz,nw)=>sel (own&&(refsL as').isEmpty&&(rowsInL as').isEmpty)
       (∃(ver:Nat) (els:List D),Runs Fs (callF f) (Fun.wps F (ageL as')) [] (.row id ver) [(id,.row false nw ver e sz els)]∧backQ f [] (rowsInL as) H K (.row id ver) [(id,.row false nw ver e sz els)]) False) (Fs (callFn own f)))
def opQ (Fs:Nat→Option Fun) (sh:Sh) (σ:Slots) (H:Heap) (K:AV→Heap→Prop) (o:Opn):Prop:=
 match o with
 | .call own f args=>someQ (fun as=>callQ Fs own sh H K f as) (evL σ args)
 | .dyn own x args=>someQ (fun c=>match c with
   | .fn f cap=>someQ (fun as=>callQ Fs own sh H K f (as++cap)) (evL σ args)
   | _=>False) (ev σ x)
 | o=>op1 sh σ H K o
def normS:Slots→(Slots→Prop)→Prop
 | [],K=>K []
 | x :: r,K=>normS r fun s=>K (x :: s)
theorem normS_eq:∀(σ:Slots) (K:Slots→Prop),normS σ K=K σ
 | [],K=>rfl
 | x :: r,K=>by rw[normS,normS_eq r]
def known (σ:Slots) (t:Nat) (b:Bool):Slots:=σ.put t (.n (.bool b))
def knownC (σ:Slots) (c:Operand) (b:Bool):Slots:=
 match c with
 | .tmp t=>known σ t b
 | _=>σ
theorem slots_put_get:∀(σ:Slots) (t:Nat),Slots.put σ t (Slots.get σ t)=σ
 | [],t=>by cases t <;> rfl
 | x :: r,0=>rfl
 | x :: r,t+1=>by simp only[Slots.get,Slots.put,slots_put_get r t]
theorem known_eq {σ:Slots} {t:Nat} {b:Bool} (h:σ.get t = .n (.bool b)):known σ t b=σ:=by
 unfold known;rw[←h];exact slots_put_get _ _
theorem knownC_eq {σ:Slots} {c:Operand} {b:Bool} (h:ev σ c=some (.n (.bool b))):knownC σ c b=σ:=by
 cases c <;> try rfl
 exact known_eq (by simpa[ev] using h)
def asBoolU (K:Bool→Prop) (U:Prop):AV→Prop
 | .n (.bool b)=>K b
 | .undef=>U
 | _=>False
def opsQ (Fs:Nat→Option Fun):List RO→Slots→Heap→(Slots→Heap→Prop)→Prop
 | [],σ,H,Q=>Q σ H
 | ⟨dst,op,none,sh⟩ :: r,σ,H,Q=>opQ Fs sh σ H (fun v H'=>opsQ Fs r (putD σ dst v) H' Q) op
 | ⟨dst,op,some (g,true),sh⟩ :: r,σ,H,Q=>asBoolU (fun b=>sel b (opQ Fs sh (known σ g true) H (fun v H'=>opsQ Fs r (putD (known σ g true) dst v) H' Q) op) (opsQ Fs r (putD (known σ g false) dst .undef) H Q)) (opsQ Fs r (putD σ dst .undef) H Q) (σ.get g)
 | ⟨dst,op,some (g,false),sh⟩ :: r,σ,H,Q=>asBoolU (fun b=>sel b (opsQ Fs r (putD (known σ g true) dst .undef) H Q) (opQ Fs sh (known σ g false) H (fun v H'=>opsQ Fs r (putD (known σ g false) dst v) H' Q) op)) (opsQ Fs r (putD σ dst .undef) H Q) (σ.get g)
def opsQF (Fs:Nat→Option Fun):List RO→List Fg→Slots→Heap→(List Fg→Slots→Heap→Prop)→Prop
 | [],fl,σ,H,Q=>Q fl σ H
 | ⟨dst,op,none,sh⟩ :: r,fl,σ,H,Q=>opQ Fs sh σ H (fun v H'=>opsQF Fs r (fl++[op.fg σ H]) (putD σ dst v) H' Q) op
 | ⟨dst,op,some (g,true),sh⟩ :: r,fl,σ,H,Q=>asBoolU (fun b=>sel b (opQ Fs sh (known σ g true) H (fun v H'=>opsQF Fs r (fl++[op.fg (known σ g true) H]) (putD (known σ g true) dst v) H' Q) op) (opsQF Fs r (fl++[.q]) (putD (known σ g false) dst .undef) H Q)) (opsQF Fs r (fl++[.q]) (putD σ dst .undef) H Q) (σ.get g)
 | ⟨dst,op,some (g,false),sh⟩ :: r,fl,σ,H,Q=>asBoolU (fun b=>sel b (opsQF Fs r (fl++[.q]) (putD (known σ g true) dst .undef) H Q) (opQ Fs sh (known σ g false) H (fun v H'=>opsQF Fs r (fl++[op.fg (known σ g false) H]) (putD (known σ g false) dst v) H' Q) op)) (opsQF Fs r (fl++[.q]) (putD σ dst .undef) H Q) (σ.get g)
def Lf.Ts:List Lf→Type
 | []=>Unit
 | l :: r=>l.T×Lf.Ts r
def Lf.vs:(ls:List Lf)→Lf.Ts ls→List AV
 | [],_=>[]
 | l :: r,(x,xs)=>l.v x :: Lf.vs r xs
def It.T:It→Type
 | .slot _ (.one l)=>l.T
 | .slot _ (.agg ls)=>Lf.Ts ls
 | .row ..=>Nat×List D
 | .box _ ls=>Lf.Ts ls
 | .rowIn ..=>Nat
 | .ptr ..=>Unit
 | .nilp _=>Unit
 | .keep _=>Unit
 | .keepO _=>Unit
 | .keepF _=>Unit
def It.Vals:List It→Type
 | []=>Unit
 | i :: r=>i.T×It.Vals r
def It.Fn (C:Type):List It→Type
 | []=>C
 | .keep _ :: r=>It.Fn C r
 | .keepO _ :: r=>It.Fn C r
 | .keepF _ :: r=>It.Fn C r
 | .slot a b :: r=>(It.slot a b).T→It.Fn C r
 | .row a b c d :: r=>(It.row a b c d).T→It.Fn C r
 | .box a b :: r=>(It.box a b).T→It.Fn C r
 | .rowIn a b :: r=>(It.rowIn a b).T→It.Fn C r
 | .ptr a b c :: r=>(It.ptr a b c).T→It.Fn C r
 | .nilp a :: r=>(It.nilp a).T→It.Fn C r
def It.ap {C:Type}:(is:List It)→It.Fn C is→It.Vals is→C
 | [],f,_=>f
 | .keep _ :: r,f,(_,v)=>It.ap r f v
 | .keepO _ :: r,f,(_,v)=>It.ap r f v
 | .keepF _ :: r,f,(_,v)=>It.ap r f v
 | .slot a b :: r,f,(x,v)=>It.ap r (f x) v
 | .row a b c d :: r,f,(x,v)=>It.ap r (f x) v
 | .box a b :: r,f,(x,v)=>It.ap r (f x) v
 | .rowIn a b :: r,f,(x,v)=>It.ap r (f x) v
 | .ptr a b c :: r,f,(x,v)=>It.ap r (f x) v
 | .nilp a :: r,f,(x,v)=>It.ap r (f x) v
def It.all:(is:List It)→(It.Vals is→Prop)→Prop
 | [],K=>K ()
 | .keep _ :: r,K=>It.all r fun v=>K ((),v)
 | .keepO _ :: r,K=>It.all r fun v=>K ((),v)
 | .keepF _ :: r,K=>It.all r fun v=>K ((),v)
 | .slot a b :: r,K=>∀x:(It.slot a b).T,It.all r fun v=>K (x,v)
 | .row a b c d :: r,K=>∀x:(It.row a b c d).T,It.all r fun v=>K (x,v)
 | .box a b :: r,K=>∀x:(It.box a b).T,It.all r fun v=>K (x,v)
 | .rowIn a b :: r,K=>∀x:(It.rowIn a b).T,It.all r fun v=>K (x,v)
 | .ptr a b c :: r,K=>∀x:(It.ptr a b c).T,It.all r fun v=>K (x,v)
 | .nilp a :: r,K=>∀x:(It.nilp a).T,It.all r fun v=>K (x,v)
theorem It.all_elim:∀ {is:List It} {K:It.Vals is→Prop},It.all is K→∀v,K v
 | [],K,h,()=>h
 | .keep _ :: r,K,h,((),v)=>It.all_elim (is:=r) (K:=fun v=>K ((),v)) h v
 | .keepO _ :: r,K,h,((),v)=>It.all_elim (is:=r) (K:=fun v=>K ((),v)) h v
 | .keepF _ :: r,K,h,((),v)=>It.all_elim (is:=r) (K:=fun v=>K ((),v)) h v
 | .slot a b :: r,K,h,(x,v)=>It.all_elim (is:=r) (K:=fun v=>K (x,v)) (h x) v
 | .row a b c d :: r,K,h,(x,v)=>It.all_elim (is:=r) (K:=fun v=>K (x,v)) (h x) v
 | .box a b :: r,K,h,(x,v)=>It.all_elim (is:=r) (K:=fun v=>K (x,v)) (h x) v
 | .rowIn a b :: r,K,h,(x,v)=>It.all_elim (is:=r) (K:=fun v=>K (x,v)) (h x) v
 | .ptr a b c :: r,K,h,(x,v)=>It.all_elim (is:=r) (K:=fun v=>K (x,v)) (h x) v
 | .nilp a :: r,K,h,(x,v)=>It.all_elim (is:=r) (K:=fun v=>K (x,v)) (h x) v
def asSln (K:Nat→List D→Prop):AV→Prop
 | .n (.sl sz x)=>K sz x
 | _=>False
def asSlo (K:Nat→List D→Prop):AV→Prop
 | .o (.sl sz x)=>K sz x
 | _=>False
def asRow (id:Nat) (K:Nat→Prop):AV→Prop
 | .row i v=>sel (i==id) (K v) False
 | _=>False
def asNil (K:Prop):AV→Prop
 | .n .nil=>K
 | _=>False
def asNilp (K:Prop):AV→Prop
 | .nilp=>K
 | _=>False
def asPtr (id off:Nat) (K:Prop):AV→Prop
 | .ptr i o=>sel (i==id&&o==off) K False
 | _=>False
def Lf.rd1:(l:Lf)→(l.T→Prop)→AV→Prop
 | .row id,K,v=>asRow id K v
 | .nil,K,v=>asNil (K ()) v
 | .nilp,K,v=>asNilp (K ()) v
 | .ptr id off,K,v=>asPtr id off (K ()) v
 | .sln sz,K,v=>asSln (fun sz' x=>sel (sz'==sz) (K x) False) v
 | .slo sz,K,v=>asSlo (fun sz' x=>sel (sz'==sz) (K x) False) v
 | .int k,K,v=>asInt (fun k' x=>sel (k'==k) (K x) False) v
 | .bool,K,v=>asBool K v
 | .str,K,v=>asStr K v
 | .raw,K,v=>K v
def Lf.rdL:(ls:List Lf)→(Lf.Ts ls→Prop)→List AV→Prop
 | [],K,[]=>K ()
 | l :: r,K,v :: vs=>l.rd1 (fun x=>Lf.rdL r (fun xs=>K (x,xs)) vs) v
 | _,_,_=>False
theorem Lf.rd1_elim {l:Lf} {K:l.T→Prop} {v:AV} (h:l.rd1 K v):∃x,v=l.v x∧K x:=by
 cases l with
 | int k=>
   cases v <;> try (exact h.elim)
   rename_i d
   cases d <;> try (exact h.elim)
   rcases sel_elim h with ⟨h1,h⟩|⟨_,h⟩
   · simp only[beq_iff_eq]at h1
     subst h1
     exact ⟨_,rfl,h⟩
   · exact h.elim
 | bool=>
   cases v <;> try (exact h.elim)
   rename_i d
   cases d <;> try (exact h.elim)
   exact ⟨_,rfl,h⟩
 | str=>
   cases v <;> try (exact h.elim)
   rename_i d
   cases d <;> try (exact h.elim)
   exact ⟨_,rfl,h⟩
 | raw=>exact ⟨v,rfl,h⟩
 | row id=>
   cases v <;> try (exact h.elim)
   rcases sel_elim h with ⟨h1,h⟩|⟨_,h⟩
   · simp only[beq_iff_eq]at h1
     subst h1
     exact ⟨_,rfl,h⟩
   · exact h.elim
 | nil=>
   cases v <;> try (exact h.elim)
   rename_i d
   cases d <;> try (exact h.elim)
   exact ⟨(),rfl,h⟩
 | nilp=>
   cases v <;> try (exact h.elim)
   exact ⟨(),rfl,h⟩
 | ptr id off=>
   cases v <;> try (exact h.elim)
   rcases sel_elim h with ⟨h1,h⟩|⟨_,h⟩
   · simp only[Bool.and_eq_true,beq_iff_eq]at h1
     obtain ⟨rfl,rfl⟩:=h1
     exact ⟨(),rfl,h⟩
   · exact h.elim
 | sln sz=>
   cases v <;> try (exact h.elim)
   rename_i d
   cases d <;> try (exact h.elim)
   rcases sel_elim h with ⟨h1,h⟩|⟨_,h⟩
   · simp only[beq_iff_eq]at h1
     subst h1
     exact ⟨_,rfl,h⟩
   · exact h.elim
 | slo sz=>
   cases v <;> try (exact h.elim)
   rename_i d
   cases d <;> try (exact h.elim)
   rcases sel_elim h with ⟨h1,h⟩|⟨_,h⟩
   · simp only[beq_iff_eq]at h1
     subst h1
     exact ⟨_,rfl,h⟩
   · exact h.elim
theorem Lf.rdL_elim:∀ {ls:List Lf} {K:Lf.Ts ls→Prop} {vs:List AV},Lf.rdL ls K vs→∃xs,vs=Lf.vs ls xs∧K xs
 | [],K,[],h=>⟨(),rfl,h⟩
 | [],K,_ :: _,h=>h.elim
 | l :: r,K,[],h=>h.elim
 | l :: r,K,v :: vs,h=>by
   have h0:l.rd1 (fun x=>Lf.rdL r (fun xs=>K (x,xs)) vs) v:=h
   obtain ⟨x,rfl,h1⟩:=Lf.rd1_elim h0
   obtain ⟨xs,rfl,h2⟩:=Lf.rdL_elim (ls:=r) h1
   exact ⟨(x,xs),rfl,h2⟩
def It.rd1 (chk:Bool) (σ0 σ:Slots) (H:Heap):(i:It)→(i.T→Prop)→Prop
 | .slot t (.one l),K=>l.rd1 K (σ.get t)
 | .slot t (.agg ls),K=>match σ.get t with
   | .agg cs=>Lf.rdL ls K cs
   | _=>False
 | .row id e sz nw,K=>match H.get id with
   | some (.row _ _ ver _ _ els)=>K (ver,els)
   | _=>False
 | .box id ls,K=>match H.get id with
   | some (.box cs)=>Lf.rdL ls K cs
   | _=>False
 | .rowIn t id,K=>match σ.get t with
   | .row i v=>sel (i==id) (K v) False
   | _=>False
 | .ptr t id off,K=>match σ.get t with
   | .ptr i o=>sel (i==id&&o==off) (K ()) False
   | _=>False
 | .nilp t,K=>match σ.get t with
   | .nilp=>K ()
   | _=>False
 | .keep t,K=>sel chk (σ.get t=σ0.get t∧K ()) (K ())
 | .keepO _,K=>K ()
 | .keepF _,K=>K ()
def It.rd (chk:Bool) (σ0 σ:Slots) (H:Heap):(is:List It)→(It.Vals is→Prop)→Prop
 | [],K=>K ()
 | i :: r,K=>It.rd1 chk σ0 σ H i fun x=>It.rd chk σ0 σ H r fun v=>K (x,v)
def It.mk1 (σ0 σ:Slots):(i:It)→i.T→Slots
 | .slot t (.one l),x=>σ.put t (l.v x)
 | .slot t (.agg ls),x=>σ.put t (.agg (Lf.vs ls x))
 | .row ..,_=>σ
 | .box ..,_=>σ
 | .rowIn t id,x=>σ.put t (.row id x)
 | .ptr t id off,_=>σ.put t (.ptr id off)
 | .nilp t,_=>σ.put t .nilp
 | .keep t,_=>σ.put t (σ0.get t)
 | .keepO _,_=>σ
 | .keepF _,_=>σ
def It.mk (σ0 σ:Slots):(is:List It)→It.Vals is→Slots
 | [],_=>σ
 | i :: r,(x,v)=>It.mk σ0 (It.mk1 σ0 σ i x) r v
def insO (id:Nat) (H:Heap):Option Ob→Heap
 | some o=>H.ins id o
 | none=>H
def It.mkH (H0:Heap):(is:List It)→It.Vals is→Heap
 | [],_=>[]
 | .row id e sz nw :: r,(x,v)=>(It.mkH H0 r v).ins id (.row false nw x.1 e sz x.2)
 | .box id ls :: r,(x,v)=>(It.mkH H0 r v).ins id (.box (Lf.vs ls x))
 | .slot .. :: r,(_,v)=>It.mkH H0 r v
 | .rowIn .. :: r,(_,v)=>It.mkH H0 r v
 | .ptr .. :: r,(_,v)=>It.mkH H0 r v
 | .nilp .. :: r,(_,v)=>It.mkH H0 r v
 | .keep _ :: r,(_,v)=>It.mkH H0 r v
 | .keepO id :: r,(_,v)=>insO id (It.mkH H0 r v) (H0.get id)
 | .keepF _ :: r,(_,v)=>H0.merge (It.mkH H0 r v)
def junk (n:Nat) (j:Nat→AV):Slots:=(List.range n).map j
theorem Slots.put_get:∀(σ:Slots) (t:Nat),Slots.put σ t (Slots.get σ t)=σ
 | [],t=>by cases t <;> rfl
 | x :: r,0=>rfl
 | x :: r,t+1=>by simp only[Slots.get,Slots.put,Slots.put_get r t]
theorem junk_self:∀(σ:Slots),junk σ.length (Slots.get σ)=σ:=by
 intro σ
 have:∀(σ:Slots) (t:Nat),t<σ.length→σ[t]?=some (Slots.get σ t):=by
   intro σ
   induction σ with
   | nil=>intro t h;simp at h
   | cons x r ih=>intro t h;cases t with
     | zero=>rfl
     | succ t=>simpa[Slots.get] using ih t (by simpa using h)
 refine List.ext_getElem? fun t => ?_
 unfold junk
 rw[List.getElem?_map]
 by_cases h:t<σ.length
 · rw[List.getElem?_range h,this σ t h];rfl
 · rw[List.getElem?_eq_none (by simpa using h),List.getElem?_eq_none (by simpa using h)];rfl
theorem It.rd1_elim {chk:Bool} {σ0 σ:Slots} (hc:chk=false→σ0=σ) {H:Heap} {i:It} {K:i.T→Prop} (h:It.rd1 chk σ0 σ H i K):∃x,It.mk1 σ0 σ i x=σ∧K x:=by
 have put:∀ {t:Nat} {v:AV},σ.get t=v→σ.put t v=σ:=fun h=>by rw[←h];exact Slots.put_get _ _
 cases i with
 | slot t s=>
   cases s with
   | one l=>
     obtain ⟨x,hx,h⟩:=Lf.rd1_elim h
     exact ⟨x,put hx,h⟩
   | agg ls=>
     simp only[It.rd1]at h
     split at h <;> try (exact h.elim)
     rename_i cs hc
     obtain ⟨xs,hx,h2⟩:=Lf.rdL_elim h
     subst hx
     exact ⟨xs,put hc,h2⟩
 | row id e sz nw=>
   simp only[It.rd1]at h
   split at h <;> try (exact h.elim)
   exact ⟨_,rfl,h⟩
 | box id ls=>
   simp only[It.rd1]at h
   split at h <;> try (exact h.elim)
   obtain ⟨xs,hx,h⟩:=Lf.rdL_elim h
   exact ⟨xs,rfl,h⟩
 | rowIn t id=>
   simp only[It.rd1]at h
   split at h <;> try (exact h.elim)
   rename_i i v hv
   rcases sel_elim h with ⟨h1,h⟩|⟨_,h⟩
   · simp only[beq_iff_eq]at h1
     subst h1
     exact ⟨v,put hv,h⟩
   · exact h.elim
 | ptr t id off=>
   simp only[It.rd1]at h
   split at h <;> try (exact h.elim)
   rename_i i v hv
   rcases sel_elim h with ⟨h1,h⟩|⟨_,h⟩
   · simp only[Bool.and_eq_true,beq_iff_eq]at h1
     obtain ⟨rfl,rfl⟩:=h1
     exact ⟨(),put hv,h⟩
   · exact h.elim
 | nilp t=>
   simp only[It.rd1]at h
   split at h <;> try (exact h.elim)
   rename_i hv
   exact ⟨(),put hv,h⟩
 | keep t=>
   rcases sel_elim h with ⟨_,h1,h2⟩|⟨h1,h2⟩
   · exact ⟨(),put h1,h2⟩
   · exact ⟨(),put (by rw[hc h1]),h2⟩
 | keepO id=>exact ⟨(),rfl,h⟩
 | keepF fn=>exact ⟨(),rfl,h⟩
theorem It.rd_elim {chk:Bool} {σ0 σ:Slots} (hc:chk=false→σ0=σ) {H:Heap}:∀ {is:List It} {K:It.Vals is→Prop},It.rd chk σ0 σ H is K→∃v,It.mk σ0 σ is v=σ∧K v
 | [],K,h=>⟨(),rfl,h⟩
 | i :: r,K,h=>by
   obtain ⟨x,h1,h⟩:=It.rd1_elim hc h
   obtain ⟨v,h2,h⟩:=It.rd_elim hc h
   exact ⟨(x,v),by simp only[It.mk,h1,h2],h⟩
def headQ (chk:Bool) (σ0:Slots) (H0:Heap) (n:Nat) (is:List It) (K:It.Vals is→Prop) (σ:Slots) (H:Heap):Prop:=sel (σ.length==n) (It.rd chk σ0 σ H is fun v=>It.mkH H0 is v=H∧K v) False
theorem headQ_elim {chk:Bool} {σ0:Slots} {H0:Heap} {n:Nat} {is:List It} {K:It.Vals is→Prop} {σ:Slots} {H:Heap} (hc:chk=false→σ0=σ) (h:headQ chk σ0 H0 n is K σ H):∃v j,σ=It.mk σ0 (junk n j) is v∧H=It.mkH H0 is v∧K v:=by
 rcases sel_elim h with ⟨h1,h⟩|⟨_,h⟩
 · simp only[beq_iff_eq]at h1
   obtain ⟨v,h2,h3,h4⟩:=It.rd_elim hc h
   exact ⟨v,Slots.get σ,by rw[←h1,junk_self,h2],h3.symm,h4⟩
 · exact h.elim
def hintDataQ:List Nat→Slots→Heap→(Slots→Heap→Prop)→Prop
 | [],σ,H,K=>K σ H
 | s :: r,σ,H,K=>match Nat.ble s 99999 with
   | true=>snapQ H (σ.get s) fun v=>hintDataQ r (σ.put s (age v)) (H.freeze (rowsIn (σ.get s))) K
   | false=>match Nat.ble s 9999999999 with
     | true=>match H.get s with
       | some o=>if o.thaw then hintDataQ r σ (H.ins s o.age) K else hintDataQ r σ H K
       | none=>hintDataQ r σ H K
     | false=>match H.get (cellB s) with
       | some (.box cs)=>match cs[cellC s]? with
         | some x=>snapQ H x fun v=>hintDataQ r σ ((H.freeze (rowsIn x)).ins (cellB s) (.box (cs.set (cellC s) (age v)))) K
         | none=>False
       | _=>False
theorem hintDataQ_elim:∀ {l:List Nat} {σ:Slots} {H:Heap} {K:Slots→Heap→Prop},hintDataQ l σ H K→∃σ' H',hintData l σ H=some (σ',H')∧K σ' H'
 | [],σ,H,K,h=>⟨σ,H,rfl,h⟩
 | s :: r,σ,H,K,h=>by
   unfold hintDataQ at h
   unfold hintData
   cases hb:Nat.ble s 99999 with
   | true=>
     rw[hb]at h
     obtain ⟨v,hv,h⟩:=snapQ_elim h
     dsimp only
     rw[hv]
     exact hintDataQ_elim h
   | false=>
     rw[hb]at h
     dsimp only at h ⊢
     cases hc:Nat.ble s 9999999999 with
     | true=>
       rw[hc]at h
       dsimp only at h ⊢
       cases hg:H.get s with
       | none=>rw[hg]at h;exact hintDataQ_elim h
       | some o=>
         rw[hg]at h
         dsimp only at h ⊢
         by_cases ht:o.thaw=true
         · rw[if_pos ht]at h ⊢;exact hintDataQ_elim h
         · rw[if_neg ht]at h ⊢;exact hintDataQ_elim h
     | false=>
       rw[hc]at h
       dsimp only at h ⊢
       cases hg:H.get (cellB s) with
       | none=>rw[hg]at h;exact h.elim
       | some o=>
         rw[hg]at h
         cases o with
         | row _ _ _ _ _ _=>exact h.elim
         | box cs=>
           dsimp only at h ⊢
           cases hx:cs[cellC s]? with
           | none=>rw[hx]at h;exact h.elim
           | some x=>
             rw[hx]at h
             obtain ⟨v,hv,h⟩:=snapQ_elim h
             dsimp only
             rw[hv]
             exact hintDataQ_elim h
theorem hinted_of {fn:Nat} {keep drop:List Nat} {rows:List (Nat×Nat×Nat×Nat)} {data:List Nat} {σ σ':Slots} {H H':Heap} (h:hintData data σ H=some (σ',H')):hinted fn keep drop rows data σ H=hinted fn keep drop rows [] σ' H':=by
 simp only[hinted,h,hintData]
theorem refsL_map {x:AV} {i:Nat}:∀ {xs:List AV},i∈refsL xs→∃x∈xs,i∈refs x
 | [],h=>by simp[refsL]at h
 | x :: r,h=>by
   simp only[refsL,List.mem_append]at h
   rcases h with h|h
   · exact ⟨x,List.mem_cons_self,h⟩
   · obtain ⟨y,h1,h2⟩:=refsL_map (x:=x) h
     exact ⟨y,List.mem_cons_of_mem _ h1,h2⟩
theorem rowsInL_map {x:AV} {i:Nat}:∀ {xs:List AV},i∈rowsInL xs→∃x∈xs,i∈rowsIn x
 | [],h=>by simp[rowsInL]at h
 | x :: r,h=>by
   simp only[rowsInL,List.mem_append]at h
   rcases h with h|h
   · exact ⟨x,List.mem_cons_self,h⟩
   · obtain ⟨y,h1,h2⟩:=rowsInL_map (x:=x) h
     exact ⟨y,List.mem_cons_of_mem _ h1,h2⟩
theorem refsL_of {x:AV} {i:Nat}:∀ {xs:List AV},x∈xs→i∈refs x→i∈refsL xs
 | y :: r,h,hi=>by
   simp only[refsL,List.mem_append]
   rcases List.mem_cons.1 h with rfl|h
   · exact .inl hi
   · exact .inr (refsL_of h hi)
theorem rowsInL_of {x:AV} {i:Nat}:∀ {xs:List AV},x∈xs→i∈rowsIn x→i∈rowsInL xs
 | y :: r,h,hi=>by
   simp only[rowsInL,List.mem_append]
   rcases List.mem_cons.1 h with rfl|h
   · exact .inl hi
   · exact .inr (rowsInL_of h hi)
theorem slots_at:∀ {σ:Slots} {x:AV},x∈σ→∃i,Slots.get σ i=x
 | y :: r,x,h=>by
   rcases List.mem_cons.1 h with rfl|h
   · exact ⟨0,rfl⟩
   · obtain ⟨i,hi⟩:=slots_at h
     exact ⟨i+1,by simpa[Slots.get] using hi⟩
theorem hintOnly_at (keep:List Nat):∀(σ:Slots) (i t:Nat),Slots.get (hintOnly keep i σ) t=if keep.contains (i+t) then Slots.get σ t else .n .any
 | [],i,t=>by simp[hintOnly,Slots.get]
 | x :: r,i,t=>by
   cases t with
   | zero=>simp[hintOnly,Slots.get]
   | succ t=>
     simp only[hintOnly,Slots.get]
     rw[hintOnly_at keep r (i+1) t]
     have:i+1+t=i+(t+1):=by omega
     rw[this]
theorem closed_kept {H:Heap} {ids keep:List Nat} {σ:Slots} (h:H.closed ids (keep.map (Slots.get (hintOnly keep 0 σ)))=true):H.closed ids (hintOnly keep 0 σ)=true:=by
 unfold Heap.closed at h ⊢
 rw[Bool.and_eq_true]at h ⊢
 refine ⟨?_,h.2⟩
 rw[List.all_eq_true]at h ⊢
 have at_:∀x∈hintOnly keep 0 σ,x = .n .any∨x∈keep.map (Slots.get (hintOnly keep 0 σ)):=fun x hx=>by
   obtain ⟨i,hi⟩:=slots_at hx
   by_cases hk:keep.contains i=true
   · exact .inr (List.mem_map.2 ⟨i,by simpa using hk,hi⟩)
   · left
     rw[←hi,hintOnly_at,Nat.zero_add,if_neg hk]
 intro i hi
 refine h.1 i ?_
 rcases List.mem_append.1 hi with hi|hi
 · obtain ⟨x,hx,hr⟩:=refsL_map (x := .undef) hi
   rcases at_ x hx with rfl|hm
   · simp[refs]at hr
   · exact List.mem_append_left _ (refsL_of hm hr)
 · obtain ⟨x,hx,hr⟩:=rowsInL_map (x := .undef) hi
   rcases at_ x hx with rfl|hm
   · simp[rowsIn]at hr
   · exact List.mem_append_right _ (rowsInL_of hm hr)
def hintQ (fn:Nat) (keep drop:List Nat) (rows:List (Nat×Nat×Nat×Nat)) (σ:Slots) (H:Heap) (K:Slots→Heap→Prop):Prop:=
 normS (hintOnly keep 0 σ) fun σ1=>sel (H.closed (H.dom.filter fun i => !drop.contains i) (keep.map (Slots.get σ1)) && !drop.any (fun i=>i / 100000 != fn)) (isS K (hintRows rows σ1 (H.keep (H.dom.filter fun i => !drop.contains i)))) False
theorem hintQ_elim {fn:Nat} {keep drop:List Nat} {rows:List (Nat×Nat×Nat×Nat)} {σ:Slots} {H:Heap} {K:Slots→Heap→Prop} (h:hintQ fn keep drop rows σ H K):∃σ' H',hinted fn keep drop rows [] σ H=some (σ',H')∧K σ' H':=by
 unfold hintQ at h
 rw[normS_eq]at h
 rcases sel_elim h with ⟨hc,h⟩|⟨_,h⟩
 · rw[Bool.and_eq_true,Bool.not_eq_true']at hc
   have h1:=closed_kept hc.1
   unfold isS at h
   split at h <;> try (exact h.elim)
   rename_i σ' H' hh
   refine ⟨σ',H',?_,h⟩
   unfold hinted
   simp only[hintData]
   rw[if_neg (by rw[h1,hc.2];simp)]
   exact hh
 · exact h.elim
def Vc (Fs:Nat→Option Fun):Cmd→Slots→Heap→Post→Prop
 | .skip,σ,H,Q=>Q .norm σ H
 | .region ops,σ,H,Q=>normS σ fun σ=>opsQ Fs ops σ H fun σ H=>Q .norm σ H
 | .drawn ops un,σ,H,Q=>normS σ fun σ=>opsQF Fs ops [] σ H fun fl σ H=>sel (flagsOK fl un) (Q .norm σ H) False
 | .seq a b,σ,H,Q=>Vc Fs a σ H (thenQ (fun σ H=>Vc Fs b σ H Q) Q)
 | .cond c a b,σ,H,Q=>someQ (asBool fun t=>sel t (Vc Fs a (knownC σ c true) H Q) (Vc Fs b (knownC σ c false) H Q)) (ev σ c)
 | .block id c,σ,H,Q=>Vc Fs c σ H (blockQ id Q)
 | .loop is c,σ,H,Q=>normS σ fun σ=>∃(I:It.Fn Prop is) (μ:It.Fn Nat is),headQ false σ H σ.length is (It.ap is I) σ H ∧
    It.all is fun v=>It.ap is I v→∀j:Nat→AV,Vc Fs c (It.mk σ (junk σ.length j) is v) (It.mkH H is v) (thenQ (headQ true σ H σ.length is fun v'=>It.ap is I v'∧It.ap is μ v'<It.ap is μ v) Q)
 | .exit id,σ,H,Q=>Q (.exit id) σ H
 | .ret,σ,H,Q=>Q .ret σ H
 | .hint fn keep drop rows data,σ,H,Q=>hintDataQ data σ H fun σ H=>hintQ fn keep drop rows σ H fun σ H=>Q .norm σ H
section
variable {Fs:Nat→Option Fun}
theorem wkCs_twice (ls:List Lf):∀(xs:List AV),wkCs ls (wkCs ls xs)=wkCs ls xs:=by
 induction ls with
 | nil=>intro xs;cases xs <;> rfl
 | cons l r ih=>
   intro xs
   cases xs with
   | nil=>rfl
   | cons x s=>
     simp only[wkCs,ih]
     congr 1
     unfold Lf.wk
     split <;> split <;> first|rfl|simp_all
theorem Lf.wk_twice (l:Lf) (x:AV):l.wk (l.wk x)=l.wk x:=by
 unfold Lf.wk
 split <;> split <;> first|rfl|simp_all
theorem S1.wk_twice (l:S1) (x:AV):l.wk (l.wk x)=l.wk x:=by
 cases l with
 | one l=>exact Lf.wk_twice l x
 | agg ls=>cases x <;> first|rfl|simp only[S1.wk,wkCs_twice]
theorem wkL_twice (ls:List S1):∀(xs:List AV),wkL ls (wkL ls xs)=wkL ls xs:=by
 induction ls with
 | nil=>intro xs;cases xs <;> rfl
 | cons l r ih=>
   intro xs
   cases xs with
   | nil=>rfl
   | cons x s=>simp only[wkL,ih,S1.wk_twice]
theorem wkL_len:∀(ls:List S1) (xs:List AV),(wkL ls xs).length=xs.length
 | [],xs=>by cases xs <;> rfl
 | l :: r,[]=>rfl
 | l :: r,x :: s=>by simp[wkL,wkL_len r s]
theorem runFn_wk (call:CallFn) (fuel:Nat) (c:FnC) (as:List AV) (H:Heap):runFn call fuel c (wkL c.ps as) H=runFn call fuel c as H:=by
 unfold runFn
 rw[wkL_twice,wkL_len]
theorem run_wps {F:Fun} {f k:Nat} {as:List AV} {H:Heap} (hf:Fs f=some F):run Fs k f (Fun.wps F as) H=run Fs k f as H:=by
 cases k with
 | zero=>rfl
 | succ k=>
   simp only[run,hf]
   cases F with
   | code c=>exact runFn_wk _ _ _ _ _
   | prim o p=>rfl
theorem runs_wps {F:Fun} {f:Nat} {as:List AV} {H:Heap} {r:AV} {H':Heap} (hf:Fs f=some F) (h:Runs Fs f (Fun.wps F as) H r H'):Runs Fs f as H r H':=by
 obtain ⟨k0,hk⟩:=h
 exact ⟨k0,fun k h=>(run_wps hf).symm.trans (hk k h)⟩
theorem altsQ_elim {f:Nat} {as':List AV} {lent:List Nat} {H:Heap} {K:AV→Heap→Prop}:∀ {al:List (Sh×List It)},altsQ Fs f as' lent H K al→∃r H1,Runs Fs (callF f) as' [] r H1∧backQ f [] lent H K r H1
 | [],h=>h.elim
 | [a],h=>by
   obtain ⟨r,h⟩:=Sh.ex_elim h
   obtain ⟨H1,h⟩:=It.obs_elim h
   exact ⟨r,H1,h⟩
 | a :: b :: l,h=>by
   rcases h with h|h
   · obtain ⟨r,h⟩:=Sh.ex_elim h
     obtain ⟨H1,h⟩:=It.obs_elim h
     exact ⟨r,H1,h⟩
   · exact altsQ_elim (al:=b :: l) h
theorem callQ_sound {own:Bool} {sh:Sh} {H:Heap} {K:AV→Heap→Prop} {f:Nat} {as:List AV} (h:callQ Fs own sh H K f as):∃v H',(∃k0,∀k,k0≤k→doCall (run Fs k) own H f as=some (v,H'))∧K v H':=by
 unfold callQ at h
 replace h:=sel_elim h
 rcases h with ⟨hown,h⟩|⟨hnr,h⟩
 · simp only[Bool.and_eq_true]at hown
   obtain ⟨rfl,hR⟩:=hown
   obtain ⟨F,hF,h⟩:=someQ_elim h
   rcases sel_elim h with ⟨hcl,h⟩|⟨_,h⟩
   · have key:∀ {r:AV} {H1:Heap},Runs Fs (callF f) (Fun.wps F (ageL as)) ((H.keep (H.reach 1000 (refsL as++rowsInL as) [])).age) r H1→backQ f (H.reach 1000 (refsL as++rowsInL as) []) [] H K r H1→∃v H',(∃k0,∀k,k0≤k→doCall (run Fs k) true H f as=some (v,H'))∧K v H':=fun {r H1} hr hb=>by
       obtain ⟨v,H',e,hk⟩:=backQ_elim hb
       obtain ⟨k0,hk0⟩:=runs_wps hF hr
       refine ⟨v,H',⟨k0,fun k hk' => ?_⟩,hk⟩
       unfold doCall
       have e1:callArgs true H f as=some as:=by simp only[callArgs,hR]
       have e2:callRoots true f as=refsL as++rowsInL as:=by simp only[callRoots,hR]
       have e3:callLent true f as=[]:=by simp only[callLent,hR]
       simp only[e1,e2,e3,callFn,hcl,hk0 k hk',e]
       simp
     generalize ho:Fun.orow F=o at h
     rcases o with _|⟨id,e,sz,nw⟩
     · obtain ⟨r,h⟩:=Sh.ex_elim h
       obtain ⟨H1,h1,h2⟩:=Heap.exZ_elim h
       exact key h1 h2
     · dsimp only at h
       split at h
       · obtain ⟨els,h1,h2⟩:=h
         exact key h1 h2
       · exact h.elim
   · exact h.elim
 obtain ⟨F,hF,h⟩:=someQ_elim h
 obtain ⟨as',hs,h⟩:=snapLQ_elim h
 have hreach:H.reach 1000 [] []=[]:=rfl
 have e1:callArgs own H f as=some as':=by
   cases own with
   | false=>exact hs
   | true=>
     have hR:callR f=false:=by simpa using hnr
     simp only[callArgs,hR];exact hs
 have e2:callRoots own f as'=refsL as':=by
   cases own with
   | false=>rfl
   | true=>
     have hR:callR f=false:=by simpa using hnr
     simp only[callRoots,hR]
 have e3:callLent own f as=rowsInL as:=by
   cases own with
   | false=>rfl
   | true=>
     have hR:callR f=false:=by simpa using hnr
     simp only[callLent,hR]
 have back:∀ {r:AV} {H1:Heap},own=true→refsL as'=[]→rowsInL as'=[]→Runs Fs (callF f) (Fun.wps F (ageL as')) [] r H1→backQ f [] (rowsInL as) H K r H1→∃v H',(∃k0,∀k,k0≤k→doCall (run Fs k) own H f as=some (v,H'))∧K v H':=fun {r H1} hown h1 h2 hr hb=>by
   subst hown
   obtain ⟨v,H',e,hk⟩:=backQ_elim hb
   obtain ⟨k0,hk0⟩:=runs_wps (f:=callF f) hF hr
   refine ⟨v,H',⟨k0,fun k hk' => ?_⟩,hk⟩
   have hcl:∀H:Heap,H.closed [] as'=true:=fun H=>by simp[Heap.closed,h1,h2]
   unfold doCall
   simp only[e1,e2,e3,h1,hreach,hcl,keep_nil,Heap.age,callFn,hk0 k hk',e]
   simp
 generalize ho:Fun.orow F=o at h
 rcases o with _|⟨id,e,sz,nw⟩
 · dsimp only at h
   generalize hal:Fun.alts F=al at h
   rcases al with _|⟨a,al⟩
   · dsimp only at h
     replace h:=sel_elim h
     rcases h with ⟨h1,h⟩|⟨h1,h⟩
     · simp only[Bool.and_eq_true,List.isEmpty_iff]at h1
       obtain ⟨h1,h2⟩:=h1
       obtain ⟨r,hr,h⟩:=Sh.ex_elim h
       rcases sel_elim h with ⟨hp,h⟩|⟨_,h⟩
       · obtain ⟨k0,hk⟩:=runs_wps hF hr
         refine ⟨r,_,⟨k0,fun k hk' => ?_⟩,h⟩
         obtain ⟨p1,p2,p3⟩:=plain_ok (H:=[]) hp
         have hcl:∀H:Heap,H.closed [] as'=true:=fun H=>by simp[Heap.closed,h1,h2]
         have hcl2:∀H:Heap,H.closed [] [r]=true:=fun H=>by simp[Heap.closed,refsL,rowsInL,p1,p2]
         unfold doCall
         simp only[e1,e2,e3,h1,hreach,hcl,keep_nil,Heap.age,hk k hk',p3,hcl2,p2]
         have hsw:∀s,(if s=0 then ([]:List (Nat×Nat)) else swPairs s [] 0 [])=[]:=fun s=>by split <;> rfl
         cases own <;> cases hO:hasO r <;> simp[ownBack,hsw,swBad,swAll,Heap.freeze,Heap.merge,Heap.keep,hO]
       · exact h.elim
     · replace h:=sel_elim h
       rcases h with ⟨_,h⟩|⟨hown,hz⟩
       · exact h.elim
       subst hown
       replace hz:=sel_elim hz
       rcases hz with ⟨h2,h⟩|⟨_,h⟩
       · generalize hids:H.reach 1000 (refsL as') []=ids at h h2
         simp only[Bool.and_eq_true,Bool.not_eq_true']at h2
         obtain ⟨⟨g1,g2⟩,g4⟩:=h2
         rcases sel_elim h with ⟨_,h⟩|⟨_,h⟩
         · obtain ⟨r,h⟩:=Sh.ex_elim h
           obtain ⟨H1,hr,h⟩:=Heap.exZ_elim h
           rcases sel_elim h with ⟨hp,h⟩|⟨_,h⟩
           · simp only[Bool.and_eq_true,Bool.not_eq_true']at hp
             obtain ⟨hp1,hp3⟩:=hp
             obtain ⟨k0,hk⟩:=runs_wps (f:=f) hF hr
             refine ⟨r,_,⟨k0,fun k hk' => ?_⟩,h⟩
             obtain ⟨p1,p2,p3⟩:=plain_ok (H:=H1) hp1
             unfold doCall
             simp only[e1,e2,e3,callFn,hids,g1,g2,hk k hk',p3,hp3,p2,Heap.freeze,g4]
             simp
           · exact h.elim
         obtain ⟨r,hr,h⟩:=Sh.ex_elim h
         rcases sel_elim h with ⟨hp,h⟩|⟨_,h⟩
         · simp only[Bool.and_eq_true]at hp
           obtain ⟨k0,hk⟩:=runs_wps (f:=f) hF hr
           refine ⟨r,_,⟨k0,fun k hk' => ?_⟩,h⟩
           obtain ⟨p1,p2,p3⟩:=plain_ok (H:=((H.keep ids).age)) hp.1
           unfold doCall
           simp only[e1,e2,e3,callFn,hids,g1,g2,hk k hk',p3,hp.2,p2,Heap.freeze,g4]
           simp
         · exact h.elim
       · exact h.elim
   · dsimp only at h
     rcases sel_elim h with ⟨h1,h⟩|⟨_,h⟩
     · simp only[Bool.and_eq_true,List.isEmpty_iff]at h1
       obtain ⟨r,H1,hr,hb⟩:=altsQ_elim h
       exact back h1.1.1 h1.1.2 h1.2 hr hb
     · exact h.elim
 · dsimp only at h
   rcases sel_elim h with ⟨h1,h⟩|⟨_,h⟩
   · simp only[Bool.and_eq_true,List.isEmpty_iff]at h1
     obtain ⟨ver,els,hr,hb⟩:=h
     exact back h1.1.1 h1.1.2 h1.2 hr hb
   · exact h.elim
theorem opQ_sound {sh:Sh} {o:Opn} {σ:Slots} {H:Heap} {K:AV→Heap→Prop} (h:opQ Fs sh σ H K o):∃v H',(∃k0,∀k,k0≤k→exec1 (run Fs k) σ H o=some (v,H'))∧K v H':=by
 cases o
 case call own f args=>
  obtain ⟨as,ha,h⟩:=someQ_elim h
  obtain ⟨r,H',⟨k0,hk⟩,h⟩:=callQ_sound h
  exact ⟨r,H',⟨k0,fun k hk'=>by simp only[exec1,ha];exact hk k hk'⟩,h⟩
 case dyn own x args=>
  obtain ⟨c,hc,h⟩:=someQ_elim h
  cases c <;> try (exact h.elim)
  obtain ⟨as,ha,h⟩:=someQ_elim h
  obtain ⟨r,H',⟨k0,hk⟩,h⟩:=callQ_sound h
  exact ⟨r,H',⟨k0,fun k hk'=>by simp only[exec1,hc,ha];exact hk k hk'⟩,h⟩
 all_goals
  simp only[opQ]at h
  obtain ⟨v,H',he,h⟩:=op1_elim h
  exact ⟨v,H',⟨0,fun k _=>he⟩,h⟩
theorem opsQ_sound:∀ {l:List RO} {σ:Slots} {H:Heap} {Q:Slots→Heap→Prop},opsQ Fs l σ H Q→∃σ' H',(∃k0,∀k,k0≤k→execOps (run Fs k) l σ H=some (σ',H'))∧Q σ' H'
 | [],σ,H,Q,h=>⟨σ,H,⟨0,fun k _=>rfl⟩,h⟩
 | ⟨dst,op,none,sh⟩ :: r,σ,H,Q,h=>by
   obtain ⟨v,H1,⟨k0,hk⟩,h1⟩:=opQ_sound h
   obtain ⟨σ2,H2,⟨k1,hk1⟩,h2⟩:=opsQ_sound h1
   refine ⟨σ2,H2,⟨max k0 k1,fun k hk' => ?_⟩,h2⟩
   simp only[execOps,hk k (by omega)]
   exact (by cases dst <;> exact hk1 k (by omega))
 | ⟨dst,op,some (g,want),sh⟩ :: r,σ,H,Q,h=>by
   have key:(∃b,σ.get g = .n (.bool b)∧((b=want∧opQ Fs sh σ H (fun v H'=>opsQ Fs r (putD σ dst v) H' Q) op)∨(b≠want∧opsQ Fs r (putD σ dst .undef) H Q)))∨(σ.get g = .undef∧opsQ Fs r (putD σ dst .undef) H Q):=by
     have hx:(∃b,σ.get g = .n (.bool b))∨σ.get g = .undef:=by
       cases want
       all_goals
        simp only[opsQ]at h
        generalize σ.get g=x at h
        cases x <;> first
         | exact h.elim
         | exact .inr rfl
         | (rename_i d
            cases d <;> first|exact h.elim|exact .inl ⟨_,rfl⟩)
     rcases hx with ⟨b,hb⟩|hb
     · refine .inl ⟨b,hb,?_⟩
       cases want
       all_goals
        simp only[opsQ,hb,asBoolU]at h
        rcases sel_elim h with ⟨rfl,h⟩|⟨rfl,h⟩ <;> rw[known_eq hb]at h <;> first|exact .inl ⟨rfl,h⟩|exact .inr ⟨by simp,h⟩
     · refine .inr ⟨hb,?_⟩
       cases want <;> (simp only[opsQ,hb,asBoolU]at h;exact h)
   obtain ⟨b,hb,⟨hw,h⟩|⟨hw,h⟩⟩|⟨hb,h⟩:=key
   · obtain ⟨v,H1,⟨k0,hk⟩,h1⟩:=opQ_sound h
     obtain ⟨σ2,H2,⟨k1,hk1⟩,h2⟩:=opsQ_sound h1
     refine ⟨σ2,H2,⟨max k0 k1,fun k hk' => ?_⟩,h2⟩
     simp only[execOps,hb,if_pos hw,hk k (by omega)]
     exact (by cases dst <;> exact hk1 k (by omega))
   · obtain ⟨σ2,H2,⟨k1,hk1⟩,h2⟩:=opsQ_sound h
     refine ⟨σ2,H2,⟨k1,fun k hk' => ?_⟩,h2⟩
     simp only[execOps,hb,if_neg hw]
     exact (by cases dst <;> exact hk1 k (by omega))
   · obtain ⟨σ2,H2,⟨k1,hk1⟩,h2⟩:=opsQ_sound h
     refine ⟨σ2,H2,⟨k1,fun k hk' => ?_⟩,h2⟩
     simp only[execOps,hb]
     exact (by cases dst <;> exact hk1 k (by omega))
theorem opsQF_sound:∀ {l:List RO} {fl:List Fg} {σ:Slots} {H:Heap} {Q:List Fg→Slots→Heap→Prop},opsQF Fs l fl σ H Q→∃fl' σ' H',(∃k0,∀k,k0≤k→runOps (run Fs k) l σ H fl=some (σ',H',fl'))∧Q fl' σ' H'
 | [],fl,σ,H,Q,h=>⟨fl,σ,H,⟨0,fun k _=>rfl⟩,h⟩
 | ⟨dst,op,none,sh⟩ :: r,fl,σ,H,Q,h=>by
   obtain ⟨v,H1,⟨k0,hk⟩,h1⟩:=opQ_sound h
   obtain ⟨fl2,σ2,H2,⟨k1,hk1⟩,h2⟩:=opsQF_sound h1
   refine ⟨fl2,σ2,H2,⟨max k0 k1,fun k hk' => ?_⟩,h2⟩
   simp only[runOps,RO.run,RO.flag,hk k (by omega)]
   exact (by cases dst <;> exact hk1 k (by omega))
 | ⟨dst,op,some (g,want),sh⟩ :: r,fl,σ,H,Q,h=>by
   have key:(∃b,σ.get g = .n (.bool b)∧((b=want∧opQ Fs sh σ H (fun v H'=>opsQF Fs r (fl++[op.fg σ H]) (putD σ dst v) H' Q) op)∨(b≠want∧opsQF Fs r (fl++[.q]) (putD σ dst .undef) H Q)))∨(σ.get g = .undef∧opsQF Fs r (fl++[.q]) (putD σ dst .undef) H Q):=by
     have hx:(∃b,σ.get g = .n (.bool b))∨σ.get g = .undef:=by
       cases want
       all_goals
        simp only[opsQF]at h
        generalize σ.get g=x at h
        cases x <;> first
         | exact h.elim
         | exact .inr rfl
         | (rename_i d
            cases d <;> first|exact h.elim|exact .inl ⟨_,rfl⟩)
     rcases hx with ⟨b,hb⟩|hb
     · refine .inl ⟨b,hb,?_⟩
       cases want
       all_goals
        simp only[opsQF,hb,asBoolU]at h
        rcases sel_elim h with ⟨rfl,h⟩|⟨rfl,h⟩ <;> rw[known_eq hb]at h <;> first|exact .inl ⟨rfl,h⟩|exact .inr ⟨by simp,h⟩
     · refine .inr ⟨hb,?_⟩
       cases want <;> (simp only[opsQF,hb,asBoolU]at h;exact h)
   obtain ⟨b,hb,⟨hw,h⟩|⟨hw,h⟩⟩|⟨hb,h⟩:=key
   · obtain ⟨v,H1,⟨k0,hk⟩,h1⟩:=opQ_sound h
     obtain ⟨fl2,σ2,H2,⟨k1,hk1⟩,h2⟩:=opsQF_sound h1
     refine ⟨fl2,σ2,H2,⟨max k0 k1,fun k hk' => ?_⟩,h2⟩
     simp only[runOps,RO.run,RO.flag,hb,if_pos hw,hk k (by omega)]
     exact (by cases dst <;> exact hk1 k (by omega))
   · obtain ⟨fl2,σ2,H2,⟨k1,hk1⟩,h2⟩:=opsQF_sound h
     refine ⟨fl2,σ2,H2,⟨k1,fun k hk' => ?_⟩,h2⟩
     simp only[runOps,RO.run,RO.flag,hb,if_neg hw]
     exact (by cases dst <;> exact hk1 k (by omega))
   · obtain ⟨fl2,σ2,H2,⟨k1,hk1⟩,h2⟩:=opsQF_sound h
     refine ⟨fl2,σ2,H2,⟨k1,fun k hk' => ?_⟩,h2⟩
     simp only[runOps,RO.run,RO.flag,hb]
     exact (by cases dst <;> exact hk1 k (by omega))
theorem vc_sound:∀ {c:Cmd} {σ:Slots} {H:Heap} {Q:Post},Vc Fs c σ H Q→∃ex σ' H',(∃k0,∀k j,k0≤k→k0≤j→exec (run Fs k) j c σ H=some (ex,σ',H'))∧Q ex σ' H':=by
 intro c
 induction c with
 | skip=>intro σ H Q h;exact ⟨_,_,_,⟨0,fun _ _ _ _=>rfl⟩,h⟩
 | region ops=>
   intro σ H Q h
   simp only[Vc,normS_eq]at h
   obtain ⟨σ',H',⟨k0,hk⟩,hq⟩:=opsQ_sound h
   exact ⟨.norm,σ',H',⟨k0,fun k j h1 h2=>by simp only[exec,hk k h1]⟩,hq⟩
 | drawn ops un=>
   intro σ H Q h
   simp only[Vc,normS_eq]at h
   obtain ⟨fl,σ',H',⟨k0,hk⟩,hq⟩:=opsQF_sound h
   rcases sel_elim hq with ⟨hf,hq⟩|⟨_,hq⟩
   · exact ⟨.norm,σ',H',⟨k0,fun k j h1 h2=>by simp only[exec,hk k h1,hf,if_true]⟩,hq⟩
   · exact hq.elim
 | seq a b iha ihb=>
   intro σ H Q h
   obtain ⟨ex,σ1,H1,⟨k0,hk⟩,h1⟩:=iha h
   cases ex with
   | norm=>
     obtain ⟨ex,σ2,H2,⟨k1,hk1⟩,h2⟩:=ihb h1
     exact ⟨ex,σ2,H2,⟨max k0 k1,fun k j h1 h2=>by simp only[exec,hk k j (by omega) (by omega)];exact hk1 k j (by omega) (by omega)⟩,h2⟩
   | exit i=>exact ⟨_,σ1,H1,⟨k0,fun k j h1 h2=>by simp only[exec,hk k j h1 h2]⟩,h1⟩
   | ret=>exact ⟨_,σ1,H1,⟨k0,fun k j h1 h2=>by simp only[exec,hk k j h1 h2]⟩,h1⟩
 | cond c a b iha ihb=>
   intro σ H Q h
   obtain ⟨v,hv,h⟩:=someQ_elim h
   cases v <;> try (exact h.elim)
   rename_i d
   cases d <;> try (exact h.elim)
   rcases sel_elim h with ⟨rfl,h⟩|⟨rfl,h⟩
   · rw[knownC_eq hv]at h
     obtain ⟨ex,σ1,H1,⟨k0,hk⟩,h1⟩:=iha h
     exact ⟨ex,σ1,H1,⟨k0,fun k j h1 h2=>by simp only[exec,hv];exact hk k j h1 h2⟩,h1⟩
   · rw[knownC_eq hv]at h
     obtain ⟨ex,σ1,H1,⟨k0,hk⟩,h1⟩:=ihb h
     exact ⟨ex,σ1,H1,⟨k0,fun k j h1 h2=>by simp only[exec,hv];exact hk k j h1 h2⟩,h1⟩
 | block id c ih=>
   intro σ H Q h
   obtain ⟨ex,σ1,H1,⟨k0,hk⟩,h1⟩:=ih h
   cases ex with
   | norm=>exact ⟨_,σ1,H1,⟨k0,fun k j h1 h2=>by simp only[exec,hk k j h1 h2]⟩,h1⟩
   | ret=>exact ⟨_,σ1,H1,⟨k0,fun k j h1 h2=>by simp only[exec,hk k j h1 h2]⟩,h1⟩
   | exit i=>
     simp only[blockQ]at h1
     split at h1
     · rename_i hi
       exact ⟨_,σ1,H1,⟨k0,fun k j h1 h2=>by simp only[exec,hk k j h1 h2,if_pos hi]⟩,h1⟩
     · rename_i hi
       exact ⟨_,σ1,H1,⟨k0,fun k j h1 h2=>by simp only[exec,hk k j h1 h2,if_neg hi]⟩,h1⟩
 | loop is c ih=>
   intro σ H Q h
   rw[Vc,normS_eq]at h
   obtain ⟨I,μ,h0,hs⟩:=h
   generalize σ.length=n at h0 hs
   obtain ⟨v,j,e1,e2,hI⟩:=headQ_elim (fun _=>rfl) h0
   generalize hσ0:σ=σ0 at hs e1
   generalize hH0:H=H0 at hs e2
   rw[e1,e2]
   clear e1 e2 h0
   have:∀m v j,It.ap is I v→It.ap is μ v=m→∃ex σ' H',(∃k0,∀k j' i,k0≤k→k0≤j'→k0≤i→loopN (exec (run Fs k) j' c) i (It.mk σ0 (junk n j) is v) (It.mkH H0 is v)=some (ex,σ',H'))∧Q ex σ' H':=by
     intro m
     induction m using Nat.strongRecOn with
     | ind m ihm=>
       intro v j hI hm
       subst hm
       obtain ⟨ex,σ1,H1,⟨k0,hk⟩,h1⟩:=ih (It.all_elim hs v hI j)
       cases ex with
       | norm=>
         obtain ⟨v',j',rfl,rfl,hI',hlt⟩:=headQ_elim (by simp) h1
         obtain ⟨ex,σ2,H2,⟨k1,hk1⟩,h2⟩:=ihm _ hlt v' j' hI' rfl
         refine ⟨ex,σ2,H2,⟨max k0 k1+1,fun k j i h1 h2 h3 => ?_⟩,h2⟩
         obtain ⟨i,rfl⟩:∃i',i=i'+1:=⟨i - 1,by omega⟩
         simp only[loopN,hk k j (by omega) (by omega)]
         exact hk1 k j i (by omega) (by omega) (by omega)
       | exit e=>
         refine ⟨_,σ1,H1,⟨k0+1,fun k j i h1 h2 h3 => ?_⟩,h1⟩
         obtain ⟨i,rfl⟩:∃i',i=i'+1:=⟨i - 1,by omega⟩
         simp only[loopN,hk k j (by omega) (by omega)]
       | ret=>
         refine ⟨_,σ1,H1,⟨k0+1,fun k j i h1 h2 h3 => ?_⟩,h1⟩
         obtain ⟨i,rfl⟩:∃i',i=i'+1:=⟨i - 1,by omega⟩
         simp only[loopN,hk k j (by omega) (by omega)]
   obtain ⟨ex,σ',H',⟨k0,hk⟩,hq⟩:=this _ v j hI rfl
   exact ⟨ex,σ',H',⟨k0,fun k j h1 h2=>by simp only[exec];exact hk k j j h1 h2 h2⟩,hq⟩
 | exit id=>intro σ H Q h;exact ⟨_,_,_,⟨0,fun _ _ _ _=>rfl⟩,h⟩
 | ret=>intro σ H Q h;exact ⟨_,_,_,⟨0,fun _ _ _ _=>rfl⟩,h⟩
 | hint fn keep drop rows data=>
   intro σ H Q h
   simp only[Vc]at h
   obtain ⟨σ1,H1,h1,h⟩:=hintDataQ_elim h
   obtain ⟨σ',H',hh,h⟩:=hintQ_elim h
   rw[←hinted_of h1]at hh
   exact ⟨.norm,σ',H',⟨0,fun _ _ _ _=>by simp only[exec,hh]⟩,h⟩
def argsQ (c:FnC) (as:List AV):Slots:=wkL c.ps as++List.replicate (c.ntmps - as.length) (.n .any)
def endR (c:FnC) (R:AV→Prop) (σ:Slots) (H:Heap):Prop:=
 someQ (fun vs=>snapQ H (one vs) fun r=>sel (plain r) (R (c.rs.wk r)) False) (resV σ H c.results)
def endQ (c:FnC) (R:AV→Prop):Post
 | .norm,σ,H=>endR c R σ H
 | .ret,σ,H=>endR c R σ H
 | _,_,_=>False
def endRO (c:FnC) (R:AV→Heap→Prop) (σ:Slots) (H:Heap):Prop:=
 someQ (fun vs=>sel (H.closed (H.reach 1000 (refs (one vs)++rowsIn (one vs)) []) [one vs]) (R (c.rs.wk (one vs)) (H.keep (H.reach 1000 (refs (one vs)++rowsIn (one vs)) []))) False) (resV σ H c.results)
def endQO (c:FnC) (R:AV→Heap→Prop):Post
 | .norm,σ,H=>endRO c R σ H
 | .ret,σ,H=>endRO c R σ H
 | _,_,_=>False
def endRH (c:FnC) (Hin:Heap) (R:AV→Heap→Prop) (σ:Slots) (H:Heap):Prop:=
 someQ (fun vs=>snapQ H (one vs) fun r=>sel (plain r&&H.closed (H.reach 1000 (Hin.dom++refs r) []) [r]&&Hin.dom.all (H.reach 1000 (Hin.dom++refs r) []).contains) (R (c.rs.wk r) ((H.freeze (rowsIn (one vs))).keep (H.reach 1000 (Hin.dom++refs r) []))) False) (resV σ H c.results)
def endQH (c:FnC) (Hin:Heap) (R:AV→Heap→Prop):Post
 | .norm,σ,H=>endRH c Hin R σ H
 | .ret,σ,H=>endRH c Hin R σ H
 | _,_,_=>False
theorem runs_of {f:Nat} {c:FnC} {as:List AV} {Hin:Heap} {R:AV→Heap→Prop} {Q:Post} (hf:Fs f=some (.code c)) (hd:Hin.dom.any (fun i=>i / 100000==c.fn)=false)
  (hQ:∀ex σ H,Q ex σ H→(ex = .norm∨ex = .ret)∧∃vs r H',resV σ H c.results=some vs∧giveBack c.own Hin H (one vs)=some (r,H')∧R (c.rs.wk r) H')
  (h:Vc Fs c.body (argsQ c as) Hin Q):∃r H',Runs Fs f as Hin r H'∧R r H':=by
 obtain ⟨ex,σ',H1,⟨k0,hk⟩,hq⟩:=vc_sound h
 obtain ⟨hex,vs,r,H',h1,h2,h3⟩:=hQ _ _ _ hq
 refine ⟨c.rs.wk r,H',⟨k0+1,fun k hk' => ?_⟩,h3⟩
 obtain ⟨k,rfl⟩:∃i',k=i'+1:=⟨k - 1,by omega⟩
 have:=hk k k (by omega) (by omega)
 unfold argsQ at this
 rcases hex with rfl|rfl <;> simp only[run,hf,runFn,hd,this,h1,h2] <;> rfl
theorem reach_nil (H:Heap) (n:Nat):H.reach n [] []=[]:=by cases n <;> rfl
theorem endQ_ok {c:FnC} {R:AV→Prop} (ho:c.own=false) (ex σ H) (h:endQ c R ex σ H):(ex = .norm∨ex = .ret)∧∃vs r H',resV σ H c.results=some vs∧giveBack c.own [] H (one vs)=some (r,H')∧(R (c.rs.wk r)∧H'=[]):=by
 have key:endR c R σ H→∃vs r H',resV σ H c.results=some vs∧giveBack c.own [] H (one vs)=some (r,H')∧(R (c.rs.wk r)∧H'=[]):=fun h=>by
   obtain ⟨vs,hv,h⟩:=someQ_elim h
   obtain ⟨r,hr,h⟩:=snapQ_elim h
   rcases sel_elim h with ⟨hp,h⟩|⟨_,h⟩
   · obtain ⟨p1,p2,p3⟩:=plain_ok (H:=[]) hp
     refine ⟨vs,r,[],hv,?_,h,rfl⟩
     have hcl2:∀H:Heap,H.closed [] [r]=true:=fun H=>by simp[Heap.closed,refsL,rowsInL,p1,p2]
     simp only[giveBack,ho,hr,Heap.dom,List.map_nil,List.nil_append,p1,reach_nil,hcl2,keep_nil]
     simp
   · exact h.elim
 cases ex with
 | norm=>exact ⟨.inl rfl,key h⟩
 | ret=>exact ⟨.inr rfl,key h⟩
 | exit i=>exact h.elim
theorem endQO_ok {c:FnC} {R:AV→Heap→Prop} (ho:c.own=true) (ex σ H) (h:endQO c R ex σ H):(ex = .norm∨ex = .ret)∧∃vs r H',resV σ H c.results=some vs∧giveBack c.own [] H (one vs)=some (r,H')∧R (c.rs.wk r) H':=by
 have key:endRO c R σ H→∃vs r H',resV σ H c.results=some vs∧giveBack c.own [] H (one vs)=some (r,H')∧R (c.rs.wk r) H':=fun h=>by
   obtain ⟨vs,hv,h⟩:=someQ_elim h
   rcases sel_elim h with ⟨hp,h⟩|⟨_,h⟩
   · refine ⟨vs,_,_,hv,?_,h⟩
     simp only[giveBack,ho,Heap.dom,List.map_nil,List.nil_append,hp]
     simp
   · exact h.elim
 cases ex with
 | norm=>exact ⟨.inl rfl,key h⟩
 | ret=>exact ⟨.inr rfl,key h⟩
 | exit i=>exact h.elim
theorem endQH_ok {c:FnC} {Hin:Heap} {R:AV→Heap→Prop} (ho:c.own=false) (ex σ H) (h:endQH c Hin R ex σ H):(ex = .norm∨ex = .ret)∧∃vs r H',resV σ H c.results=some vs∧giveBack c.own Hin H (one vs)=some (r,H')∧R (c.rs.wk r) H':=by
 have key:endRH c Hin R σ H→∃vs r H',resV σ H c.results=some vs∧giveBack c.own Hin H (one vs)=some (r,H')∧R (c.rs.wk r) H':=fun h=>by
   obtain ⟨vs,hv,h⟩:=someQ_elim h
   obtain ⟨r,hr,h⟩:=snapQ_elim h
   rcases sel_elim h with ⟨hp,h⟩|⟨_,h⟩
   · simp only[Bool.and_eq_true]at hp
     refine ⟨vs,r,_,hv,?_,h⟩
     simp only[giveBack,ho,hr,hp.1.2,hp.2]
     simp
   · exact h.elim
 cases ex with
 | norm=>exact ⟨.inl rfl,key h⟩
 | ret=>exact ⟨.inr rfl,key h⟩
 | exit i=>exact h.elim
theorem vc_eq {f:Nat} {c:FnC} {as:List AV} {r:AV} (hf:Fs f=some (.code c)) (ho:c.own=false) (h:Vc Fs c.body (argsQ c as) [] (endQ c (· = r))):Runs Fs f as [] r []:=by
 obtain ⟨r',H',h1,rfl,rfl⟩:=runs_of (R:=fun x H=>x=r∧H=[]) hf rfl (endQ_ok ho) h
 exact h1
theorem vc_own {f:Nat} {c:FnC} {as:List AV} {R:AV→Heap→Prop} (hf:Fs f=some (.code c)) (ho:c.own=true) (h:Vc Fs c.body (argsQ c as) [] (endQO c R)):∃r H',Runs Fs f as [] r H'∧R r H':=
 runs_of hf rfl (endQO_ok ho) h
theorem vc_look {f:Nat} {c:FnC} {as:List AV} {Hin:Heap} {r:AV} (hf:Fs f=some (.code c)) (ho:c.own=false) (hd:Hin.dom.any (fun i=>i / 100000==c.fn)=false) (h:Vc Fs c.body (argsQ c as) Hin (endQH c Hin fun r' H'=>r'=r∧H'=Hin)):Runs Fs f as Hin r Hin:=by
 obtain ⟨r',H',h1,rfl,rfl⟩:=runs_of hf hd (endQH_ok ho) h
 exact h1
theorem vc_mut {f:Nat} {c:FnC} {as:List AV} {Hin Hout:Heap} {r:AV} (hf:Fs f=some (.code c)) (ho:c.own=false) (hd:Hin.dom.any (fun i=>i / 100000==c.fn)=false) (h:Vc Fs c.body (argsQ c as) Hin (endQH c Hin fun r' H'=>r'=r∧H'=Hout)):Runs Fs f as Hin r Hout:=by
 obtain ⟨r',H',h1,rfl,rfl⟩:=runs_of hf hd (endQH_ok ho) h
 exact h1
theorem vc_objs {f:Nat} {c:FnC} {as:List AV} {Hin:Heap} {R:AV→Heap→Prop} (hf:Fs f=some (.code c)) (ho:c.own=false) (hd:Hin.dom.any (fun i=>i / 100000==c.fn)=false) (h:Vc Fs c.body (argsQ c as) Hin (endQH c Hin R)):∃r H',Runs Fs f as Hin r H'∧R r H':=
 runs_of hf hd (endQH_ok ho) h
theorem vc_runs {f:Nat} {c:FnC} {as:List AV} {R:AV→Prop} (hf:Fs f=some (.code c)) (ho:c.own=false) (h:Vc Fs c.body (argsQ c as) [] (endQ c R)):∃r,Runs Fs f as [] r []∧R r:=by
 obtain ⟨r',H',h1,h2,rfl⟩:=runs_of (R:=fun x H=>R x∧H=[]) hf rfl (endQ_ok ho) h
 exact ⟨r',h1,h2⟩
end
end Go.Mir
