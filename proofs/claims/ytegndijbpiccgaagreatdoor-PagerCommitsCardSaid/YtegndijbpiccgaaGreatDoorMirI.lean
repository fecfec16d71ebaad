import Derived.Test.YtegndijbpiccgaaGreatDoorMirH
namespace Go.Mir
set_option linter.unusedVariables false
set_option linter.unusedSimpArgs false
open Go.RowKit
def trR (P:Program):List ResultVar→Option (List Res)
 | []=>some []
 | .tmp t :: r=>match trR P r with
   | some s=>some (.tmp t :: s)
   | none=>none
 | .cell a t :: r=>match aggSize P t,trR P r with
   | some z,some s=>some (.cell a z :: s)
   | _,_=>none
section
variable {P:Program} {w:World} {C:Cx} {own:Nat→Prop} {m m0:Places} {w0:World} {H:Heap} {σ:Slots} {a:Act} {call:CallFn}
def resOf (tmps:Array Value):ResultVar→Sem Value
 | .tmp t=>pure (tmps.getD t undef)
 | .cell a t=>do loadVar t (←asAddr (tmps.getD a undef))
theorem resV_sound (hr:HR w C own m H) (hv:∀t,VR w C (owned H m) m (σ.get t) (a.tmps.getD t undef)):∀ {l:List ResultVar} {rs:List Res} {vs:List AV},trR P l=some rs→resV σ H rs=some vs →
   ∃us,(l.mapM (resOf a.tmps)).run P w = .ok us w∧Cells w C (owned H m) m vs us
 | [],rs,vs,ht,h=>by
   simp only[trR,Option.some.injEq]at ht;subst ht
   simp only[resV,Option.some.injEq]at h;subst h
   exact ⟨[],by simp,rfl,fun i c u h=>by simp at h⟩
 | .tmp t :: r,rs,vs,ht,h=>by
   simp only[trR]at ht
   split at ht <;> simp only[Option.some.injEq,reduceCtorEq]at ht
   rename_i s hs
   subst ht
   simp only[resV]at h
   split at h <;> simp only[Option.some.injEq,reduceCtorEq]at h
   rename_i v _ s' hs1 hs'
   simp only[Option.some.injEq,Prod.mk.injEq]at hs1
   obtain ⟨rfl,_⟩:=hs1
   subst h
   obtain ⟨us,h1,h2⟩:=resV_sound hr hv hs hs'
   refine ⟨a.tmps.getD t undef :: us,by simp[List.mapM_cons,resOf,h1],by simp[h2.1],fun i c u hc hu => ?_⟩
   cases i with
   | zero=>simp only[List.getElem?_cons_zero,Option.some.injEq]at hc hu;subst hc;subst hu;exact hv t
   | succ i=>exact h2.2 i c u (by simpa using hc) (by simpa using hu)
 | .cell x t :: r,rs,vs,ht,h=>by
   simp only[trR]at ht
   split at ht <;> simp only[Option.some.injEq,reduceCtorEq]at ht
   rename_i z s hz hs
   subst ht
   simp only[resV]at h
   split at h <;> simp only[Option.some.injEq,reduceCtorEq]at h
   rename_i v _ s' hs1 hs'
   subst h
   obtain ⟨us,h1,h2⟩:=resV_sound hr hv hs hs'
   let o:Oper := { (default:Oper) with op := .load t (.tmp x) }
   obtain ⟨_,u,htell,hvu⟩:=q_ld (a:=a) (o:=o) hr hv hz rfl hs1
   have hl:(resOf a.tmps (.cell x t)).run P w = .ok u w:=by
     simp only[Tells,execOp,o,Instr.loadAt]at htell
     simp only[resOf]
     have he:a.eval (.tmp x)=a.tmps.getD x undef:=rfl
     rw[he]at htell
     generalize a.tmps.getD x undef=y at htell
     cases y <;> try (simp[Instr.sureAddr]at htell;done)
     rename_i q
     cases q with
     | none=>simp[Instr.sureAddr]at htell
     | some ad=>
       simp only[Instr.sureAddr,asAddr]at htell ⊢
       simp only[Sem.run_bind,Sem.run_pure,Result.andThen_ok]at htell ⊢
       generalize hR:(loadVar t ad).run P w=R at htell
       cases R with
       | ok v w'=>simpa using htell
       | halt r w'=>simp at htell
   refine ⟨u :: us,by simp[List.mapM_cons,hl,h1],by simp[h2.1],fun i c u' hc hu => ?_⟩
   cases i with
   | zero=>simp only[List.getElem?_cons_zero,Option.some.injEq]at hc hu;subst hc;subst hu;exact hvu
   | succ i=>exact h2.2 i c u' (by simpa using hc) (by simpa using hu)
theorem results_one {fn:Func} {tmps:Array Value} {us:List Value} {vs:List AV} (h:(fn.results.toList.mapM (resOf tmps)).run P w = .ok us w) (hc:Cells w C (owned H m) m vs us):
   ∃u,(results fn tmps).run P w = .ok u w∧VR w C (owned H m) m (one vs) u:=by
 have hm:(fn.results.mapM (resOf tmps)).run P w = .ok us.toArray w:=by
   rw[Array.mapM_eq_mapM_toList]
   simp[h]
 have hr:(results fn tmps).run P w = .ok (if h:us.toArray.size=1 then us.toArray[0] else .tuple us.toArray) w:=by
   have e:results fn tmps=(do let vs ←fn.results.mapM (resOf tmps);pure (if h:vs.size=1 then vs[0] else .tuple vs)):=by
    unfold results
    congr 1
   rw[e,Sem.run_bind,hm]
   rfl
 refine ⟨_,hr,?_⟩
 match us,vs,hc with
 | [],[],hc=>exact .tup [] [] rfl fun i c v h=>by simp at h
 | [u],[v],hc=>exact hc.2 0 v u rfl rfl
 | u :: u' :: us,v :: v' :: vs,hc=>exact .tup _ _ hc.1 hc.2
 | [],_ :: _,hc=>exact absurd hc.1 (by simp)
 | _ :: _,[],hc=>exact absurd hc.1 (by simp)
 | [u],_ :: _ :: _,hc=>exact absurd hc.1 (by simp)
 | _ :: _ :: _,[v],hc=>exact absurd hc.1 (by simp)
theorem giveBack_sound {Hin:Heap} {o:Bool} {r r':AV} {u:Value} {H':Heap} (S:St w0 C own m0 m σ H a w) (hin:HR w0 C own m0 Hin) (hv:VR w C (owned H m) m r u) (h:giveBack o Hin H r=some (r',H')):
   ∃m',((∀i v l,m0 i v=some l→m' i v=some l)∧∀i v l b,m' i v=some l→l.block=some b→b<C.N→∃v' l',m0 i v'=some l'∧l'.block=some b) ∧
     HR w C own m' H'∧VR w C (owned H' m') m' r' u∧∀i,(Hin.get i).isSome=true→(H'.get i).isSome=true:=by
 have place:∀i,(Hin.get i).isSome=true→(H.get i).isSome=true:=fun i hi=>by
   obtain ⟨o,ho⟩:=Option.isSome_iff_exists.1 hi
   have:=hin.objs i o ho
   cases o with
   | box cs=>obtain ⟨b,_,_,h1,_⟩:=this;exact S.hr.dom i _ _ (S.p _ _ _ h1)
   | row=>obtain ⟨l,_,h1,_⟩:=this;exact S.hr.dom i _ _ (S.p _ _ _ h1)
 cases o with
 | true=>
   simp only[giveBack]at h
   split at h <;> simp only[Option.some.injEq,reduceCtorEq,Prod.mk.injEq]at h
   rename_i hc
   obtain ⟨rfl,rfl⟩:=h
   generalize hids:H.reach 1000 (Hin.dom++refs r++rowsIn r) []=ids at hc ⊢
   simp only[Bool.and_eq_true]at hc
   have hdom:∀i,(Hin.get i).isSome=true→ids.contains i=true:=fun i hi=>List.all_eq_true.1 hc.2 i (dom_get hi)
   obtain ⟨hc1,hc2⟩:=closed_boxes hc.1
   obtain ⟨hr2,L⟩:=S.hr.fewer hc2
   refine ⟨m.only ids,⟨fun i v l h=>Places.only_some.2 ⟨hdom i (hin.dom i v l h),S.p i v l h⟩,fun i v l b h hb hlt=>S.fr i v l b (Places.only_some.1 h).2 hb hlt⟩,hr2,?_,fun i hi => ?_⟩
   · exact (hv.only (fun i hi=>hc1 i (by simpa[refsL,rowsInL] using hi))).conv (fun b h1 h2=>L.n b h1 h2) (fun b h1 h2=>L.o b h1 h2) (fun _ _ _ h=>h)
   · rw[Heap.get_keep,if_pos (hdom i hi)];exact place i hi
 | false=>
   simp only[giveBack]at h
   split at h <;> try (simp at h;done)
   rename_i r1 hsn
   split at h <;> simp only[Option.some.injEq,reduceCtorEq,Prod.mk.injEq]at h
   rename_i hc
   obtain ⟨rfl,rfl⟩:=h
   generalize hids:H.reach 1000 (Hin.dom++refs r1) []=ids at hc ⊢
   simp only[Bool.and_eq_true]at hc
   have hdom:∀i,(Hin.get i).isSome=true→ids.contains i=true:=fun i hi=>List.all_eq_true.1 hc.2 i (dom_get hi)
   obtain ⟨hc1,hc2⟩:=closed_boxes hc.1
   have hrf:=freeze_hr (rowsIn r) S.hr
   have hvf:=snap_frozen S.hr S.sub hv hsn
   obtain ⟨hr2,L⟩:=hrf.fewer (ids:=ids) (fun i cs hi hg=>by
     have:H.get i=some (.box cs):=by
       rw[Heap.get_freeze]at hg
       split at hg
       · cases hg
       · exact hg
     exact hc2 i cs hi this)
   refine ⟨m.only ids,⟨fun i v l h=>Places.only_some.2 ⟨hdom i (hin.dom i v l h),S.p i v l h⟩,fun i v l b h hb hlt=>S.fr i v l b (Places.only_some.1 h).2 hb hlt⟩,hr2,?_,fun i hi => ?_⟩
   · exact (hvf.only (fun i hi=>hc1 i (by simpa[refsL,rowsInL] using hi))).conv (fun b h1 h2=>L.n b h1 h2) (fun b h1 h2=>L.o b h1 h2) (fun _ _ _ h=>h)
   · rw[Heap.get_keep,if_pos (hdom i hi),Heap.get_freeze]
     split
     · rfl
     · exact place i hi
theorem VR.lf_wk {l:Lf} {x:AV} {u:Value} {ow:Nat→Prop} (h:VR w C ow m x u):VR w C ow m (l.wk x) u:=by
 unfold Lf.wk
 split
 · cases h with
   | n _ _ h=>cases h;exact .o _ _ (.sl0 _)
 · cases h with
   | n _ _ h=>exact .o _ _ (h.mono (Nat.le_refl _) fun b h1 _=>⟨Cx.okn_okm h1,rfl⟩)
 · cases h with
   | n _ _ h=>cases h;exact .n _ _ (.sl0 _)
 · exact h
theorem wkCs_ok {ow:Nat→Prop}:∀ {ls:List Lf} {xs:List AV} {us:List Value},Cells w C ow m xs us→Cells w C ow m (wkCs ls xs) us
 | [],xs,us,h=>by cases xs <;> exact h
 | l :: r,[],us,h=>h
 | l :: r,x :: s,us,h=>by
   cases us with
   | nil=>exact absurd h.1 (by simp)
   | cons u us=>
     have ht:Cells w C ow m s us:=⟨by simpa using h.1,fun i c v hc hv=>h.2 (i+1) c v (by simpa using hc) (by simpa using hv)⟩
     have:=wkCs_ok (ls:=r) ht
     refine ⟨by simpa[wkCs] using this.1,fun i c v hc hv => ?_⟩
     cases i with
     | zero=>simp only[wkCs,List.getElem?_cons_zero,Option.some.injEq]at hc hv;subst hc;subst hv;exact VR.lf_wk (h.2 0 x u rfl rfl)
     | succ i=>exact this.2 i c v (by simpa[wkCs] using hc) (by simpa using hv)
theorem VR.s1_wk {l:S1} {x:AV} {u:Value} {ow:Nat→Prop} (h:VR w C ow m x u):VR w C ow m (l.wk x) u:=by
 unfold S1.wk
 split
 · exact VR.lf_wk h
 · obtain ⟨vs,h1,h2,rfl⟩:=h.agg_inv
   have:=wkCs_ok (ls:=by assumption) ⟨h1,h2⟩
   exact .agg _ _ this.1 this.2
 · exact h
theorem wkL_ok {ow:Nat→Prop}:∀ {ls:List S1} {xs:List AV} {us:List Value},Cells w C ow m xs us→Cells w C ow m (wkL ls xs) us
 | [],xs,us,h=>by cases xs <;> exact h
 | l :: r,[],us,h=>h
 | l :: r,x :: s,us,h=>by
   cases us with
   | nil=>exact absurd h.1 (by simp)
   | cons u us=>
     have ht:Cells w C ow m s us:=⟨by simpa using h.1,fun i c v hc hv=>h.2 (i+1) c v (by simpa using hc) (by simpa using hv)⟩
     have:=wkL_ok (ls:=r) ht
     refine ⟨by simpa[wkL] using this.1,fun i c v hc hv => ?_⟩
     cases i with
     | zero=>simp only[wkL,List.getElem?_cons_zero,Option.some.injEq]at hc hv;subst hc;subst hv;exact VR.s1_wk (h.2 0 x u rfl rfl)
     | succ i=>exact this.2 i c v (by simpa[wkL] using hc) (by simpa using hv)
theorem VR.sh_wk {l:Sh} {x:AV} {u:Value} {ow:Nat→Prop} (h:VR w C ow m x u):VR w C ow m (l.wk x) u:=by
 unfold Sh.wk
 split
 · exact VR.s1_wk h
 · obtain ⟨vs,h1,h2,rfl⟩:=h.tup_inv
   have:=wkL_ok (ls:=by assumption) ⟨h1,h2⟩
   exact .tup _ _ this.1 this.2
 · exact h
theorem wkL_length:∀(ls:List S1) (xs:List AV),(wkL ls xs).length=xs.length
 | [],xs=>by cases xs <;> rfl
 | l :: r,[]=>rfl
 | l :: r,x :: s=>by simp[wkL,wkL_length r s]
structure IsFn (P:Program) (f:Nat) (c:FnC):Prop where
 is : ∃ fn body keep hs ls, P.funcs[f]? = some fn ∧ fn.body = some body ∧ (fn.name == "runtime.NumGoroutine") = false ∧ fn.ntmps = c.ntmps ∧ trR P fn.results.toList = some c.results ∧ trC P keep c.fn hs ls body = some c.body
theorem IsFn.callable {f:Nat} {c:FnC} (h:IsFn P f c):Callable P f:=by
 obtain ⟨fn,body,keep,hs,ls,h1,h2,h3,_⟩:=h.is
 intro args w
 have h3' : ¬ fn.name = "runtime.NumGoroutine" := by simpa using h3
 simp[callFunc,go_sem,h1,h2,h3']
theorem Slots.get_eq (σ:Slots) (t:Nat):Slots.get σ t=(σ[t]?).getD (.n .any):=by
 induction σ generalizing t with
 | nil=>cases t <;> rfl
 | cons x r ih=>cases t with
   | zero=>rfl
   | succ t=>simpa[Slots.get] using ih t
theorem runFn_sound {fuel:Nat} (hcall:CallsOK P call) {f:Nat} {c:FnC} (hfn:IsFn P f c) {as:List AV} {H:Heap} {r:AV} {H':Heap} (h:runFn call fuel c as H=some (r,H')):Spec P f as H r H':=by
 obtain ⟨fn,body,keep,hs,ls,h1,h2,h3,h4,h5,h6⟩:=hfn.is
 intro w al m vs hr hal hc
 unfold runFn at h
 split at h <;> try (cases h;done)
 rename_i hdom
 simp only[Bool.not_eq_true]at hdom
 have hm0:∀i v l,m i v=some l→i / 100000≠c.fn:=fun i v l hm he=>by
   have:H.dom.any (fun i=>i / 100000==c.fn)=true:=List.any_eq_true.2 ⟨i,dom_get (hr.dom i v l hm),by simpa using he⟩
   rw[this]at hdom;cases hdom
 refine calls_of_wp h1 h2 ?_
 replace hc:=wkL_ok (ls:=c.ps) hc
 have hlen:=wkL_length c.ps as
 generalize wkL c.ps as=bs at hc hlen h
 rw[←hlen]at h
 clear hlen
 clear as
 revert bs
 intro as hc h
 have S0:St w ⟨w.heap.size,al⟩ (owned H m) m m (as++List.replicate (c.ntmps - as.length) (.n .any)) H { tmps:=vs.toArray++Array.replicate (fn.ntmps - vs.toArray.size) undef,defers:=[] } w:=by
   refine ⟨fun t => ?_,?_,rfl,hr,Keep.refl _ _ _,rfl,hal,Nat.le_refl _,fun _ _ _ h=>h,fun i v l b h hb _=>⟨v,l,h,hb⟩⟩
   · rw[Slots.get_eq]
     by_cases ht:t<as.length
     · have ht':t<vs.length:=hc.1▸ht
       rw[List.getElem?_append_left ht]
       have e:(vs.toArray++Array.replicate (fn.ntmps - vs.toArray.size) undef).getD t undef=vs[t]:=by
        simp[Array.getD,Array.getElem_append,ht']
        omega
       rw[e]
       exact hc.2 t _ _ (by rw[List.getElem?_eq_getElem ht];rfl) (List.getElem?_eq_getElem ht')
     · rw[List.getElem?_append_right (by omega)]
       rw[List.getElem?_replicate]
       split <;> exact .any _
   · have:=hc.1
     simp[h4,this]
 have fin:∀ {ex:Ex} {σ':Slots} {H1:Heap},(ex = .norm∨ex = .ret)→exec call fuel c.body (as++List.replicate (c.ntmps - as.length) (.n .any)) H=some (ex,σ',H1) →
     (match resV σ' H1 c.results with|some vs=>(giveBack c.own H H1 (one vs)).map fun p=>(c.rs.wk p.1,p.2)|none=>none)=some (r,H') →
     body.wp P (bodyPost P fn fun e w'=>∃u m',e = .returned u∧((∀i v l,m i v=some l→m' i v=some l)∧∀i v l b,m' i v=some l→l.block=some b→b<w.heap.size→∃v' l',m i v'=some l'∧l'.block=some b) ∧
       HR w' ⟨w.heap.size,al⟩ (owned H m) m' H'∧VR w' ⟨w.heap.size,al⟩ (owned H' m') m' r u∧Keep w.heap.size (owned H m) w w'∧∀i,(H.get i).isSome=true→(H'.get i).isSome=true)
       { tmps:=vs.toArray++Array.replicate (fn.ntmps - vs.toArray.size) undef,defers:=[] } w:=by
   intro ex σ' H1 hex he hg
   refine exec_sound hcall hm0 h6 he S0 fun m' a' w' S' => ?_
   split at hg <;> try (cases hg;done)
   rename_i rs hrs
   obtain ⟨us,hu1,hu2⟩:=resV_sound (P:=P) S'.hr S'.vals h5 hrs
   obtain ⟨u,hu3,hu4⟩:=results_one hu1 hu2
   obtain ⟨⟨r0,H0⟩,hg0,hg1⟩:=Option.map_eq_some_iff.1 hg
   simp only[Prod.mk.injEq]at hg1
   obtain ⟨e1,e2⟩:=hg1
   obtain ⟨m2,g1,g2,g3,g4⟩:=giveBack_sound S' hr hu4 hg0
   replace g3:=VR.sh_wk (l:=c.rs) g3
   rw[e1]at g3
   rw[e2]at g2 g3 g4
   have:a'.defers=[]∧∃v,(results fn a'.tmps).run P w' = .ok v w'∧∃u m',Ending.returned v = .returned u∧((∀i v l,m i v=some l→m' i v=some l)∧∀i v l b,m' i v=some l→l.block=some b→b<w.heap.size→∃v' l',m i v'=some l'∧l'.block=some b) ∧
       HR w' ⟨w.heap.size,al⟩ (owned H m) m' H'∧VR w' ⟨w.heap.size,al⟩ (owned H' m') m' r u∧Keep w.heap.size (owned H m) w w'∧∀i,(H.get i).isSome=true→(H'.get i).isSome=true:=
     ⟨S'.dfr,u,hu3,u,m2,rfl,g1,g2,g3,S'.keep,g4⟩
   rcases hex with rfl|rfl <;> exact this
 split at h <;> try (cases h;done)
 · rename_i σ' H1 he;exact fin (.inl rfl) he h
 · rename_i σ' H1 he;exact fin (.inr rfl) he h
def FunOK (P:Program) (f:Nat):Fun→Prop
 | .code c=>IsFn P f c
 | .prim _ p=>Callable P f∧∀as H r H',p as H=some (r,H')→Spec P f as H r H'
def Company (P:Program) (Fs:Nat→Option Fun):Prop:=∀f F,Fs f=some F→FunOK P f F
def table:List (Nat×Fun)→Nat→Option Fun
 | [],_=>none
 | (n,F) :: r,f=>if f=n then some F else table r f
theorem Company.nil:Company P (table []):=fun f F h=>by cases h
theorem Company.cons {n:Nat} {F:Fun} {r:List (Nat×Fun)} (h:FunOK P n F) (hr:Company P (table r)):Company P (table ((n,F) :: r)):=fun f F' h'=>by
 simp only[table]at h'
 split at h'
 · rename_i e;subst e;simp only[Option.some.injEq]at h';subst h';exact h
 · exact hr f F' h'
theorem run_sound {Fs:Nat→Option Fun} (hF:Company P Fs):∀(k:Nat),CallsOK P (run Fs k)
 | 0=>fun f as H r H' h=>by cases h
 | k+1=>fun f as H r H' h=>by
   simp only[run]at h
   split at h <;> try (cases h;done)
   · rename_i c hc
     have hf:IsFn P f c:=hF f _ hc
     exact ⟨IsFn.callable hf,runFn_sound (run_sound hF k) hf h⟩
   · rename_i p hp
     have hf:=hF f _ hp
     exact ⟨hf.1,hf.2 _ _ _ _ h⟩
end
end Go.Mir
