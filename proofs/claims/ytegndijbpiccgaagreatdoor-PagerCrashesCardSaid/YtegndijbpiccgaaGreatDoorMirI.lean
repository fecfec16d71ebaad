import Derived.Test.YtegndijbpiccgaaGreatDoorMirG
import Derived.Test.YtegndijbpiccgaaGreatDoorMirQ
import Derived.Deep.LoopGhost
namespace Go.Mir
set_option linter.unusedVariables false
set_option linter.unusedSimpArgs false
open Go.RowKit
def To:List Nat->Nat->Nat
 | [],id=>id
 | k::r,id=>match Nat.beq (k / 1000000000) id with
   | true=>k % 1000000000
   | false=>To r id
def kY (keep:List Nat)(fn rid i:Nat):Nat:=To keep (fn*100000+rid*100+i)
def AFI:AV->Lf
 | .n (.int k _) => .int k
 | .n (.bool _) => .bool
 | .n (.str _) => .str
 | _ => .raw
def RZ (P:Program):Nat->TypeId->List TypeId
 | 0,t=>[t]
 | k+1,t=>match P.underlying t with
   | some (.struct fs)=>fs.toList.flatMap λf=>RZ P k f.type
   | some (.array n e)=>(List.replicate n (RZ P k e)).flatten
   | _=>[t]
def lfT (P:Program)(t:TypeId)(c:AV):Lf:=
 match P.underlying t with
 | some (.slice e)=>match P.info? e with
   | some i => .slo i.size
   | none => .raw
 | _=>AFI c
def kW (P:Program)(t:TypeId):S1:=
 match Cf P t,CX P t with
 | some cs,some (some _) => .agg (List.zipWith (lfT P) (RZ P 20 t) cs)
 | some [c],some none => .one (lfT P t c)
 | _,_ => .one .raw
def AFJ (P:Program)(t:TypeId):Sh:=
 match P.underlying t with
 | some (.tuple ts) => .tup (ts.toList.map (kW P))
 | _ => .val (kW P t)
def gL (P:Program)(o:Oper):Sh:=
 match o.op with
 | .load t _ => .val (kW P t)
 | .call _=>AFJ P o.type
 | _ => .val (.one .raw)
def HM (P:Program)(keep:List Nat)(fn rid:Nat)(ops:Array Oper):Nat->List Oper->Option (List RO)
 | _,[]=>some []
 | i,o::r=>match rX P keep (kY keep fn rid i) o,HM P keep fn rid ops (i+1) r with
   | some x,some s=>match o.guard with
     | none=>some (⟨o.dst,x,none,gL P o⟩::s)
     | some (j,b)=>match (ops[j]?).bind (·.dst) with
       | some t=>some (⟨o.dst,x,some (t,b),gL P o⟩::s)
       | none=>none
   | _,_=>none
abbrev Hints:=List (Nat×(List Nat×List Nat×List (Nat×Nat×Nat×Nat)×List Nat))
def Hints.at (fn:Nat)(id:Nat)(c:Cmd):Hints->Cmd
 | []=>c
 | (k,(a,b,r,d))::t=>if k=id then .seq (.hint fn a b r d) c else Hints.at fn id c t
abbrev Loops:=List (Nat×List It)
def Loops.at (id:Nat):Loops->List It
 | []=>[]
 | (k,x)::r=>if k=id then x else Loops.at id r
def Hf:Code->Nat
 | .region id _ _=>id
 | .seq a _=>Hf a
 | .cond _ a _=>Hf a
 | .block _ c=>Hf c
 | .loop c=>Hf c
 | .scope c=>Hf c
 | _=>0
def IJ (ops:Array Oper):List (List Nat):=ops.toList.map λo=>(o.after.toList.filter (Region.binds .any)).map (·.on)
def bV (o:Oper):Bool:=match o.op with
 | .panic _=>true
 | _=>false
def gO:Cmd := .region [{ dst:=none,op := .sid (.const (.int .i64 0)) }]
def trC (P:Program)(keep:List Nat)(fn:Nat)(hs:Hints)(ls:Loops):Code->Option Cmd
 | .skip=>some .skip
 | .label _=>some .skip
 | .region id ops false=>match HM P keep fn id ops 0 ops.toList with
   | some l=>some (Hints.at fn id (.region l) hs)
   | none=>if ops.any bV then some gO else none
 | .region id ops true=>match HM P keep fn id ops 0 ops.toList with
   | some l=>if P.follows .mixedOrders&&Yc (IJ ops) (Nb [] (IJ ops)) l (cZ (Nb [] (IJ ops)) l) then some (Hints.at fn id (.drawn l (cZ (Nb [] (IJ ops)) l)) hs) else none
   | none=>none
 | .seq a b=>match trC P keep fn hs ls a,trC P keep fn hs ls b with
   | some x,some y=>some (.seq x y)
   | _,_=>none
 | .cond c a b=>match trC P keep fn hs ls a,trC P keep fn hs ls b with
   | some x,some y=>some (.cond c x y)
   | _,_=>none
 | .block id c=>match trC P keep fn hs ls c with
   | some x=>some (.block id x)
   | none=>none
 | .loop c=>match trC P keep fn hs ls c with
   | some x=>some (.loop (Loops.at (Hf c) ls) x)
   | none=>none
 | .exit id=>some (.exit id)
 | .ret=>some .ret
 | .scope c=>trC P keep fn hs ls c
 | _=>none
def Ez (P:Program)(f:Nat):Prop:=∀args w,(callFunc f args).run P w = .ok (.enter f args) w
def E2 (P:Program)(call:Al):Prop:=∀f args H r H',call f args H=some (r,H')->Ez P f/\Spec P f args H r H'
section
variable {P:Program} {w:World} {C:Cx} {own:Nat->Prop} {m:Places} {H:Heap} {σ:Slots} {a:Act} {call:Al}
def O7 (w:World)(C:Cx)(own:Nat->Prop)(m:Places)(H:Heap)(v:AV)(H':Heap)(u:Value)(w':World):Prop:=
 ∃m',Step C w (owned H m) m w' (owned H' m') m'/\HR w' C own m' H'/\VR w' C (owned H' m') m' v u/\Keep C.N own w w'
theorem Does.wp {o:Oper}{v:AV}{H':Heap}{next:Act->World->Prop}{Q:Exit->Act->World->Prop}(h:Does P a o w C own m H v H')(hn:∀u w',O7 w C own m H v H' u w'->next (a.put o.dst u) w'):o.wp P a w next Q:=by
 obtain⟨u,w',m',hrun,h1,h2,h3,h4⟩:=h;unfold Oper.wp;rcases hrun with hrun|⟨hrun,rfl⟩
 ·rw[hrun];exact hn u w' ⟨m',h1,h2,h3,h4⟩
 ·rw[hrun];exact hn undef w' ⟨m',h1,h2,h3,h4⟩
theorem NF (hv:∀t,VR w C (owned H m) m (σ.get t) (a.tmps.getD t undef)){xs:List Operand}{vs:List AV}(h:Jj σ xs=some vs):Cells w C (owned H m) m vs (xs.map a.eval):=by
 obtain⟨h1,h2⟩:=Mo hv h;refine⟨by simpa using h1,λi c u hc hu=>?_⟩;rw[List.getElem?_map]at hu
 cases hx:xs[i]? with
 | none=>simp[hx]at hu
 | some x=>simp only[hx,Option.map_some,oI]at hu;subst hu;exact h2 i c x hc hx
theorem Uh {o:Oper}{f:Nat}{own':Bool}{as:List AV}{us:List Value}{v:AV}{H':Heap}{next:Act->World->Prop}{Q:Exit->Act->World->Prop}(hcall:E2 P call)(hr:HR w C own m H)(hal:∀b,own b->C.al b)(hN:C.N<=w.heap.size)
  (hc:Cells w C (owned H m) m as us) (hd:AF call own' H f as=some (v,H')) (hrun:∀(_:Ez P (Cd own' f)),(execOp a.eval o).run P w = .ok (.enter (Cd own' f) us.toArray) w)
  (hn:∀u w',O7 w C own m H v H' u w'->next (a.put o.dst u) w'):o.wp P a w next Q:=by
 have hcb:Ez P (Cd own' f):=by
  unfold AF at hd;split at hd<;>try (simp at hd;done)
  simp only at hd;split at hd<;>try (simp at hd;done)
  split at hd<;>try (simp at hd;done)
  rename_i hcc;exact(hcall _ _ _ _ _ hcc).1
 have:=Z5 (P:=P) (λf args H r H' h=>(hcall f args H r H' h).2) hr hal hN hc hd
 unfold Oper.wp
 rw[hrun hcb,Oper.upon_enter]
 refine this.mono ?_
 rintro e w' ⟨u,m2,rfl,h1,h2,h3,h4⟩
 exact hn u w' ⟨m2,h1,h2,h3,h4⟩
theorem fU {keep:List Nat}{id:Nat}{o:Oper}{x:Opn}{v:AV}{H':Heap}{next:Act->World->Prop}{Q:Exit->Act->World->Prop}(hcall:E2 P call)(hr:HR w C own m H)(hal:∀b,own b->C.al b)(hN:C.N<=w.heap.size)
  (hv:∀t,VR w C (owned H m) m (σ.get t) (a.tmps.getD t undef)) (ht:rX P keep id o=some x) (h:Ac call σ H x=some (v,H'))
  (hn:∀u w',O7 w C own m H v H' u w'->next (a.put o.dst u) w'):o.wp P a w next Q:=by
 unfold rX at ht
 split at ht
 case h_1 y ho=>simp only[oI]at ht;subst ht;exact(Does.quiet hr (fZ hv (by simp[execOp,ho]) h)).wp hn
 case h_2 y ho=>simp only[oI]at ht;subst ht;exact(Does.quiet hr (fZ hv (by simp[execOp,ho]) h)).wp hn
 case h_3 c y z ho=>simp only[oI]at ht;subst ht;exact(Does.quiet hr (jD hv ho h)).wp hn
 case h_4 op t y z t2 ho=>
  split at ht
  ·simp only[oI]at ht;subst ht;exact(Does.quiet hr (gC hv ho h)).wp hn
  ·simp only[oI]at ht;subst ht;exact(Does.quiet hr (gC hv ho h)).wp hn
  ·rename_i hb
   split at ht<;>simp only[oI,reduceCtorEq]at ht
   ·subst ht;exact(Does.quiet hr (xE (neq:=false) hv hb ho h)).wp hn
   ·subst ht;exact(Does.quiet hr (xE (neq:=true) hv hb ho h)).wp hn
  ·rename_i hb
   split at ht<;>try (cases ht;done)
   ·exact(Does.quiet hr (gP (neq:=false) hv hb ho ht h)).wp hn
   ·exact(Does.quiet hr (gP (neq:=true) hv hb ho ht h)).wp hn
  ·cases ht
 case h_5 op t y ho=>simp only[oI]at ht;subst ht;exact(Does.quiet hr (AGe hv ho h)).wp hn
 case h_6 s d y ho=>
  split at ht
  ·rename_i hs hd
   simp only[oI]at ht;subst ht;exact(Does.quiet hr (pP hv ⟨_,hs⟩ hd ho h)).wp hn
  ·rename_i hs hd
   simp only[oI]at ht;subst ht
   simp only[Ac]at h
   split at h<;>simp only[oI,reduceCtorEq,pI]at h
   obtain⟨rfl,rfl⟩:=h
   rename_i s' hx
   have e1:=(AK hv hx).str
   exact(Does.quiet hr ⟨rfl,.string s',by simp[AA,execOp,ho,e1,convert,run_underlying hs,run_underlying hd],.n _ _ (.str _)⟩).wp hn
  ·rename_i e hs hd
   split at ht<;>simp only[oI,reduceCtorEq]at ht
   rename_i he
   subst ht
   exact(xL hr hN hv hs hd he ho h).wp hn
  ·rename_i e hs hd
   split at ht<;>simp only[oI,reduceCtorEq]at ht
   rename_i he
   subst ht
   exact(Does.quiet hr (ABU hr hv hs he hd ho h)).wp hn
  ·cases ht
 case h_7 y i ho=>simp only[oI]at ht;subst ht;exact(Does.quiet hr (ABi hv ho h)).wp hn
 case h_8 y ho=>simp only[oI]at ht;subst ht;exact(Does.quiet hr (eQ hv ho h)).wp hn
 case h_9 s y f ho=>
  split at ht<;>try (cases ht;done)
  rename_i fs hs
  split at ht<;>try (cases ht;done)
  rename_i fd hf
  split at ht<;>try (cases ht;done)
  rename_i i hi
  split at ht<;>simp only[oI,reduceCtorEq]at ht
  rename_i h0
  subst ht
  exact(Does.quiet hr (kI hv hs hf hi h0 ho h)).wp hn
 case h_10 s y f ho=>
  split at ht<;>try (cases ht;done)
  rename_i fs hs
  split at ht<;>try (cases ht;done)
  rename_i fd hf
  split at ht<;>simp only[oI,reduceCtorEq]at ht
  rename_i z hz
  subst ht
  exact(Does.quiet hr (uC hv hs hf hz ho h)).wp hn
 case h_11 t y ho=>
  split at ht<;>simp only[oI,reduceCtorEq]at ht
  rename_i z hz
  subst ht
  exact(Does.quiet hr (tP hr hv hz ho h)).wp hn
 case h_12 t y z ho=>
  split at ht<;>simp only[oI,reduceCtorEq]at ht
  rename_i i hi
  subst ht
  cases hx:ev σ y with
  | none=>simp[Ac,hx]at h
  | some xv=>
   cases xv with
   | ptr id off=>
    have h':=h
    simp only[Ac,hx]at h
    split at h<;>try (simp at h;done)
    ·rename_i id' o' v' e1 hy
     simp only[oI,AV.ptr.injEq]at e1
     obtain⟨rfl,rfl⟩:=e1
     split at h<;>try (simp at h;done)
     rename_i cs hg
     split at h<;>simp only[oI,reduceCtorEq,pI]at h
     rename_i hc
     simp only[Bool.and_eq_true,beq_iff_eq,decide_eq_true_eq]at hc
     obtain⟨rfl,rfl⟩:=h
     exact(Zr hr hN hv ho hi hx hy hg hc.1.1 hc.1.2 hc.2).wp hn
    ·simp_all
   | elt id ver s i' off=>exact(Xj hr hN hal hv ho hi hx h).wp hn
   | _=>simp[Ac,hx]at h
 case h_13 t y i ho=>
  split at ht<;>try (cases ht;done)
  rename_i e hs
  split at ht<;>simp only[oI,reduceCtorEq]at ht
  rename_i j hj
  subst ht
  exact(Does.quiet hr (jA hr hv hs hj ho h)).wp hn
 case h_14 t y i ho=>
  split at ht<;>try (cases ht;done)
  ·rename_i hs
   simp only[oI]at ht
   subst ht
   exact(Does.quiet hr (zR hv hs ho h)).wp hn
  ·rename_i n e hs
   split at ht<;>try (cases ht;done)
   rename_i j hz hj
   split at ht<;>simp only[oI,reduceCtorEq]at ht
   rename_i h1
   subst ht
   exact(Does.quiet hr (pV hv hs hz hj h1 ho h)).wp hn
 case h_15 t y lo hi mx ho=>
  split at ht
  ·rename_i hs
   split at ht<;>simp only[oI,reduceCtorEq]at ht
   subst ht
   exact(Does.quiet hr (iD hv hs ho h)).wp hn
  ·rename_i e hs
   split at ht<;>try (cases ht;done)
   rename_i j hj
   split at ht<;>simp only[oI,reduceCtorEq]at ht
   rename_i hmh
   subst ht
   exact(ABb hr hal hv hs hj (by simpa only[Bool.not_eq_true] using hmh) ho h).wp hn
  ·cases ht
 case h_16 t parts ho=>
  split at ht<;>try (cases ht;done)
  ·rename_i fs z hs hz
   split at ht<;>try (cases ht;done)
   rename_i ps hps
   split at ht<;>simp only[oI,reduceCtorEq]at ht
   rename_i l hl
   subst ht
   exact(Does.quiet hr (aT hv hs hz hps hl ho h)).wp hn
  ·rename_i n e z hs hz
   split at ht<;>simp only[oI,reduceCtorEq]at ht
   rename_i j hj
   subst ht
   exact(Does.quiet hr (Zh hv hs hz hj ho h)).wp hn
 case h_17 t len parts ho=>
  split at ht<;>try (cases ht;done)
  rename_i e hs
  split at ht<;>try (cases ht;done)
  rename_i j z l hj hz hl
  split at ht<;>simp only[oI,reduceCtorEq]at ht
  rename_i hc
  subst ht
  exact(AAg hr hN hal hv hs hj hz hl hc.1 hc.2.1 hc.2.2.1 hc.2.2.2 ho h).wp hn
 case h_18 t l c ho=>
  split at ht<;>try (cases ht;done)
  rename_i e hs
  split at ht<;>try (cases ht;done)
  rename_i j z hj hz
  split at ht<;>simp only[oI,reduceCtorEq]at ht
  rename_i hc
  subst ht
  exact(AFy hr hN hv hs hj hz hc.1 hc.2.1 hc.2.2.1 hc.2.2.2 ho h).wp hn
 case h_19 t ho=>
  split at ht<;>try (cases ht;done)
  rename_i z i hz hi
  split at ht<;>simp only[oI,reduceCtorEq]at ht
  subst ht
  exact(dS hr hN hz ho h).wp hn
 case h_20 t y ho=>
  simp only[oI]at ht
  subst ht
  exact(ABE hr hN hv ho h).wp hn
 case h_21 f first cap ho=>
  split at ht<;>simp only[oI,reduceCtorEq]at ht
  rename_i h0
  subst ht
  exact(Does.quiet hr (vP hv h0 ho h)).wp hn
 case h_22 c ho=>
  obtain⟨callee,args,tys⟩:=c
  split at ht
  ·rename_i hcal
   simp only at hcal
   subst hcal
   split at ht<;>try (cases ht;done)
   rename_i y t ha hty
   simp only at ha hty
   have ea:args = #[y]:=by rw[<-Array.toArray_toList (xs:=args),ha]
   have et:tys = #[t]:=by rw[<-Array.toArray_toList (xs:=tys),hty]
   subst ea et
   split at ht<;>simp only[oI,reduceCtorEq]at ht
   ·rename_i hs;subst ht;exact(Does.quiet hr (jT (ty:=t) hv hs ho h)).wp hn
   ·rename_i e hs;subst ht;exact(Does.quiet hr (AAI hr hv hs ho h)).wp hn
  ·rename_i hcal
   simp only at hcal
   subst hcal
   simp only[oI]at ht
   subst ht
   exact(Does.quiet hr (xT (max:=true) hv ho h)).wp hn
  ·rename_i hcal
   simp only at hcal
   subst hcal
   simp only[oI]at ht
   subst ht
   exact(Does.quiet hr (xT (max:=false) hv ho h)).wp hn
  ·rename_i hcal
   simp only at hcal
   subst hcal
   split at ht<;>try (cases ht;done)
   rename_i y z t u ha hty
   simp only at ha hty
   have ea:args = #[y,z]:=by rw[<-Array.toArray_toList (xs:=args),ha]
   have et:tys = #[t,u]:=by rw[<-Array.toArray_toList (xs:=tys),hty]
   subst ea et
   split at ht<;>try (cases ht;done)
   ·rename_i e e' hs hs'
    split at ht<;>try (cases ht;done)
    rename_i j zv hj hz
    split at ht<;>simp only[oI,reduceCtorEq]at ht
    rename_i hc
    subst ht
    obtain⟨_,rfl,h1,h2,h3⟩:=hc
    exact(zC hr hN hal hv hs hj hz h2 h1 h3 ho h).wp hn
   ·rename_i e hs hs'
    split at ht<;>try (cases ht;done)
    rename_i j he hj
    split at ht<;>try (cases ht;done)
    rename_i hc
    split at ht<;>simp only[oI,reduceCtorEq]at ht
    rename_i hz
    subst ht
    exact(lG hr hN hv hs hs' hj hc.1 hc.2 hz ho h).wp hn
  ·rename_i f hcal
   simp only at hcal
   subst hcal
   simp only[oI]at ht
   subst ht
   simp only[Ac]at h
   split at h<;>try (simp at h;done)
   rename_i as has
   refine Uh hcall hr hal hN (NF hv has) h (λhcb=>?_) hn
   rw[Qx]at hcb |-
   simp only[execOp,ho,resolve,Act.eval,Deferred.ofValue]
   simp only[Sem.run_bind,Sem.run_pure,Result.andThen_ok,invoke,Array.empty_append,Array.append_empty]
   rw[<-Array.toList_map,Array.toArray_toList]
   exact hcb _ _
  ·rename_i t hcal
   simp only at hcal
   subst hcal
   simp only[oI]at ht
   subst ht
   simp only[Ac]at h
   split at h<;>try (simp at h;done)
   rename_i f cap as hf has
   obtain⟨vs,hl,hh,hfe⟩:=(AK hv hf).fn_inv
   have hca:=NF hv has
   have hcc:Cells w C (owned H m) m (as++cap) (args.toList.map a.eval++vs):=by
    refine⟨by rw[List.length_append,List.length_append,hca.1,hl],λi c u hc hu=>?_⟩;rw[List.getElem?_append]at hc hu;rw[hca.1]at hc;split at hc;·rename_i hi;rw[if_pos hi]at hu;exact hca.2 i c u hc hu
    ·rename_i hi;rw[if_neg hi]at hu;exact hh _ c u hc hu
   refine Uh hcall hr hal hN hcc h (λhcb=>?_) hn
   simp only[execOp,ho,resolve,hfe,Deferred.ofValue]
   simp only[Sem.run_bind,Sem.run_pure,Result.andThen_ok,invoke,Array.empty_append]
   have e1:Array.map a.eval args++vs.toArray=(args.toList.map a.eval++vs).toArray:=by apply Array.ext';simp
   rw[e1]
   exact hcb _ _
  ·cases ht
 case h_23=>cases ht
theorem Slots.get_put:∀(σ:Slots) (d:Nat) (v:AV) (t:Nat),Slots.get (Slots.put σ d v) t=if t=d/\d<σ.length then v else Slots.get σ t
 | [],d,v,t=>by simp[Slots.put]
 | x::r,0,v,t=>by
  cases t with
  | zero=>simp[Slots.put,Slots.get]
  | succ t=>simp[Slots.put,Slots.get]
 | x::r,d+1,v,t=>by
  cases t with
  | zero=>simp[Slots.put,Slots.get]
  | succ t=> simp only[Slots.put,Slots.get,List.length_cons];rw[Slots.get_put r d v t];simp
theorem Slots.len_put:∀(σ:Slots) (d:Nat) (v:AV),(Slots.put σ d v).length=σ.length
 | [],_,_=>rfl
 | _::_,0,_=>rfl
 | _::r,d+1,v=>by simp only[Slots.put,List.length_cons,Slots.len_put r d v]
def MT (σ:Slots)(d:Option Nat)(v:AV):Slots:=match d with|some d=>σ.put d v|none=>σ
variable {w0:World} {m0:Places}
theorem Qd {ow:Nat->Prop}{v:AV}{u:Value}(hv:∀t,VR w C ow m (σ.get t) (a.tmps.getD t undef))(hl:σ.length<=a.tmps.size)(h:VR w C ow m v u)(d:Option Nat):∀t,VR w C ow m ((MT σ d v).get t) ((a.put d u).tmps.getD t undef):=by
 intro t
 cases d with
 | none=>exact hv t
 | some d=>
  simp only[MT,Act.put];rw[Slots.get_put];by_cases hc:t=d/\d<σ.length
  ·rw[if_pos hc];obtain⟨rfl,hd⟩:=hc;have:(a.tmps.setIfInBounds t u).getD t undef=u:=by simp[Array.getD,show t<a.tmps.size by omega]
   rw[this];exact h
  ·rw[if_neg hc];by_cases ht:t=d
   ·subst ht;have hge:¬t<σ.length:=λh=>hc ⟨rfl,h⟩;have:Slots.get σ t = .n .any:=by
     clear hv h hc hl
     induction σ generalizing t with
     | nil=>rfl
     | cons x r ih=>
      cases t with
      | zero=>simp at hge
      | succ t=>exact ih t (by simpa using hge)
    rw[this];exact .any _
   ·have:(a.tmps.setIfInBounds d u).getD t undef=a.tmps.getD t undef:=by simp only[Array.getD_eq_getD_getElem?];rw[Array.getElem?_setIfInBounds_ne (λe=>ht e.symm)]
    rw[this];exact hv t
theorem St.next {H':Heap}{v:AV}{u:Value}{w':World}(S:St w0 C own m0 m σ H a w)(h:O7 w C own m H v H' u w')(d:Option Nat):∃m',St w0 C own m0 m' (MT σ d v) H' (a.put d u) w':=by
 obtain⟨m',h1,h2,h3,h4⟩:=h;refine⟨m',⟨Qd (λt=>(S.vals t).step h1) S.len h3 d,?_,?_,h2,S.keep.trans h4,S.n,S.sub,Nat.le_trans S.sz h1.size,λi v l h=>h1.p i v l (S.p i v l h),λi v l b h hb hlt=>?_⟩⟩
 ·cases d with
  | none=>exact S.len
  | some d=>simp only[MT,Act.put,Slots.len_put,Array.size_setIfInBounds];exact S.len
 ·cases d<;>exact S.dfr
 ·obtain⟨v1,l1,e1,e2⟩:=h1.q i v l b h hb (Nat.lt_of_lt_of_le hlt S.sz);exact S.fr i v1 l1 b e1 e2 hlt
theorem St.skip (S:St w0 C own m0 m σ H a w)(d:Option Nat):St w0 C own m0 m (MT σ d .undef) H (a.put d undef) w:=by
 refine⟨Qd S.vals S.len .undef d,?_,?_,S.hr,S.keep,S.n,S.sub,S.sz,S.p,S.fr⟩
 ·cases d with
  | none=>exact S.len
  | some d=>simp only[MT,Act.put,Slots.len_put,Array.size_setIfInBounds];exact S.len
 ·cases d<;>exact S.dfr
theorem HF {ops:Array Oper}{j t:Nat}{al:Nat->Prop}(htt:(ops[j]?).bind (·.dst)=some t)(hv:VR w C al m .undef (a.tmps.getD t undef)):yielded ops a.tmps j=none:=by
 have e:a.tmps.getD t undef=undef:=by generalize a.tmps.getD t undef=u at hv;cases hv;rfl
 unfold yielded;rw[htt];simp only[Option.bind_some];rw[Array.getD_eq_getD_getElem?]at e
 cases h:a.tmps[t]? with
 | none=>rfl
 | some z=>rw[h]at e;simp only[Option.getD_some]at e;rw[e];rfl
theorem Ht {keep:List Nat}{fn rid:Nat}{ops:Array Oper}{Q:Exit->Act->World->Prop}(hcall:E2 P call):∀ {l:List Oper} {k:Nat} {ros:List RO} {σ:Slots} {H:Heap} {a:Act} {w:World} {m:Places} {σ':Slots} {H':Heap},
   HM P keep fn rid ops k l=some ros->BG call ros σ H=some (σ',H')->St w0 C own m0 m σ H a w->(∀m' a' w',St w0 C own m0 m' σ' H' a' w'->Q .normal a' w')->wpList P ops Q l a w
 | [],k,ros,σ,H,a,w,m,σ',H',ht,he,S,hq=>by simp only[HM,oI]at ht;subst ht;simp only[BG,oI,pI]at he;obtain⟨rfl,rfl⟩:=he;exact hq m a w S
 | o::r,k,ros,σ,H,a,w,m,σ',H',ht,he,S,hq=>by
  simp only[HM]at ht;split at ht<;>try (cases ht;done)
  rename_i x s hx hs;have go:∀ {σ1:Slots} {H1:Heap} {v:AV},Ac call σ H x=some (v,H1)->BG call s (MT σ o.dst v) H1=some (σ',H')->o.wp P a w (wpList P ops Q r) Q:=by
   intro σ1 H1 v h1 h2;refine fU hcall S.hr (λb hb=>S.sub b hb) S.sz S.vals hx h1 λu w' hb=>?_;obtain⟨m',S'⟩:=S.next hb o.dst
   exact Ht hcall hs h2 S' hq
  unfold wpList;split at ht
  ·rename_i hg;simp only[oI]at ht;subst ht;simp only[BG]at he;split at he<;>try (cases he;done)
   rename_i v H1 h1;have hw:Region.wanted o (yielded ops a.tmps)=true:=by simp[Region.wanted,hg]
   rw[if_pos hw];exact .inl (go (σ1:=σ) h1 he)
  ·rename_i j b hg;split at ht<;>simp only[oI,reduceCtorEq]at ht;rename_i t htt;subst ht;simp only[BG]at he;split at he<;>try (cases he;done)
   case h_2 hb0=>
    have hv:=S.vals t
    rw[hb0]at hv
    have hy:yielded ops a.tmps j=none:=HF htt hv
    rw[if_neg (by simp[Region.wanted,hg,hy])]
    exact Ht hcall hs he (S.skip o.dst) hq
   rename_i b0 hb0;have hv:=S.vals t;rw[hb0]at hv;have hval:=hv.bool;have hy:yielded ops a.tmps j=some b0:=by
    unfold yielded;rw[htt];simp only[Option.bind_some];have:a.tmps[t]?=some (.bool b0):=by
     rw[Array.getD_eq_getD_getElem?]at hval
     cases h:a.tmps[t]? with
     | none=>rw[h]at hval;simp[undef]at hval
     | some z=>rw[h]at hval;simpa using hval
    rw[this]
   have hw:Region.wanted o (yielded ops a.tmps)=decide (b0=b):=by simp only[Region.wanted,hg,hy];cases b0<;>cases b<;>rfl
   by_cases hbb:b0=b
   ·rw[if_pos hbb]at he;split at he<;>try (cases he;done)
    rename_i v H1 h1;rw[if_pos (by rw[hw];simpa using hbb)];exact .inl (go (σ1:=σ) h1 he)
   ·rw[if_neg hbb]at he;rw[if_neg (by rw[hw];simpa using hbb)];exact Ht hcall hs he (S.skip o.dst) hq
theorem BX (hal:∀b,own b->C.al b):∀ {l:List Nat} {σ:Slots} {H:Heap} {σ':Slots} {H':Heap},BN l σ H=some (σ',H')->St w0 C own m0 m σ H a w->St w0 C own m0 m σ' H' a w
 | [],σ,H,σ',H',h,S=>by simp only[BN,oI,pI]at h;obtain⟨rfl,rfl⟩:=h;exact S
 | s::r,σ,H,σ',H',h,S=>by
  simp only[BN]at h;split at h
  ·split at h<;>try (cases h;done)
   rename_i v hv;refine BX hal h ⟨λt=>?_,by rw[Slots.len_put];exact S.len,S.dfr,BW _ S.hr,S.keep,S.n,S.sub,S.sz,S.p,S.fr⟩;rw[Slots.get_put];split;·rename_i hc;obtain⟨rfl,_⟩:=hc;exact age_ok (λb h _=>h) _ (C7 S.hr hal (S.vals t) hv)
   ·exact(S.vals t).step (DW _)
  ·split at h
   ·split at h
    ·rename_i o hg;split at h
     ·rename_i hth;have hfz:o.frozen=false:=by cases o<;>simp_all[Ob.thaw,Ob.frozen]
      have U:Upd w m H s o.age w m:=by refine⟨λ_ _ _ h=>h,λ_ _ _ h => .inl h,Nat.le_refl _,λ_ _ _=>rfl,λo' h=>?_,λb h => .inl ⟨_,hg,Ob.age_lies.1 h⟩,λv hv=>S.hr.top _ _ v hg (by rwa [Ob.age_ver]at hv),rfl,rfl,rfl⟩;rw[hg]at h;cases h;exact hfz
      have T:=U.step S.hr;have ho:=(S.hr.objs _ _ hg).step T λb _=>rfl;exact BX hal h ⟨λt=>(S.vals t).step T,S.len,S.dfr,U.hr S.hr S.sz (Ob.age_ok (λb h _=>h) ho),S.keep,S.n,S.sub,S.sz,S.p,S.fr⟩
     ·exact BX hal h S
    ·exact BX hal h S
   ·split at h<;>try (cases h;done)
    rename_i cs hbx;split at h<;>try (cases h;done)
    rename_i x hx;split at h<;>try (cases h;done)
    rename_i v hv;have hr':=BW (Ak x) S.hr;have hg1:(H.freeze (Ak x)).get (J9 s)=some (.box cs):=by rw[Heap.get_freeze,hbx]
    have U2:Upd w m (H.freeze (Ak x)) (J9 s) (.box (cs.set (LY s) (age v))) w m:=by refine⟨λ_ _ _ h=>h,λ_ _ _ h => .inl h,Nat.le_refl _,λ_ _ _=>rfl,λo' h=>?_,λb h => .inl ⟨_,hg1,h⟩,λv hv=>hr'.top _ _ v hg1 hv,rfl,rfl,rfl⟩;rw[hg1]at h;cases h;rfl
    have T2:=U2.step hr';obtain⟨b,t,c,hm,hh,hs,hvs⟩:=S.hr.objs _ _ hbx;have hr2:HR w C own m ((H.freeze (Ak x)).ins (J9 s) (.box (cs.set (LY s) (age v)))):=by
     refine U2.hr hr' S.sz ⟨b,t,c,hm,hh,by simpa using hs,λi y u h1 h2=>?_⟩;rw[List.getElem?_set]at h1;split at h1;·rename_i hi;split at h1<;>simp only[oI,reduceCtorEq]at h1;subst h1;subst hi;exact(age_ok (λb h _=>h) _ (C7 S.hr hal (hvs _ _ _ hx h2) hv)).step T2
     ·exact((hvs i y u h1 h2).step (DW _)).step T2
    exact BX hal h ⟨λt=>((S.vals t).step (DW _)).step T2,S.len,S.dfr,hr2,S.keep,S.n,S.sub,S.sz,S.p,S.fr⟩
theorem Jc (keep:List Nat):∀(σ:Slots) (i t:Nat),Slots.get (A2 keep i σ) t=if keep.contains (i+t) then Slots.get σ t else .n .any
 | [],i,t=>by simp[A2,Slots.get]
 | x::r,i,t=>by
  cases t with
  | zero=>simp[A2,Slots.get]
  | succ t=>
   simp only[A2,Slots.get];rw[Jc keep r (i+1) t];have:i+1+t=i+(t+1):=by omega
   rw[this]
theorem Iu (keep:List Nat):∀(σ:Slots) (i:Nat),(A2 keep i σ).length=σ.length
 | [],i=>rfl
 | x::r,i=>by simp[A2,Iu keep r (i+1)]
theorem Slots.get_mem:∀(σ:Slots) (t:Nat),Slots.get σ t = .n .any\/σ[t]?=some (Slots.get σ t)
 | [],t => .inl rfl
 | x::r,0 => .inr rfl
 | x::r,t+1=>by simpa[Slots.get] using Slots.get_mem r t
theorem Td (hr:HR w C own m H){id:Nat}(hid:H.get id=none)(e sz:Nat):Upd w m H id (.row false true 0 e sz []) w (m.set id 0 .nilrow):=by
 have hm:∀v,m id v=none:=λv=>by
  cases h:m id v with
  | none=>rfl
  | some l=>have:=hr.dom _ _ _ h;rw[hid]at this;cases this
 refine⟨λi v l' h=>?_,λi v l' h=>?_,Nat.le_refl _,λb hb _=>rfl,λo' h=>(by rw[hid]at h;cases h),λb h=>?_,λv hv=>?_,rfl,rfl,rfl⟩
 ·simp only[Places.set];rw[if_neg];·exact h
  ·rintro⟨rfl,rfl⟩;rw[hm]at h;cases h
 ·simp only[Places.set]at h;split at h;·rename_i hc;simp only[oI]at h;subst h;exact .inr ⟨hc.1,λb hb=>by simp[Loc.block]at hb⟩
  ·exact .inl h
 ·obtain⟨l,h1,h2⟩:=h;rw[Places.set_at]at h1;simp only[oI]at h1;subst h1;simp[Loc.block]at h2
 ·simp only[Places.set];simp only[Ob.ver]at hv;rw[if_neg (by omega)];exact hm v
theorem CG:∀ {l:List (Nat×Nat×Nat×Nat)} {σ:Slots} {H:Heap} {m:Places} {σ':Slots} {H':Heap},Df l σ H=some (σ',H')->St w0 C own m0 m σ H a w->∃m',St w0 C own m0 m' σ' H' a w
 | [],σ,H,m,σ',H',h,S=>by simp only[Df,oI,pI]at h;obtain⟨rfl,rfl⟩:=h;exact⟨m,S⟩
 | (s,id,e,sz)::r,σ,H,m,σ',H',h,S=>by
  simp only[Df]at h;split at h
  ·rename_i _;split at h
   ·rename_i hs;split at h<;>try (cases h;done)
    rename_i hid;have hid':H.get id=none:=by simpa using hid
    have U:=Td S.hr hid' e sz;have T:=U.step S.hr;have hr':HR w C own (m.set id 0 .nilrow) (H.ins id (.row false true 0 e sz [])):=by refine U.hr S.hr S.sz ⟨.nilrow,[],Places.set_at ..,rfl,World.ownsRow_nil w 0 e sz,λi x h=>by simp at h,λi x j y v h=>by simp at h,λ_ b hb=>by simp[Loc.block]at hb⟩
    refine CG h ⟨λt=>?_,by rw[Slots.len_put];exact S.len,S.dfr,hr',S.keep,S.n,S.sub,S.sz,λi v l h=>T.p i v l (S.p i v l h),λi v l b h hb hlt=>?_⟩
    ·rw[Slots.get_put];split
     ·rename_i hc;obtain⟨rfl,_⟩:=hc;have:=S.vals t;rw[hs]at this;have e1:a.tmps.getD t undef = .slice none 0 0:=by
       generalize a.tmps.getD t undef=u at this
       cases this with
       | n _ _ h=>cases h;rfl
      rw[e1];exact .row id 0 .nilrow (Places.set_at ..) rfl
     ·exact(S.vals t).step T
    ·obtain⟨v1,l1,e1,e2⟩:=T.q i v l b h hb (Nat.lt_of_lt_of_le hlt S.sz);exact S.fr i v1 l1 b e1 e2 hlt
   ·split at h<;>try (cases h;done)
    exact CG h S
   ·cases h
  ·split at h<;>try (cases h;done)
   rename_i cs hbx;split at h<;>try (cases h;done)
   ·rename_i hcell;split at h<;>try (cases h;done)
    rename_i hid;have hid':H.get id=none:=by simpa using hid
    have hne:s / 64≠id:=by rintro e;rw[e,hid']at hbx;cases hbx
    have U:=Td S.hr hid' e sz;have T:=U.step S.hr;have hr':HR w C own (m.set id 0 .nilrow) (H.ins id (.row false true 0 e sz [])):=by refine U.hr S.hr S.sz ⟨.nilrow,[],Places.set_at ..,rfl,World.ownsRow_nil w 0 e sz,λi x h=>by simp at h,λi x j y v h=>by simp at h,λ_ b hb=>by simp[Loc.block]at hb⟩
    have hg1:(H.ins id (.row false true 0 e sz [])).get (s / 64)=some (.box cs):=by rw[Heap.get_ins,if_neg hne];exact hbx
    have U2:Upd w (m.set id 0 .nilrow) (H.ins id (.row false true 0 e sz [])) (s / 64) (.box (cs.set (s % 64) (.row id 0))) w (m.set id 0 .nilrow):=by refine⟨λ_ _ _ h=>h,λ_ _ _ h => .inl h,Nat.le_refl _,λ_ _ _=>rfl,λo' h=>?_,λb h => .inl ⟨_,hg1,h⟩,λv hv=>hr'.top _ _ v hg1 hv,rfl,rfl,rfl⟩;rw[hg1]at h;cases h;rfl
    have T2:=U2.step hr';obtain⟨b,t,c,hm,hh,hs,hv⟩:=hr'.objs _ _ hg1;have hr2:HR w C own (m.set id 0 .nilrow) ((H.ins id (.row false true 0 e sz [])).ins (s / 64) (.box (cs.set (s % 64) (.row id 0)))):=by
     refine U2.hr hr' S.sz ⟨b,t,c,hm,hh,by simpa using hs,λi x v h1 h2=>?_⟩;rw[List.getElem?_set]at h1;split at h1
     ·rename_i hi;split at h1<;>simp only[oI,reduceCtorEq]at h1;subst h1;subst hi;have:=hv _ _ _ hcell h2
      cases this with
      | n _ _ h=>cases h;exact .row id 0 .nilrow (Places.set_at ..) rfl
     ·exact(hv i x v h1 h2).step T2
    refine CG h ⟨λt=>((S.vals t).step T).step T2,S.len,S.dfr,hr2,S.keep,S.n,S.sub,S.sz,λi v l h=>T.p i v l (S.p i v l h),λi v l b h hb hlt=>?_⟩;obtain⟨v1,l1,e1,e2⟩:=T.q i v l b h hb (Nat.lt_of_lt_of_le hlt S.sz);exact S.fr i v1 l1 b e1 e2 hlt
   ·split at h<;>try (cases h;done)
    exact CG h S
theorem Is:∀ {H:Heap} {i:Nat},(H.get i).isSome=true->i∈H.dom
 | [],i,h=>by cases h
 | (k,o)::r,i,h=>by
  simp only[Heap.get]at h;simp only[Heap.dom,List.map_cons,List.mem_cons];split at h;·rename_i e;exact .inl e.symm
  ·exact .inr (Is h)
theorem Mj {fn:Nat}(hm0:∀i v l,m0 i v=some l->i / 100000≠fn){keep drop:List Nat}{rows:List (Nat×Nat×Nat×Nat)}{data:List Nat}{σ:Slots}{H:Heap}{σ':Slots}{H':Heap}(h:Fi fn keep drop rows data σ H=some (σ',H'))(S:St w0 C own m0 m σ H a w):∃m',St w0 C own m0 m' σ' H' a w:=by
 unfold Fi at h;split at h<;>try (cases h;done)
 rename_i σ1 H1 hd;have S1:=BX (λb hb=>S.sub b hb) hd S;simp only at h;split at h<;>try (cases h;done)
 rename_i hc;simp only[Bool.or_eq_true,Bool.not_eq_true',not_or,Bool.not_eq_true,Bool.not_eq_false]at hc;obtain⟨hcl,hdr⟩:=hc;generalize hids:(H1.dom.filter λi => !drop.contains i)=ids at h hcl;obtain⟨hc1,hc2⟩:=Dm hcl;obtain⟨hr2,L⟩:=S1.hr.fewer hc2;refine CG h (m:=m.only ids) ⟨λt=>?_,by rw[Iu];exact S1.len,S1.dfr,hr2,S1.keep,S1.n,S1.sub,S1.sz,λi v l hm=>?_,λi v l b hm hb hlt=>S1.fr i v l b (Places.only_some.1 hm).2 hb hlt⟩
 ·rcases Slots.get_mem (A2 keep 0 σ1) t with e|e;·rw[e];exact .any _
  ·have hv:VR w C (owned H1 m) m ((A2 keep 0 σ1).get t) (a.tmps.getD t undef):=by
    rw[Jc,Nat.zero_add];split;·exact S1.vals t
    ·exact .any _
   exact(hv.only (Mm hc1 t _ e)).conv (λb h1 h2=>L.n b h1 h2) (λb h1 h2=>L.o b h1 h2) (λ_ _ _ h=>h)
 ·have h1:=S1.p i v l hm;refine Places.only_some.2 ⟨?_,h1⟩;rw[<-hids];simp only[List.contains_eq_mem,decide_eq_true_eq,List.mem_filter,Bool.not_eq_true',decide_eq_false_iff_not];refine⟨Is (S1.hr.dom i v l h1),λhi=>?_⟩;have:drop.any (λi=>i / 100000 != fn)=true:=List.any_eq_true.2 ⟨i,hi,by simpa using hm0 i v l hm⟩;rw[this]at hdr;cases hdr
def pX:Ex->Exit
 | .norm => .normal
 | .exit i => .exit i
 | .ret => .ret
theorem St.drawn (S:St w0 C own m0 m σ H a w):St w0 C own m0 m σ H a { w with drawn:=w.drawn+1 }:=by obtain⟨T,hr⟩:=Py S.hr (w' := { w with drawn:=w.drawn+1 }) (Nat.le_refl _) (λ_ _=>rfl);exact⟨λt=>(S.vals t).step T,S.len,S.dfr,hr,⟨S.keep.os,S.keep.tape,S.keep.output,S.keep.size,S.keep.block⟩,S.n,S.sub,S.sz,S.p,S.fr⟩
theorem kT {keep:List Nat}{ops:Array Oper}{Q:Exit->Act->World->Prop}{K:Act->World->Prop}(hcall:E2 P call){k:Nat}{o:Oper}{ro:RO}{σ1:Slots}{H1:Heap}{id:Nat}
   (ho:ops[k]?=some o) (htr:∃x,rX P keep id o=some x/\((o.guard=none/\ro=⟨o.dst,x,none,gL P o⟩)\/∃j b t,o.guard=some (j,b)/\(ops[j]?).bind (·.dst)=some t/\ro=⟨o.dst,x,some (t,b),gL P o⟩))
   (h:ro.run call σ H=some (σ1,H1)) (S:St w0 C own m0 m σ H a w) (hq:∀m' a' w',St w0 C own m0 m' σ1 H1 a' w'->K a' w'):wpOp P ops Q k K a w:=by
 obtain⟨x,hx,hg⟩:=htr
 have go:∀ {v:AV} {H2:Heap},Ac call σ H x=some (v,H2)->MT σ o.dst v=σ1->H2=H1->o.wp P a w K Q:=by
  intro v H2 h1 h2 h3;subst h2;subst h3;refine fU hcall S.hr (λb hb=>S.sub b hb) S.sz S.vals hx h1 λu w' hb=>?_;obtain⟨m',S'⟩:=S.next hb o.dst
  exact hq m' _ _ S'
 unfold wpOp
 rw[ho]
 dsimp only
 rcases hg with⟨hg,rfl⟩|⟨j,b,t,hg,htt,rfl⟩
 ·simp only[RO.run]at h
  split at h<;>simp only[oI,pI,reduceCtorEq]at h
  rename_i v H2 h1
  have hw:Region.wanted o (yielded ops a.tmps)=true:=by simp[Region.wanted,hg]
  rw[if_pos hw]
  exact .inl (go h1 (by rw[<-h.1];cases o.dst<;>rfl) h.2)
 ·simp only[RO.run]at h
  split at h<;>try (cases h;done)
  case h_2 hb0=>
   have hv:=S.vals t
   rw[hb0]at hv
   have hy:yielded ops a.tmps j=none:=HF htt hv
   rw[if_neg (by simp[Region.wanted,hg,hy])]
   simp only[oI,pI]at h
   obtain⟨h1,rfl⟩:=h
   refine hq m _ _ ?_
   have:=S.skip o.dst
   rw[show σ1=MT σ o.dst .undef by rw[<-h1];cases o.dst<;>rfl]
   exact this
  rename_i b0 hb0
  have hv:=S.vals t
  rw[hb0]at hv
  have hval:=hv.bool
  have hy:yielded ops a.tmps j=some b0:=by
   unfold yielded;rw[htt];simp only[Option.bind_some];have:a.tmps[t]?=some (.bool b0):=by
    rw[Array.getD_eq_getD_getElem?]at hval
    cases h:a.tmps[t]? with
    | none=>rw[h]at hval;simp[undef]at hval
    | some z=>rw[h]at hval;simpa using hval
   rw[this]
  have hw:Region.wanted o (yielded ops a.tmps)=decide (b0=b):=by simp only[Region.wanted,hg,hy];cases b0<;>cases b<;>rfl
  by_cases hbb:b0=b
  ·simp only[hbb,if_true]at h
   split at h<;>simp only[oI,pI,reduceCtorEq]at h
   rename_i v H2 h1
   rw[if_pos (by rw[hw];simpa using hbb)]
   exact .inl (go h1 (by rw[<-h.1];cases o.dst<;>rfl) h.2)
  ·simp only[hbb,if_false,oI,pI]at h
   rw[if_neg (by rw[hw];simpa using hbb)]
   obtain⟨h1,rfl⟩:=h
   refine hq m _ _ ?_
   have:=S.skip o.dst
   rw[show σ1=MT σ o.dst .undef by rw[<-h1];cases o.dst<;>rfl]
   exact this
theorem LP {keep:List Nat}{fn rid:Nat}{ops:Array Oper}:∀ {l:List Oper} {k:Nat} {ros:List RO},HM P keep fn rid ops k l=some ros->ros.length=l.length/\∀(i:Nat) o,l[i]?=some o->∃ro,ros[i]?=some ro/\∃x,rX P keep (kY keep fn rid (k+i)) o=some x/\((o.guard=none/\ro=⟨o.dst,x,none,gL P o⟩)\/∃j b t,o.guard=some (j,b)/\(ops[j]?).bind (·.dst)=some t/\ro=⟨o.dst,x,some (t,b),gL P o⟩)
 | [],k,ros,h=>by simp only[HM,oI]at h;subst h;exact⟨rfl,λi o hi=>by simp at hi⟩
 | o::r,k,ros,h=>by
  simp only[HM]at h;split at h<;>try (cases h;done)
  rename_i x s hx hs;obtain⟨h1,h2⟩:=LP hs;have rest:∀ro,∀(i:Nat) o',(o::r)[i+1]?=some o'->∃ro',(ro::s)[i+1]?=some ro'/\∃x,rX P keep (kY keep fn rid (k+(i+1))) o'=some x/\((o'.guard=none/\ro'=⟨o'.dst,x,none,gL P o'⟩)\/∃j b t,o'.guard=some (j,b)/\(ops[j]?).bind (·.dst)=some t/\ro'=⟨o'.dst,x,some (t,b),gL P o'⟩):=λro i o' hi=>by have:=h2 i o' (by simpa using hi);rw[show k+(i+1)=k+1+i by omega];simpa using this
  split at h
  ·rename_i hg;simp only[oI]at h;subst h;refine⟨by simp[h1],λi o' hi=>?_⟩
   cases i with
   | zero=>simp only[List.getElem?_cons_zero,oI]at hi;subst hi;exact⟨_,rfl,x,hx,.inl ⟨hg,rfl⟩⟩
   | succ i=>exact rest _ i o' hi
  ·rename_i j b hg;split at h<;>simp only[oI,reduceCtorEq]at h;rename_i t ht;subst h;refine⟨by simp[h1],λi o' hi=>?_⟩
   cases i with
   | zero=>simp only[List.getElem?_cons_zero,oI]at hi;subst hi;exact⟨_,rfl,x,hx,.inr ⟨j,b,t,hg,ht,rfl⟩⟩
   | succ i=>exact rest _ i o' hi
theorem Ur {ops:Array Oper}{k:Nat}{o:Oper}(h:ops[k]?=some o):Fu (IJ ops) k=(o.after.toList.filter (Region.binds .any)).map (·.on):=by unfold Fu IJ;rw[List.getElem?_map,Array.getElem?_toList,h];rfl
theorem VL {keep:List Nat}{fn rid:Nat}{ops:Array Oper}{Q:Exit->Act->World->Prop}(hcall:E2 P call){ros:List RO}(htr:HM P keep fn rid ops 0 ops.toList=some ros)
   {anc:List (List Nat)} {un:List (Nat×Nat)} (hst:Yc (IJ ops) anc ros un=true) {fl:Nat->Fg} (hfl:∀i k,(i,k)∈un->(fl i).ok (fl k)=true) {s:Slots×Heap}
   (hq:∀m' a' w',St w0 C own m0 m' s.1 s.2 a' w'->Q .normal a' w'):
   ∀(fuel:Nat) (listed:Array Bool) (μ:List Nat) {σ:Slots} {H:Heap} {a:Act} {w:World} {m:Places},fuel=μ.length->listed.size=ops.size->μ.Pairwise (· < ·)->(∀i,i∈μ ↔ i<ops.size/\listed.getD i true=false) ->
     (∀k i,k<ops.size->listed.getD k true=true->i∈Fu anc k->listed.getD i true=true)->Vi call ros fl μ σ H s->St w0 C own m0 m σ H a w->wpAny P .any ops Q fuel listed a w:=by
 obtain⟨hlen0,hat⟩:=LP htr
 have hlen:ros.length=ops.size:=by simpa using hlen0
 have hst':∀k,k<ops.size->(∀i∈Fu (IJ ops) k,i<k)/\(∀i∈Fu anc k,i∈Fu (IJ ops) k\/∃j∈Fu (IJ ops) k,i∈Fu anc j)/\∀i,i<k->RN anc ros un i k=true:=by
   intro k hk
   have:=List.all_eq_true.1 hst k (List.mem_range.2 (by rw[hlen];exact hk))
   simp only[Bool.and_eq_true,List.all_eq_true,decide_eq_true_eq,Bool.or_eq_true,List.any_eq_true,List.contains_eq_mem,List.mem_range]at this
   exact⟨this.1.1,this.1.2,this.2⟩
 have ready_iff:∀(listed:Array Bool) (k:Nat),k∈Region.ready .any ops listed ↔ k<ops.size/\listed.getD k true=false/\∀i∈Fu (IJ ops) k,listed.getD i false=true:=by
   intro listed k
   simp only[Region.ready,List.mem_filter,List.mem_range,Bool.and_eq_true,Bool.not_eq_true']
   constructor
   · rintro⟨h1,h2,h3⟩
     refine⟨h1,h2,λi hi=>?_⟩
     have ho:ops[k]?=some ops[k]:=Array.getElem?_eq_getElem h1
     rw[Ur ho]at hi
     rw[ho]at h3
     simp only[Option.map_some,Option.getD_some,Array.all_eq_true_iff_forall_mem,Bool.or_eq_true,Bool.not_eq_true']at h3
     obtain⟨e,he,rfl⟩:=List.mem_map.1 hi
     obtain⟨he1,he2⟩:=List.mem_filter.1 he
     rcases h3 e (by simpa using he1) with h|h
     · rw[he2]at h;cases h
     · exact h
   · rintro⟨h1,h2,h3⟩
     refine⟨h1,h2,?_⟩
     have ho:ops[k]?=some ops[k]:=Array.getElem?_eq_getElem h1
     rw[Ur ho]at h3
     rw[ho]
     simp only[Option.map_some,Option.getD_some,Array.all_eq_true_iff_forall_mem,Bool.or_eq_true,Bool.not_eq_true']
     intro e he
     cases hb:Region.binds .any e with
     | false=>exact .inl rfl
     | true=>exact .inr (h3 e.on (List.mem_map.2 ⟨e,List.mem_filter.2 ⟨by simpa using he,hb⟩,rfl⟩))
 intro fuel
 induction fuel with
 | zero=>
   intro listed μ σ H a w m hf hsz hsrt hμ hD hrun S
   have:μ=[]:=List.eq_nil_of_length_eq_zero hf.symm
   subst this
   have hs:(σ,H)=s:=hrun
   subst hs
   refine⟨?_,hq m a w S⟩
   refine List.eq_nil_iff_forall_not_mem.2 λk hk=>?_
   obtain⟨h1,h2,_⟩:=(ready_iff listed k).1 hk
   have:=(hμ k).2 ⟨h1,h2⟩
   cases this
 | succ fuel ih=>
   intro listed μ σ H a w m hf hsz hsrt hμ hD hrun S
   constructor
   · intro hnil
     -- the least one is ready
     cases μ with
     | nil=>cases hf
     | cons k r=>
       exfalso
       obtain⟨hk1,hk2⟩:=(hμ k).1 (List.mem_cons_self ..)
       have:k∈Region.ready .any ops listed:=(ready_iff listed k).2 ⟨hk1,hk2,λi hi=>by
         have hik:=(hst' k hk1).1 i hi
         cases hli:listed.getD i true with
         | false=>
           exfalso
           have hm:=(hμ i).2 ⟨by omega,hli⟩
           rcases List.mem_cons.1 hm with rfl|hm
           · omega
           · have:=(List.pairwise_cons.1 hsrt).1 i hm;omega
         | true=>
           have hi2:i<listed.size:=by omega
           simp only[Array.getD_eq_getD_getElem?,Array.getElem?_eq_getElem hi2,Option.getD_some]at hli |-
           exact hli⟩
       rw[hnil]at this;cases this
   · intro k hk
     obtain⟨hk1,hk2,hk3⟩:=(ready_iff listed k).1 hk
     have hk3':∀i∈Fu (IJ ops) k,listed.getD i true=true:=λi hi=>by
       have:=hk3 i hi
       have hi2:i<listed.size:=by have:=(hst' k hk1).1 i hi;omega
       simp only[Array.getD_eq_getD_getElem?,Array.getElem?_eq_getElem hi2,Option.getD_some]at this |-
       exact this
     have hkanc:∀i∈Fu anc k,listed.getD i true=true:=λi hi=>by
       rcases(hst' k hk1).2.1 i hi with h|⟨j,hj,h⟩
       · exact hk3' i h
       · exact hD j i (by have:=(hst' k hk1).1 j hj;omega) (hk3' j hj) h
     obtain⟨m1,m2,rfl⟩:=List.append_of_mem ((hμ k).2 ⟨hk1,hk2⟩)
     have hrun':=MF m1 (λi hi x y hx hy=>by
       have hik:i<k:=(List.pairwise_append.1 hsrt).2.2 i hi k (List.mem_cons_self ..)
       have hp:=(hst' k hk1).2.2 i hik
       have hi2:=(hμ i).1 (List.mem_append_left _ hi)
       have hna:(Fu anc k).contains i=false:=by
         cases hc:(Fu anc k).contains i with
         | false=>rfl
         | true=>have:=hkanc i (by simpa using hc);rw[hi2.2]at this;cases this
       simp only[RN,hna,Bool.false_or,hx,hy,Bool.and_eq_true,Bool.or_eq_true]at hp
       refine⟨hp.1,?_⟩
       have flx:∀j o,ros[j]?=some o->o.op.squiet=true->j∈m1++k::m2->fl j = .q:=λj o hj hsq hmem=>by
         -- the flag of what never looks
         have:∀ {μ:List Nat} {σ:Slots} {H:Heap},Vi call ros fl μ σ H s->j∈μ->fl j = .q:=by
           intro μ
           induction μ with
           | nil=>intro σ H _ h;cases h
           | cons q r ihr=>
             intro σ H hr h
             obtain⟨o',σ',H',g1,g2,g3,g4⟩:=hr
             rcases List.mem_cons.1 h with rfl|h
             · rw[hj]at g1
               simp only[oI]at g1
               subst g1
               rw[g3]
               exact Qe hsq
             · exact ihr g4 h
         exact this hrun hmem
       rcases hp.2 with((h|h)|h)|h
       · exact .inl (by rw[flx i x hx h (by simp[hi])];exact(ABw _).1)
       · exact .inl (by rw[flx k y hy h (by simp)];exact(ABw _).2)
       · exact .inr h
       · exact .inl (hfl i k (by simpa using h))) hrun
     obtain⟨ro,σ1,H1,hro,h1,_,hrest⟩:=hrun'
     have ho:ops[k]?=some ops[k]:=Array.getElem?_eq_getElem hk1
     obtain⟨ro',hro',x,hx⟩:=hat k ops[k] (by rw[Array.getElem?_toList];exact ho)
     rw[hro]at hro'
     simp only[oI]at hro'
     subst hro'
     refine kT hcall ho ⟨x,hx⟩ h1 S λm' a' w' S'=>?_
     have hset:∀(i:Nat) (d:Bool),i≠k->(listed.setIfInBounds k true).getD i d=listed.getD i d:=λi d hne=>getD_set_ne d (λh=>hne h.symm)
     have hsetk:(listed.setIfInBounds k true).getD k true=true:=by
       rw[Array.getD_eq_getD_getElem?,Array.getElem?_setIfInBounds]
       simp only[if_true]
       split<;>rfl
     refine ih _ (m1++m2) (by simp at hf |-;omega) (by simp[hsz]) ?_ (λi=>?_) (λj i hj h2 h3=>?_) hrest S'
     · rw[List.pairwise_append]at hsrt |-
       exact⟨hsrt.1,(List.pairwise_cons.1 hsrt.2.1).2,λi hi j hj=>hsrt.2.2 i hi j (List.mem_cons_of_mem _ hj)⟩
     · by_cases hik:i=k
       · subst hik
         rw[hsetk]
         constructor
         · intro hm
           exfalso
           rw[List.pairwise_append]at hsrt
           rcases List.mem_append.1 hm with hm|hm
           · have:=hsrt.2.2 i hm i (List.mem_cons_self ..);omega
           · have:=(List.pairwise_cons.1 hsrt.2.1).1 i hm;omega
         · rintro⟨_,h⟩;cases h
       · rw[hset i true hik]
         have:=hμ i
         simp only[List.mem_append,List.mem_cons,hik,false_or]at this
         simpa only[List.mem_append] using this
     · by_cases hik:i=k
       · subst hik;exact hsetk
       · rw[hset i true hik]
         by_cases hjk:j=k
         · subst hjk;exact hkanc i h3
         · rw[hset j true hjk]at h2
           exact hD j i hj h2 h3
theorem Sa {keep:List Nat}{fn:Nat}{hs:Hints}{ls:Loops}{fuel:Nat}(hcall:E2 P call)(hm0:∀i v l,m0 i v=some l->i / 100000≠fn):∀ {c:Code} {cmd:Cmd} {σ:Slots} {H:Heap} {a:Act} {w:World} {m:Places} {ex:Ex} {σ':Slots} {H':Heap} {Q:Exit->Act->World->Prop},
   trC P keep fn hs ls c=some cmd->Bd call fuel cmd σ H=some (ex,σ',H')->St w0 C own m0 m σ H a w->(∀m' a' w',St w0 C own m0 m' σ' H' a' w'->Q (pX ex) a' w')->c.wp P Q a w:=by
 intro c
 induction c with
 | skip=>
  intro cmd σ H a w m ex σ' H' Q ht he S hq
  simp only[trC,oI]at ht;subst ht
  simp only[Bd,oI,pI]at he
  obtain⟨rfl,rfl,rfl⟩:=he
  exact wp_skip (hq m a w S)
 | label l=>
  intro cmd σ H a w m ex σ' H' Q ht he S hq
  simp only[trC,oI]at ht;subst ht
  simp only[Bd,oI,pI]at he
  obtain⟨rfl,rfl,rfl⟩:=he
  exact wp_label (hq m a w S)
 | exit id=>
  intro cmd σ H a w m ex σ' H' Q ht he S hq
  simp only[trC,oI]at ht;subst ht
  simp only[Bd,oI,pI]at he
  obtain⟨rfl,rfl,rfl⟩:=he
  exact wp_exit (hq m a w S)
 | ret=>
  intro cmd σ H a w m ex σ' H' Q ht he S hq
  simp only[trC,oI]at ht;subst ht
  simp only[Bd,oI,pI]at he
  obtain⟨rfl,rfl,rfl⟩:=he
  exact wp_ret (hq m a w S)
 | region id ops draw=>
  intro cmd σ H a w m ex σ' H' Q ht he S hq
  cases draw with
  | true=>
   simp only[trC]at ht
   split at ht<;>try (cases ht;done)
   rename_i l hl
   split at ht<;>simp only[oI,reduceCtorEq]at ht
   rename_i hok
   simp only[Bool.and_eq_true]at hok
   obtain⟨hmix,hstat⟩:=hok
   have reg:∀ {σ:Slots} {H:Heap} {m:Places},St w0 C own m0 m σ H a w->Bd call fuel (.drawn l (cZ (Nb [] (IJ ops)) l)) σ H=some (ex,σ',H')->(Code.region id ops true).wp P Q a w:=by
    intro σ H m S he;simp only[Bd]at he;split at he<;>try (cases he;done)
    rename_i σ1 H1 fl h1;split at he<;>simp only[oI,reduceCtorEq,pI]at he;rename_i hfl;obtain⟨rfl,rfl,rfl⟩:=he;obtain⟨_,hrun⟩:=TD l [] rfl h1;have hlen:l.length=ops.size:=by have:=(LP hl).1;simpa using this
    refine wp_region_any hmix ?_;have hg:∀(i:Nat) (d:Bool),(Array.replicate ops.size false).getD i d=if i<ops.size then false else d:=λi d=>by rw[Array.getD_eq_getD_getElem?,Array.getElem?_replicate];split<;>rfl
    refine VL hcall hl hstat (s:=(σ1,H1)) (λi k hik=>J5 hfl hik) (λm' a' w' S'=>hq m' a' w' S') ops.size _ (List.range' 0 l.length) (by simp[hlen]) (by simp) ?_ (λi=>?_) (λk i hk h=>?_) hrun S.drawn;·exact List.pairwise_lt_range'
    ·rw[hg];simp[hlen]
    ·rw[hg,if_pos hk]at h;cases h
   clear hl hstat
   generalize cZ (Nb [] (IJ ops)) l=un at ht reg
   induction hs with
   | nil=>simp only[Hints.at]at ht;subst ht;exact reg S he
   | cons x t ih=>
    obtain⟨k,ka,kb,kr,kd⟩:=x
    simp only[Hints.at]at ht
    split at ht
    ·subst ht
     cases hh:Fi fn ka kb kr kd σ H with
     | none=>simp[Bd,hh]at he
     | some p=>
      obtain⟨σ2,H2⟩:=p
      obtain⟨m2,S2⟩:=Mj hm0 hh S
      exact reg S2 (by simpa only[Bd,hh] using he)
    ·exact ih ht
  | false=>
   simp only[trC]at ht
   split at ht
   case h_2=>
    split at ht<;>simp only[oI,reduceCtorEq]at ht
    subst ht
    have hn:Bd call fuel gO σ H=none:=rfl
    rw[hn]at he
    cases he
   rename_i l hl
   simp only[oI]at ht
   have reg:∀ {σ:Slots} {H:Heap} {m:Places},St w0 C own m0 m σ H a w->Bd call fuel (.region l) σ H=some (ex,σ',H')->(Code.region id ops false).wp P Q a w:=by intro σ H m S he;simp only[Bd]at he;split at he<;>simp only[oI,reduceCtorEq,pI]at he;rename_i σ1 H1 h1;obtain⟨rfl,rfl,rfl⟩:=he;exact wp_region_list (Ht hcall hl h1 S hq)
   clear hl
   induction hs with
   | nil=>simp only[Hints.at]at ht;subst ht;exact reg S he
   | cons x t ih=>
    obtain⟨k,ka,kb,kr,kd⟩:=x
    simp only[Hints.at]at ht
    split at ht
    ·subst ht
     cases hh:Fi fn ka kb kr kd σ H with
     | none=>simp[Bd,hh]at he
     | some p=>
      obtain⟨σ2,H2⟩:=p
      obtain⟨m2,S2⟩:=Mj hm0 hh S
      exact reg S2 (by simpa only[Bd,hh] using he)
    ·exact ih ht
 | seq x y ihx ihy=>
  intro cmd σ H a w m ex σ' H' Q ht he S hq
  simp only[trC]at ht
  split at ht<;>simp only[oI,reduceCtorEq]at ht
  rename_i cx cy hx hy
  subst ht
  simp only[Bd]at he
  refine wp_seq ?_
  split at he
  ·rename_i σ1 H1 h1
   exact ihx hx h1 S λm' a' w' S'=>ihy hy he S' hq
  ·rename_i hn
   refine ihx hx he S λm' a' w' S'=>?_
   cases ex with
   | norm=>exact absurd he (hn _ _)
   | exit i=>exact hq m' a' w' S'
   | ret=>exact hq m' a' w' S'
 | cond c x y ihx ihy=>
  intro cmd σ H a w m ex σ' H' Q ht he S hq
  simp only[trC]at ht
  split at ht<;>simp only[oI,reduceCtorEq]at ht
  rename_i cx cy hx hy
  subst ht
  simp only[Bd]at he
  split at he<;>try (cases he;done)
  rename_i t hc
  have hv:=(AK S.vals hc).bool
  cases t with
  | true=>exact wp_cond_true hv (ihx hx he S hq)
  | false=>exact wp_cond_false hv (ihy hy he S hq)
 | block id c ih=>
  intro cmd σ H a w m ex σ' H' Q ht he S hq
  simp only[trC]at ht
  split at ht<;>simp only[oI,reduceCtorEq]at ht
  rename_i cx hx
  subst ht
  simp only[Bd]at he
  refine wp_block ?_
  split at he
  ·rename_i i σ1 H1 h1
   refine ih hx h1 S λm' a' w' S'=>?_
   split at he<;>simp only[oI,pI]at he<;>obtain⟨rfl,rfl,rfl⟩:=he
   ·rename_i hi
    subst hi
    have:=hq m' a' w' S'
    simpa[Exit.inBlock,pX] using this
   ·rename_i hi
    have:=hq m' a' w' S'
    simp only[Exit.inBlock,pX]
    rw[if_neg hi]
    exact this
  ·rename_i hn
   refine ih hx he S λm' a' w' S'=>?_
   cases ex with
   | norm=>exact hq m' a' w' S'
   | exit i=>exact absurd he (hn _ _ _)
   | ret=>exact hq m' a' w' S'
 | loop c ih=>
  intro cmd σ H a w m ex σ' H' Q ht he S hq
  simp only[trC]at ht
  split at ht<;>simp only[oI,reduceCtorEq]at ht
  rename_i cx hx
  subst ht
  simp only[Bd]at he
  refine wp_loop_ghost (λn a w=>∃σ H m,GU (Bd call fuel cx) n σ H=some (ex,σ',H')/\St w0 C own m0 m σ H a w) fuel ⟨σ,H,m,he,S⟩ ?_
  rintro n a w ⟨σ,H,m,he,S⟩
  cases n with
  | zero=>cases he
  | succ n=>
   simp only[GU]at he
   split at he
   ·rename_i σ1 H1 h1
    exact ih hx h1 S λm' a' w' S'=>⟨n,Nat.lt_succ_self _,σ1,H1,m',he,S'⟩
   ·rename_i hn
    refine ih hx he S λm' a' w' S'=>?_
    cases ex with
    | norm=>exact absurd he (hn _ _)
    | exit i=>exact hq m' a' w' S'
    | ret=>exact hq m' a' w' S'
 | scope c ih=>
  intro cmd σ H a w m ex σ' H' Q ht he S hq
  simp only[trC]at ht
  refine wp_scope_straight (ih ht he S λm' a' w' S'=>?_)
  have:=hq m' a' w' S'
  cases ex<;>exact this
 | _=>intro cmd σ H a w m ex σ' H' Q ht;simp[trC]at ht
end
def trR (P:Program):List ResultVar->Option (List Res)
 | []=>some []
 | .tmp t::r=>match trR P r with
   | some s=>some (.tmp t::s)
   | none=>none
 | .cell a t::r=>match CX P t,trR P r with
   | some z,some s=>some (.cell a z::s)
   | _,_=>none
section
variable {P:Program} {w:World} {C:Cx} {own:Nat->Prop} {m m0:Places} {w0:World} {H:Heap} {σ:Slots} {a:Act} {call:Al}
def Mw (tmps:Array Value):ResultVar->Sem Value
 | .tmp t=>pure (tmps.getD t undef)
 | .cell a t=>do loadVar t (<-asAddr (tmps.getD a undef))
theorem HO (hr:HR w C own m H)(hv:∀t,VR w C (owned H m) m (σ.get t) (a.tmps.getD t undef)):∀ {l:List ResultVar} {rs:List Res} {vs:List AV},trR P l=some rs->Gs σ H rs=some vs ->
   ∃us,(l.mapM (Mw a.tmps)).run P w = .ok us w/\Cells w C (owned H m) m vs us
 | [],rs,vs,ht,h=>by simp only[trR,oI]at ht;subst ht;simp only[Gs,oI]at h;subst h;exact⟨[],by simp,rfl,λi c u h=>by simp at h⟩
 | .tmp t::r,rs,vs,ht,h=>by
  simp only[trR]at ht;split at ht<;>simp only[oI,reduceCtorEq]at ht;rename_i s hs;subst ht;simp only[Gs]at h;split at h<;>simp only[oI,reduceCtorEq]at h;rename_i v _ s' hs1 hs';simp only[oI,pI]at hs1;obtain⟨rfl,_⟩:=hs1;subst h;obtain⟨us,h1,h2⟩:=HO hr hv hs hs';refine⟨a.tmps.getD t undef::us,by simp[List.mapM_cons,Mw,h1],by simp[h2.1],λi c u hc hu=>?_⟩
  cases i with
  | zero=>simp only[List.getElem?_cons_zero,oI]at hc hu;subst hc;subst hu;exact hv t
  | succ i=>exact h2.2 i c u (by simpa using hc) (by simpa using hu)
 | .cell x t::r,rs,vs,ht,h=>by
  simp only[trR]at ht;split at ht<;>simp only[oI,reduceCtorEq]at ht;rename_i z s hz hs;subst ht;simp only[Gs]at h;split at h<;>simp only[oI,reduceCtorEq]at h;rename_i v _ s' hs1 hs';subst h;obtain⟨us,h1,h2⟩:=HO hr hv hs hs';let o:Oper := { (default:Oper) with op := .load t (.tmp x) }
  obtain⟨_,u,htell,hvu⟩:=tP (a:=a) (o:=o) hr hv hz rfl hs1;have hl:(Mw a.tmps (.cell x t)).run P w = .ok u w:=by
   simp only[AA,execOp,o,Instr.loadAt]at htell;simp only[Mw];have he:a.eval (.tmp x)=a.tmps.getD x undef:=rfl;rw[he]at htell;generalize a.tmps.getD x undef=y at htell;cases y<;>try (simp[Instr.sureAddr]at htell;done)
   rename_i q
   cases q with
   | none=>simp[Instr.sureAddr]at htell
   | some ad=>
    simp only[Instr.sureAddr,asAddr]at htell |-;simp only[Sem.run_bind,Sem.run_pure,Result.andThen_ok]at htell |-;generalize hR:(loadVar t ad).run P w=R at htell
    cases R with
    | ok v w'=>simpa using htell
    | halt r w'=>simp at htell
  refine⟨u::us,by simp[List.mapM_cons,hl,h1],by simp[h2.1],λi c u' hc hu=>?_⟩
  cases i with
  | zero=>simp only[List.getElem?_cons_zero,oI]at hc hu;subst hc;subst hu;exact hvu
  | succ i=>exact h2.2 i c u' (by simpa using hc) (by simpa using hu)
theorem P4 {fn:Func}{tmps:Array Value}{us:List Value}{vs:List AV}(h:(fn.results.toList.mapM (Mw tmps)).run P w = .ok us w)(hc:Cells w C (owned H m) m vs us):
   ∃u,(results fn tmps).run P w = .ok u w/\VR w C (owned H m) m (one vs) u:=by
 have hm:(fn.results.mapM (Mw tmps)).run P w = .ok us.toArray w:=by rw[Array.mapM_eq_mapM_toList];simp[h]
 have hr:(results fn tmps).run P w = .ok (if h:us.toArray.size=1 then us.toArray[0] else .tuple us.toArray) w:=by
  have e:results fn tmps=(do let vs <-fn.results.mapM (Mw tmps);pure (if h:vs.size=1 then vs[0] else .tuple vs)):=by unfold results;congr 1
  rw[e,Sem.run_bind,hm];rfl
 refine⟨_,hr,?_⟩
 match us,vs,hc with
 | [],[],hc=>exact .tup [] [] rfl λi c v h=>by simp at h
 | [u],[v],hc=>exact hc.2 0 v u rfl rfl
 | u::u'::us,v::v'::vs,hc=>exact .tup _ _ hc.1 hc.2
 | [],_::_,hc=>exact absurd hc.1 (by simp)
 | _::_,[],hc=>exact absurd hc.1 (by simp)
 | [u],_::_::_,hc=>exact absurd hc.1 (by simp)
 | _::_::_,[v],hc=>exact absurd hc.1 (by simp)
theorem LH {Hin:Heap}{o:Bool}{r r':AV}{u:Value}{H':Heap}(S:St w0 C own m0 m σ H a w)(hin:HR w0 C own m0 Hin)(hv:VR w C (owned H m) m r u)(h:Bw o Hin H r=some (r',H')):
   ∃m',((∀i v l,m0 i v=some l->m' i v=some l)/\∀i v l b,m' i v=some l->l.block=some b->b<C.N->∃v' l',m0 i v'=some l'/\l'.block=some b) /\
     HR w C own m' H'/\VR w C (owned H' m') m' r' u/\∀i,(Hin.get i).isSome=true->(H'.get i).isSome=true:=by
 have place:∀i,(Hin.get i).isSome=true->(H.get i).isSome=true:=λi hi=>by
  obtain⟨o,ho⟩:=Option.isSome_iff_exists.1 hi;have:=hin.objs i o ho
  cases o with
  | box cs=>obtain⟨b,_,_,h1,_⟩:=this;exact S.hr.dom i _ _ (S.p _ _ _ h1)
  | row=>obtain⟨l,_,h1,_⟩:=this;exact S.hr.dom i _ _ (S.p _ _ _ h1)
 cases o with
 | true=>
  simp only[Bw]at h
  split at h<;>simp only[oI,reduceCtorEq,pI]at h
  rename_i hc
  obtain⟨rfl,rfl⟩:=h
  generalize hids:H.reach 1000 (Hin.dom++Ek r++Ak r) []=ids at hc |-
  simp only[Bool.and_eq_true]at hc
  have hdom:∀i,(Hin.get i).isSome=true->ids.contains i=true:=λi hi=>List.all_eq_true.1 hc.2 i (Is hi)
  obtain⟨hc1,hc2⟩:=Dm hc.1
  obtain⟨hr2,L⟩:=S.hr.fewer hc2
  refine⟨m.only ids,⟨λi v l h=>Places.only_some.2 ⟨hdom i (hin.dom i v l h),S.p i v l h⟩,λi v l b h hb hlt=>S.fr i v l b (Places.only_some.1 h).2 hb hlt⟩,hr2,?_,λi hi=>?_⟩
  ·exact(hv.only (λi hi=>hc1 i (by simpa[refsL,rowsInL] using hi))).conv (λb h1 h2=>L.n b h1 h2) (λb h1 h2=>L.o b h1 h2) (λ_ _ _ h=>h)
  ·rw[Heap.get_keep,if_pos (hdom i hi)];exact place i hi
 | false=>
  simp only[Bw]at h
  split at h<;>try (simp at h;done)
  rename_i r1 hsn
  split at h<;>simp only[oI,reduceCtorEq,pI]at h
  rename_i hc
  obtain⟨rfl,rfl⟩:=h
  generalize hids:H.reach 1000 (Hin.dom++Ek r1) []=ids at hc |-
  simp only[Bool.and_eq_true]at hc
  have hdom:∀i,(Hin.get i).isSome=true->ids.contains i=true:=λi hi=>List.all_eq_true.1 hc.2 i (Is hi)
  obtain⟨hc1,hc2⟩:=Dm hc.1
  have hrf:=BW (Ak r) S.hr
  have hvf:=C7 S.hr S.sub hv hsn
  obtain⟨hr2,L⟩:=hrf.fewer (ids:=ids) (λi cs hi hg=>by
   have:H.get i=some (.box cs):=by
    rw[Heap.get_freeze]at hg;split at hg;·cases hg
    ·exact hg
   exact hc2 i cs hi this)
  refine⟨m.only ids,⟨λi v l h=>Places.only_some.2 ⟨hdom i (hin.dom i v l h),S.p i v l h⟩,λi v l b h hb hlt=>S.fr i v l b (Places.only_some.1 h).2 hb hlt⟩,hr2,?_,λi hi=>?_⟩
  ·exact(hvf.only (λi hi=>hc1 i (by simpa[refsL,rowsInL] using hi))).conv (λb h1 h2=>L.n b h1 h2) (λb h1 h2=>L.o b h1 h2) (λ_ _ _ h=>h)
  ·rw[Heap.get_keep,if_pos (hdom i hi),Heap.get_freeze]
   split
   ·rfl
   ·exact place i hi
theorem VR.lf_wk {l:Lf}{x:AV}{u:Value}{ow:Nat->Prop}(h:VR w C ow m x u):VR w C ow m (l.wk x) u:=by
 unfold Lf.wk;split
 ·cases h with
  | n _ _ h=>cases h;exact .o _ _ (.sl0 _)
 ·cases h with
  | n _ _ h=>exact .o _ _ (h.mono (Nat.le_refl _) λb h1 _=>⟨Cx.okn_okm h1,rfl⟩)
 ·cases h with
  | n _ _ h=>cases h;exact .n _ _ (.sl0 _)
 ·exact h
theorem Ti {ow:Nat->Prop}:∀ {ls:List Lf} {xs:List AV} {us:List Value},Cells w C ow m xs us->Cells w C ow m (ML ls xs) us
 | [],xs,us,h=>by cases xs<;>exact h
 | l::r,[],us,h=>h
 | l::r,x::s,us,h=>by
  cases us with
  | nil=>exact absurd h.1 (by simp)
  | cons u us=>
   have ht:Cells w C ow m s us:=⟨by simpa using h.1,λi c v hc hv=>h.2 (i+1) c v (by simpa using hc) (by simpa using hv)⟩
   have:=Ti (ls:=r) ht;refine⟨by simpa[ML] using this.1,λi c v hc hv=>?_⟩
   cases i with
   | zero=>simp only[ML,List.getElem?_cons_zero,oI]at hc hv;subst hc;subst hv;exact VR.lf_wk (h.2 0 x u rfl rfl)
   | succ i=>exact this.2 i c v (by simpa[ML] using hc) (by simpa using hv)
theorem VR.s1_wk {l:S1}{x:AV}{u:Value}{ow:Nat->Prop}(h:VR w C ow m x u):VR w C ow m (l.wk x) u:=by
 unfold S1.wk;split;·exact VR.lf_wk h
 ·obtain⟨vs,h1,h2,rfl⟩:=h.agg_inv;have:=Ti (ls:=by assumption) ⟨h1,h2⟩;exact .agg _ _ this.1 this.2
 ·exact h
theorem RT {ow:Nat->Prop}:∀ {ls:List S1} {xs:List AV} {us:List Value},Cells w C ow m xs us->Cells w C ow m (Ns ls xs) us
 | [],xs,us,h=>by cases xs<;>exact h
 | l::r,[],us,h=>h
 | l::r,x::s,us,h=>by
  cases us with
  | nil=>exact absurd h.1 (by simp)
  | cons u us=>
   have ht:Cells w C ow m s us:=⟨by simpa using h.1,λi c v hc hv=>h.2 (i+1) c v (by simpa using hc) (by simpa using hv)⟩
   have:=RT (ls:=r) ht;refine⟨by simpa[Ns] using this.1,λi c v hc hv=>?_⟩
   cases i with
   | zero=>simp only[Ns,List.getElem?_cons_zero,oI]at hc hv;subst hc;subst hv;exact VR.s1_wk (h.2 0 x u rfl rfl)
   | succ i=>exact this.2 i c v (by simpa[Ns] using hc) (by simpa using hv)
theorem VR.sh_wk {l:Sh}{x:AV}{u:Value}{ow:Nat->Prop}(h:VR w C ow m x u):VR w C ow m (l.wk x) u:=by
 unfold Sh.wk;split;·exact VR.s1_wk h
 ·obtain⟨vs,h1,h2,rfl⟩:=h.tup_inv;have:=RT (ls:=by assumption) ⟨h1,h2⟩;exact .tup _ _ this.1 this.2
 ·exact h
theorem My:∀(ls:List S1) (xs:List AV),(Ns ls xs).length=xs.length
 | [],xs=>by cases xs<;>rfl
 | l::r,[]=>rfl
 | l::r,x::s=>by simp[Ns,My r s]
structure IsFn (P:Program) (f:Nat) (c:FnC):Prop where
 is : ∃ fn body keep hs ls, P.funcs[f]? = some fn ∧ fn.body = some body ∧ (fn.name == "runtime.NumGoroutine") = false ∧ fn.ntmps = c.ntmps ∧ trR P fn.results.toList = some c.results ∧ trC P keep c.fn hs ls body = some c.body
theorem IsFn.callable {f:Nat}{c:FnC}(h:IsFn P f c):Ez P f:=by
 obtain⟨fn,body,keep,hs,ls,h1,h2,h3,_⟩:=h.is
 intro args w
 have h3' : ¬ fn.name = "runtime.NumGoroutine" := by simpa using h3
 simp[callFunc,go_sem,h1,h2,h3']
theorem Slots.get_eq (σ:Slots)(t:Nat):Slots.get σ t=(σ[t]?).getD (.n .any):=by
 induction σ generalizing t with
 | nil=>cases t<;>rfl
 | cons x r ih=>cases t with
   | zero=>rfl
   | succ t=>simpa[Slots.get] using ih t
theorem QZ {fuel:Nat}(hcall:E2 P call){f:Nat}{c:FnC}(hfn:IsFn P f c){as:List AV}{H:Heap}{r:AV}{H':Heap}(h:HJ call fuel c as H=some (r,H')):Spec P f as H r H':=by
 obtain⟨fn,body,keep,hs,ls,h1,h2,h3,h4,h5,h6⟩:=hfn.is;intro w al m vs hr hal hc;unfold HJ at h;split at h<;>try (cases h;done)
 rename_i hdom;simp only[Bool.not_eq_true]at hdom;have hm0:∀i v l,m i v=some l->i / 100000≠c.fn:=λi v l hm he=>by have:H.dom.any (λi=>i / 100000==c.fn)=true:=List.any_eq_true.2 ⟨i,Is (hr.dom i v l hm),by simpa using he⟩;rw[this]at hdom;cases hdom
 refine calls_of_wp h1 h2 ?_;replace hc:=RT (ls:=c.ps) hc;have hlen:=My c.ps as;generalize Ns c.ps as=bs at hc hlen h;rw[<-hlen]at h;clear hlen;clear as;revert bs;intro as hc h;have S0:St w ⟨w.heap.size,al⟩ (owned H m) m m (as++List.replicate (c.ntmps-as.length) (.n .any)) H { tmps:=vs.toArray++Array.replicate (fn.ntmps-vs.toArray.size) undef,defers:=[] } w:=by
  refine⟨λt=>?_,?_,rfl,hr,Keep.refl _ _ _,rfl,hal,Nat.le_refl _,λ_ _ _ h=>h,λi v l b h hb _=>⟨v,l,h,hb⟩⟩
  ·rw[Slots.get_eq];by_cases ht:t<as.length
   ·have ht':t<vs.length:=hc.1▸ht;rw[List.getElem?_append_left ht];have e:(vs.toArray++Array.replicate (fn.ntmps-vs.toArray.size) undef).getD t undef=vs[t]:=by simp[Array.getD,Array.getElem_append,ht'];omega
    rw[e];exact hc.2 t _ _ (by rw[gI ht];rfl) (gI ht')
   ·rw[List.getElem?_append_right (by omega)];rw[List.getElem?_replicate];split<;>exact .any _
  ·have:=hc.1;simp[h4,this]
 have fin:∀ {ex:Ex} {σ':Slots} {H1:Heap},(ex = .norm\/ex = .ret)->Bd call fuel c.body (as++List.replicate (c.ntmps-as.length) (.n .any)) H=some (ex,σ',H1) ->
     (match Gs σ' H1 c.results with|some vs=>(Bw c.own H H1 (one vs)).map λp=>(c.rs.wk p.1,p.2)|none=>none)=some (r,H') ->
     body.wp P (bodyPost P fn λe w'=>∃u m',e = .returned u/\((∀i v l,m i v=some l->m' i v=some l)/\∀i v l b,m' i v=some l->l.block=some b->b<w.heap.size->∃v' l',m i v'=some l'/\l'.block=some b) /\
       HR w' ⟨w.heap.size,al⟩ (owned H m) m' H'/\VR w' ⟨w.heap.size,al⟩ (owned H' m') m' r u/\Keep w.heap.size (owned H m) w w'/\∀i,(H.get i).isSome=true->(H'.get i).isSome=true)
       { tmps:=vs.toArray++Array.replicate (fn.ntmps-vs.toArray.size) undef,defers:=[] } w:=by
   intro ex σ' H1 hex he hg
   refine Sa hcall hm0 h6 he S0 λm' a' w' S'=>?_
   split at hg<;>try (cases hg;done)
   rename_i rs hrs
   obtain⟨us,hu1,hu2⟩:=HO (P:=P) S'.hr S'.vals h5 hrs
   obtain⟨u,hu3,hu4⟩:=P4 hu1 hu2
   obtain⟨⟨r0,H0⟩,hg0,hg1⟩:=Option.map_eq_some_iff.1 hg
   simp only[pI]at hg1
   obtain⟨e1,e2⟩:=hg1
   obtain⟨m2,g1,g2,g3,g4⟩:=LH S' hr hu4 hg0
   replace g3:=VR.sh_wk (l:=c.rs) g3
   rw[e1]at g3
   rw[e2]at g2 g3 g4
   have:a'.defers=[]/\∃v,(results fn a'.tmps).run P w' = .ok v w'/\∃u m',Ending.returned v = .returned u/\((∀i v l,m i v=some l->m' i v=some l)/\∀i v l b,m' i v=some l->l.block=some b->b<w.heap.size->∃v' l',m i v'=some l'/\l'.block=some b) /\
       HR w' ⟨w.heap.size,al⟩ (owned H m) m' H'/\VR w' ⟨w.heap.size,al⟩ (owned H' m') m' r u/\Keep w.heap.size (owned H m) w w'/\∀i,(H.get i).isSome=true->(H'.get i).isSome=true:=
     ⟨S'.dfr,u,hu3,u,m2,rfl,g1,g2,g3,S'.keep,g4⟩
   rcases hex with rfl|rfl<;>exact this
 split at h<;>try (cases h;done)
 ·rename_i σ' H1 he;exact fin (.inl rfl) he h
 ·rename_i σ' H1 he;exact fin (.inr rfl) he h
def D2 (P:Program)(f:Nat):Fun->Prop
 | .code c=>IsFn P f c
 | .prim _ p=>Ez P f/\∀as H r H',p as H=some (r,H')->Spec P f as H r H'
def Company (P:Program)(Fs:Nat->Option Fun):Prop:=∀f F,Fs f=some F->D2 P f F
def D3:List (Nat×Fun)->Nat->Option Fun
 | [],_=>none
 | (n,F)::r,f=>if f=n then some F else D3 r f
theorem Company.nil:Company P (D3 []):=λf F h=>by cases h
theorem Company.cons {n:Nat}{F:Fun}{r:List (Nat×Fun)}(h:D2 P n F)(hr:Company P (D3 r)):Company P (D3 ((n,F)::r)):=λf F' h'=>by
 simp only[D3]at h';split at h';·rename_i e;subst e;simp only[oI]at h';subst h';exact h
 ·exact hr f F' h'
theorem NI {Fs:Nat->Option Fun}(hF:Company P Fs):∀(k:Nat),E2 P (run Fs k)
 | 0=>λf as H r H' h=>by cases h
 | k+1=>λf as H r H' h=>by
  simp only[run]at h;split at h<;>try (cases h;done)
  ·rename_i c hc;have hf:IsFn P f c:=hF f _ hc;exact⟨IsFn.callable hf,QZ (NI hF k) hf h⟩
  ·rename_i p hp;have hf:=hF f _ hp;exact⟨hf.1,hf.2 _ _ _ _ h⟩
end
end Go.Mir
