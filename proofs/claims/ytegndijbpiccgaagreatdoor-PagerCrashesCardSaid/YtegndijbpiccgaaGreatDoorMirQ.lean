import Derived.Test.YtegndijbpiccgaaGreatDoorMirA
namespace Go.Mir
set_option linter.unusedVariables false
set_option linter.unusedSimpArgs false
theorem Slots.put_get':∀(σ:Slots) (d:Nat) (v:AV) (t:Nat),t≠d->Slots.get (Slots.put σ d v) t=Slots.get σ t
 | [],_,_,_,_=>rfl
 | x::r,0,v,0,h=>absurd rfl h
 | x::r,0,v,t+1,_=>rfl
 | x::r,d+1,v,0,_=>rfl
 | x::r,d+1,v,t+1,h=>by simpa[Slots.put,Slots.get] using Slots.put_get' r d v t (by omega)
theorem Slots.put_comm:∀(σ:Slots) (d e:Nat) (v u:AV),d≠e->Slots.put (Slots.put σ d v) e u=Slots.put (Slots.put σ e u) d v
 | [],_,_,_,_,_=>rfl
 | x::r,0,0,v,u,h=>absurd rfl h
 | x::r,0,e+1,v,u,_=>rfl
 | x::r,d+1,0,v,u,_=>rfl
 | x::r,d+1,e+1,v,u,h=>by simpa[Slots.put] using Slots.put_comm r d e v u (by omega)
section
variable {σ σ':Slots}
theorem Ah {x:Operand}(h:∀t∈BI x,σ.get t=σ'.get t):ev σ x=ev σ' x:=by cases x<;>simp_all[ev,BI]
theorem B4:∀ {l:List Operand},(∀t∈JY l,σ.get t=σ'.get t)->Jj σ l=Jj σ' l
 | [],_=>rfl
 | x::r,h=>by have h1:ev σ x=ev σ' x:=Ah λt ht=>h t (by simp[JY,ht]);have h2:Jj σ r=Jj σ' r:=B4 λt ht=>h t (by simp only[JY,List.flatMap_cons,List.mem_append];exact .inr ht);simp only[Jj,h1,h2]
theorem DY {x:Option Operand}{d hi:Nat}(h:∀t∈UQ x,σ.get t=σ'.get t):Ct σ x d hi=Ct σ' x d hi:=by
 cases x with
 | none=>rfl
 | some x=>simp only[Ct,Ah (σ:=σ) (σ':=σ') (x:=x) h]
theorem Mr:∀ {l:List (Nat×Nat×Operand)} {cs:List AV},(∀t∈l.flatMap (λp=>BI p.2.2),σ.get t=σ'.get t)->E5 σ cs l=E5 σ' cs l
 | [],_,_=>rfl
 | (off,size,x)::r,cs,h=>by have h1:ev σ x=ev σ' x:=Ah λt ht=>h t (by simp[ht]);have h2:∀cs,E5 σ cs r=E5 σ' cs r:=λcs=>Mr λt ht=>h t (by simp only[List.flatMap_cons,List.mem_append];exact .inr ht);simp only[E5,h1,h2]
theorem PH {call:Al}{H:Heap}{o:Opn}(h:∀t∈o.reads,σ.get t=σ'.get t):Ac call σ H o=Ac call σ' H o:=by
 cases o
 case mov x=>simp only[Ac,Ah (x:=x) h]
 case pick c a b=>
  simp only[Opn.reads,List.mem_append]at h
  simp only[Ac,Ah (x:=c) λt ht=>h t (.inl (.inl ht)),Ah (x:=a) λt ht=>h t (.inl (.inr ht)),Ah (x:=b) λt ht=>h t (.inr ht)]
 case scut x lo hi=>
  simp only[Opn.reads,List.mem_append]at h
  simp only[Ac,Ah (x:=x) λt ht=>h t (.inl (.inl ht)),DY (x:=lo) λt ht=>h t (.inl (.inr ht)),DY (x:=hi) λt ht=>h t (.inr ht)]
 case cut x lo hi mx sz=>
  simp only[Opn.reads,List.mem_append]at h
  simp only[Ac,Ah (x:=x) λt ht=>h t (.inl (.inl (.inl ht))),DY (x:=lo) λt ht=>h t (.inl (.inl (.inr ht))),DY (x:=hi) λt ht=>h t (.inl (.inr ht)),DY (x:=mx) λt ht=>h t (.inr ht)]
 case build z ps=>simp only[Ac,Mr (l:=ps) h]
 case lit id e sz ps=>simp only[Ac,B4 (l:=ps) h]
 case mm m xs=>simp only[Ac,B4 (l:=xs) h]
 case mkf f xs=>simp only[Ac,B4 (l:=xs) h]
 case call o f xs=>simp only[Ac,B4 (l:=xs) h]
 case dyn o f xs=>
  simp only[Opn.reads,List.mem_append]at h
  simp only[Ac,Ah (x:=f) λt ht=>h t (.inl ht),B4 (l:=xs) λt ht=>h t (.inr ht)]
 case alloc=>rfl
 case mk id e z b n=>simp only[Ac,Ah (x:=n) h]
 case box id x=>simp only[Ac,Ah (x:=x) h]
 case app id e sz b x y=>
  simp only[Opn.reads,List.mem_append]at h
  simp only[Ac,Ah (x:=x) λt ht=>h t (.inl ht),Ah (x:=y) λt ht=>h t (.inr ht)]
 case apps id e x y=>
  simp only[Opn.reads,List.mem_append]at h
  simp only[Ac,Ah (x:=x) λt ht=>h t (.inl ht),Ah (x:=y) λt ht=>h t (.inr ht)]
 case bin op x y=>
  simp only[Opn.reads,List.mem_append]at h
  simp only[Ac,Ah (x:=x) λt ht=>h t (.inl ht),Ah (x:=y) λt ht=>h t (.inr ht)]
 case bb op x y=>
  simp only[Opn.reads,List.mem_append]at h
  simp only[Ac,Ah (x:=x) λt ht=>h t (.inl ht),Ah (x:=y) λt ht=>h t (.inr ht)]
 case eqs op ks x y=>
  simp only[Opn.reads,List.mem_append]at h
  simp only[Ac,Ah (x:=x) λt ht=>h t (.inl ht),Ah (x:=y) λt ht=>h t (.inr ht)]
 case st x y sz=>
  simp only[Opn.reads,List.mem_append]at h
  simp only[Ac,Ah (x:=x) λt ht=>h t (.inl ht),Ah (x:=y) λt ht=>h t (.inr ht)]
 case idxA x y sz=>
  simp only[Opn.reads,List.mem_append]at h
  simp only[Ac,Ah (x:=x) λt ht=>h t (.inl ht),Ah (x:=y) λt ht=>h t (.inr ht)]
 case idxG x y n=>
  simp only[Opn.reads,List.mem_append]at h
  simp only[Ac,Ah (x:=x) λt ht=>h t (.inl ht),Ah (x:=y) λt ht=>h t (.inr ht)]
 case idx x y=>
  simp only[Opn.reads,List.mem_append]at h
  simp only[Ac,Ah (x:=x) λt ht=>h t (.inl ht),Ah (x:=y) λt ht=>h t (.inr ht)]
 case un op x=>simp only[Ac,Ah (x:=x) h]
 case conv op x=>simp only[Ac,Ah (x:=x) h]
 case sid x=>simp only[Ac,Ah (x:=x) h]
 case ext x i=>simp only[Ac,Ah (x:=x) h]
 case nilck x=>simp only[Ac,Ah (x:=x) h]
 case fadr x i=>simp only[Ac,Ah (x:=x) h]
 case fld x i n=>simp only[Ac,Ah (x:=x) h]
 case ld x n=>simp only[Ac,Ah (x:=x) h]
 case slen x=>simp only[Ac,Ah (x:=x) h]
 case len x=>simp only[Ac,Ah (x:=x) h]
 case s2b x=>simp only[Ac,Ah (x:=x) h]
 case b2s x=>simp only[Ac,Ah (x:=x) h]
theorem Rg {o:Opn}(h:∀t∈o.reads,σ.get t=σ'.get t):o.quiet σ=o.quiet σ':=by
 cases o<;>try rfl
 case len x=>simp only[Opn.quiet,Ah (x:=x) h]
 case b2s x=>simp only[Opn.quiet,Ah (x:=x) h]
 case ld x n=>simp only[Opn.quiet,Ah (x:=x) h]
 case cut x lo hi mx sz=>
  simp only[Opn.reads,List.mem_append]at h
  simp only[Opn.quiet,Ah (x:=x) λt ht=>h t (.inl (.inl (.inl ht)))]
 case idxA x i sz=>
  simp only[Opn.reads,List.mem_append]at h
  simp only[Opn.quiet,Ah (x:=x) λt ht=>h t (.inl ht)]
 case call own f args=>cases own<;>first|rfl|simp only[Opn.quiet,B4 (l:=args) h]
 case dyn own f args=>
  simp only[Opn.reads,List.mem_append]at h
  cases own<;>first|rfl|simp only[Opn.quiet,Ah (x:=f) λt ht=>h t (.inl ht),B4 (l:=args) λt ht=>h t (.inr ht)]
theorem Ly:∀ {a b:List AV},plainL a=true->plainL b=true->plainL (a++b)=true
 | [],b,_,h=>h
 | x::r,b,h,h2=>by simp only[plainL,Bool.and_eq_true]at h;simp only[List.cons_append,plainL,h.1,Ly h.2 h2,Bool.and_self]
theorem LK {call:Al}{f:Nat}{as:List AV}(hp:plainL as=true)(H:Heap):AF call false H f as=(match call f (ageL as) [] with
   | some (r,H1)=>match AN H1 r with
     | some r'=>if !H1.closed [] [r'] then none else some (r',H)
     | none=>none
   | none=>none):=by
 obtain⟨p1,p2,p3⟩:=plainL_ok (H:=H) hp
 have hcl:H.closed [] as=true:=by simp[Heap.closed,p1,p2]
 unfold AF
 simp only[BJ,Cd,Be,BY,p3,p1,p2,show H.reach 1000 [] []=[] from rfl,hcl,EI,Heap.age,List.any_nil,Bool.not_true,Bool.or_self,Bool.false_eq_true,if_false]
 cases call f (ageL as) [] with
 | none=>rfl
 | some p=>
  obtain⟨r,H1⟩:=p
  dsimp only
  cases AN H1 r with
  | none=>rfl
  | some r'=>
   dsimp only
   split
   ·rfl
   ·cases Gc r'<;>simp[Heap.freeze,Heap.merge]
def X1 (call:Al)(σ:Slots)(o:Opn):Prop:=∀H v H',Ac call σ H o=some (v,H')->H'=H/\∀K,Ac call σ K o=some (v,K)
theorem Mx {call:Al}{o:Opn}(r:Option AV)(h:∀H,Ac call σ H o=r.map λv=>(v,H)):X1 call σ o:=by
 intro H v H' he;rw[h]at he
 cases r with
 | none=>cases he
 | some x=> simp only[Option.map_some,oI,pI]at he;obtain⟨rfl,rfl⟩:=he;exact⟨rfl,λK=>by rw[h];rfl⟩
theorem En {call:Al}{o:Opn}(h:∀H K,(Ac call σ H o).map (·.1)=(Ac call σ K o).map (·.1))(h2:∀H v H',Ac call σ H o=some (v,H')->H'=H):X1 call σ o:=by
 intro H v H' he;refine⟨h2 H v H' he,λK=>?_⟩;have:=h H K;rw[he]at this
 cases hk:Ac call σ K o with
 | none=>rw[hk]at this;cases this
 | some p=> obtain⟨u,K'⟩:=p;rw[hk]at this;simp only[Option.map_some,oI]at this;subst this;rw[h2 K _ _ hk]
theorem Di {x:Option AV}(h:Ii x=true):∃a,x=some a/\((∃d,a = .n d)\/(∃d,a = .o d)\/∃nw cs,a = .dat nw cs):=by unfold Ii at h;split at h<;>first|exact⟨_,rfl,.inl ⟨_,rfl⟩⟩|exact⟨_,rfl,.inr (.inl ⟨_,rfl⟩)⟩|exact⟨_,rfl,.inr (.inr ⟨_,_,rfl⟩)⟩|cases h
theorem GG {a:AV}(h:(∃d,a = .n d)\/(∃d,a = .o d)\/∃nw cs,a = .dat nw cs)(H K:Heap):BC H a=BC K a:=by
 rcases h with⟨d,rfl⟩|⟨d,rfl⟩|⟨nw,cs,rfl⟩
 ·cases d<;>rfl
 ·cases d<;>rfl
 ·rfl
theorem J7 {a:AV}(h:(∃d,a = .n d)\/(∃d,a = .o d)\/∃nw cs,a = .dat nw cs):Ak a=[]:=by rcases h with⟨d,rfl⟩|⟨d,rfl⟩|⟨nw,cs,rfl⟩<;>rfl
theorem Kd {call:Al}{o:Opn}(hq:o.quiet σ=true):X1 call σ o:=by
 cases o
 case len x=>
  obtain⟨a,ha,hc⟩:=Di hq
  refine En (λH K=>?_) λH v H' he=>?_
  ·simp only[Ac,ha];rw[GG hc H K];split<;>rfl
  ·simp only[Ac,ha]at he;split at he<;>simp only[oI,pI,reduceCtorEq]at he;exact he.2.symm
 case b2s x=>
  obtain⟨a,ha,hc⟩:=Di hq
  refine En (λH K=>?_) λH v H' he=>?_
  ·simp only[Ac,ha];rw[GG hc H K];split<;>try rfl
   split<;>rfl
  ·simp only[Ac,ha]at he
   split at he<;>try (cases he;done)
   split at he<;>simp only[oI,pI,reduceCtorEq]at he
   exact he.2.symm
 case cut x lo hi mx sz=>
  obtain⟨a,ha,hc⟩:=Di hq
  have hr:=J7 hc
  clear hq
  by_cases hn:a = .n .nil
  ·subst hn
   refine En (λH K=>?_) λH v H' he=>?_
   ·simp only[Ac,ha];repeat' (first|rfl|split)
   ·simp only[Ac,ha]at he
    repeat' (split at he)
    all_goals (simp only[oI,pI,reduceCtorEq]at he)
    all_goals exact he.2.symm
  ·have key:∀H,Ac call σ H (.cut x lo hi mx sz)=match BC H a with
       | some (nw,s,els)=>if s=sz then match Ct σ mx els.length els.length with
           | some m=>match (match hi with|none=>some els.length|some _=>Ct σ hi 0 m) with
             | some h=>match Ct σ lo 0 h with
               | some l=>some (sub nw (.sl sz ((els.take h).drop l)),H)
               | none=>none
             | none=>none
           | none=>none
         else none
       | none=>none:=λH=>by
     rcases hc with⟨d,rfl⟩|⟨d,rfl⟩|⟨nw,cs,rfl⟩
     ·cases d<;>first|exact absurd rfl hn|(simp only[Ac,ha,hr,Heap.freeze];cases hi<;>rfl)
     ·simp only[Ac,ha,hr,Heap.freeze];cases hi<;>rfl
     ·simp only[Ac,ha,hr,Heap.freeze];cases hi<;>rfl
   refine En (λH K=>?_) λH v H' he=>?_
   ·rw[key,key,GG hc H K]
    generalize BC K a=E
    rcases E with _|⟨nw,s,els⟩
    ·rfl
    ·dsimp only
     by_cases hs:s=sz
     ·simp only[hs,if_true]
      cases Ct σ mx els.length els.length with
      | none=>rfl
      | some m=>
       dsimp only
       generalize (match hi with|none=>some els.length|some _=>Ct σ hi 0 m)=U
       cases U with
       | none=>rfl
       | some u=>
        dsimp only
        cases Ct σ lo 0 u<;>rfl
     ·simp only[hs,if_false]
   ·rw[key]at he
    repeat' (split at he)
    all_goals (simp only[oI,pI,reduceCtorEq]at he)
    all_goals exact he.2.symm
 case idxA x i sz=>
  obtain⟨a,ha,hc⟩:=Di hq
  have key:∀H,Ac call σ H (.idxA x i sz)=match ev σ i with
      | some (.n (.int _ j))=>(match BC H a with
        | some (nw,s,els)=>if s=sz&&0<=j then match els[j.toNat]? with
            | some d=>some (.dat nw d.cells,H)
            | none=>none
          else none
        | none=>none)
      | _=>none:=λH=>by
    rcases hc with⟨d,rfl⟩|⟨d,rfl⟩|⟨nw,cs,rfl⟩<;>simp only[Ac,ha]<;>generalize ev σ i=I<;>rcases I with _|b<;>first
      | rfl
      | (cases b<;>first|rfl|(rename_i d2;cases d2<;>rfl))
  refine En (λH K=>?_) λH v H' he=>?_
  ·rw[key,key,GG hc H K]
   generalize BC K a=E
   generalize ev σ i=I
   repeat' (first | rfl|split)
  ·rw[key]at he
   repeat' (split at he)
   all_goals (simp only[oI,pI,reduceCtorEq]at he)
   all_goals exact he.2.symm
 case ld x n=>
  obtain⟨a,ha,hc⟩:=Di hq
  have key:∀H,Ac call σ H (.ld x n)=(match (Ac call σ [] (.ld x n)) with|some (v,_)=>some (v,H)|none=>none):=by
   intro H;rcases hc with⟨d,rfl⟩|⟨d,rfl⟩|⟨nw,cs,rfl⟩
   ·simp only[Ac,ha]
   ·simp only[Ac,ha]
   ·simp only[Ac,ha]<;>repeat' (first|rfl|split)
    all_goals simp_all
  refine Mx ((Ac call σ [] (.ld x n)).map (·.1)) λH=>?_
  rw[key H]
  cases Ac call σ [] (.ld x n)<;>rfl
 case call own f args=>
  cases own with
  | true=>cases hq
  | false=>
   simp only[Opn.quiet]at hq
   cases he:Jj σ args with
   | none=>rw[he]at hq;cases hq
   | some as=>
    rw[he]at hq
    refine Mx (match call f (ageL as) [] with
      | some (r,H1)=>match AN H1 r with
        | some r'=>if !H1.closed [] [r'] then none else some r'
        | none=>none
      | none=>none) λH=>?_
    simp only[Ac,he,LK hq]
    cases call f (ageL as) [] with
    | none=>rfl
    | some p=>
     obtain⟨r,H1⟩:=p
     dsimp only
     cases AN H1 r with
     | none=>rfl
     | some r'=>dsimp only;split<;>rfl
 case dyn own x args=>
  cases own with
  | true=>cases hq
  | false=>
   simp only[Opn.quiet]at hq
   cases hx:ev σ x with
   | none=>rw[hx]at hq;cases hq
   | some c=>
    rw[hx]at hq
    cases c<;>try (cases hq;done)
    rename_i f cap
    simp only[Bool.and_eq_true]at hq
    cases he:Jj σ args with
    | none=>rw[he]at hq;cases hq.2
    | some as=>
     rw[he]at hq
     have hpl:=Ly (a:=as) (b:=cap) hq.2 hq.1
     refine Mx (match call f (ageL (as++cap)) [] with
       | some (r,H1)=>match AN H1 r with
         | some r'=>if !H1.closed [] [r'] then none else some r'
         | none=>none
       | none=>none) λH=>?_
     simp only[Ac,hx,he,LK hpl]
     cases call f (ageL (as++cap)) [] with
     | none=>rfl
     | some p=>
      obtain⟨r,H1⟩:=p
      dsimp only
      cases AN H1 r with
      | none=>rfl
      | some r'=>dsimp only;split<;>rfl
 all_goals first
   | (cases hq;done)
   | (refine En (λH K=>?_) λH v H' he=>?_
      ·simp only[Ac]<;>repeat' (first|rfl|split)
      ·simp only[Ac]at he
       repeat' (split at he)
       all_goals (simp only[oI,pI,reduceCtorEq]at he)
       all_goals exact he.2.symm)
end
theorem E0 {call:Al}{σ:Slots}{H:Heap}{o:Opn}{v:AV}{H':Heap}(hr:o.reader=true)(he:Ac call σ H o=some (v,H')):H'=H:=by
 cases o<;>first
  | (cases hr;done)
  | (simp only[Ac]at he
     repeat' (split at he)
     all_goals (simp only[oI,pI,reduceCtorEq]at he)
     all_goals exact he.2.symm)
theorem O4 {H:Heap}{as:List AV}{f:Fg}(h:CF H as=f):f = .x\/∃S,f = .c S:=by
 subst h;unfold CF;split;·exact .inr ⟨_,rfl⟩
 ·exact .inl rfl
theorem DG {H:Heap}{own:Bool}{k:Nat}{as:List AV}{f:Fg}(h:A9 H own k as=f):f = .x\/(own=false/\CF H as=f/\∃S,f = .c S)\/(own=false/\refsL as=[]/\f = .w (rowsInL as)) \/
   (own=true/\Gk k=false/\Bz k≠0/\plainL as=true/\f = .s (CQ k) [Bz k+50000,Bz k+60000,Bz k+70000]):=by
 subst h
 cases own with
 | false=>
  cases he:(refsL as).isEmpty with
  | true=>
   have e:A9 H false k as = .w (rowsInL as):=by simp only[A9,he]
   exact .inr (.inr (.inl ⟨rfl,List.isEmpty_iff.1 he,e⟩))
  | false=>
   have e:A9 H false k as=CF H as:=by simp only[A9,he]
   rw[e]
   rcases O4 (H:=H) (as:=as) rfl with h|⟨S,h⟩
   ·exact .inl h
   ·exact .inr (.inl ⟨rfl,rfl,S,h⟩)
 | true=>
  cases he:(Gk k||Nat.beq (Bz k) 0 || !plainL as) with
  | true=>
   have e:A9 H true k as = .x:=by simp only[A9,he]
   exact .inl e
  | false=>
   have e:A9 H true k as = .s (CQ k) [Bz k+50000,Bz k+60000,Bz k+70000]:=by simp only[A9,he]
   simp only[Bool.or_eq_false_iff,Bool.not_eq_false']at he
   refine .inr (.inr (.inr ⟨rfl,he.1.1,λh0=>?_,he.2,e⟩))
   have:=he.1.2
   rw[h0]at this
   cases this
theorem NR (H K:Heap)(own:Bool)(k:Nat)(as:List AV):A9 H own k as≠.q/\((∃S,A9 H own k as = .c S)\/A9 H own k as = .x\/A9 K own k as=A9 H own k as):=by
 refine⟨λh=>?_,?_⟩;·rcases DG h with h|⟨_,_,S,h⟩|⟨_,_,h⟩|⟨_,_,_,_,h⟩<;>cases h
 ·cases own with
  | false=>
   cases he:(refsL as).isEmpty with
   | true=>exact .inr (.inr (by simp only[A9,he]))
   | false=>
    have e:A9 H false k as=CF H as:=by simp only[A9,he]
    rw[e];rcases O4 (H:=H) (as:=as) rfl with h|⟨S,h⟩
    ·exact .inr (.inl h)
    ·exact .inl ⟨S,h⟩
  | true=>exact .inr (.inr rfl)
theorem Hk (v:Option AV):G5 v≠.q/\∀S,G5 v≠.c S:=by unfold G5;split<;>simp
theorem TX (S:List Nat)(v:Option AV):Qn S v = .x\/∃T,Qn S v = .w T:=by
 unfold Qn;split;·exact .inr ⟨_,rfl⟩
 ·exact .inr ⟨_,rfl⟩
 ·exact .inr ⟨_,rfl⟩
 ·exact .inr ⟨_,rfl⟩
 ·exact .inl rfl
theorem Hg (v:Option AV):Uu v = .x\/∃T,Uu v = .f T:=by
 unfold Uu;split;·exact .inr ⟨_,rfl⟩
 ·exact .inl rfl
theorem FV (y v:Option AV):Zu y v = .x\/∃T,Zu y v = .w T:=by
 unfold Zu;split;·exact .inr ⟨_,rfl⟩
 ·split;·exact .inr ⟨_,rfl⟩
  ·exact .inl rfl
 ·exact .inl rfl
theorem F4 (id:Nat)(y v:Option AV):UA id y v = .x\/∃T,UA id y v = .w T:=by
 unfold UA;split;·exact TX _ _
 ·exact TX _ _
 ·exact .inl rfl
theorem VG (o:Opn)(σ:Slots)(H:Heap):o.fg1 σ H≠.q/\((∃S,o.fg1 σ H = .c S)\/o.fg1 σ H = .x\/∀K,o.fg1 σ K=o.fg1 σ H):=by
 have cs:∀ {own:Bool} {k:Nat} {as:List AV},A9 H own k as≠.q/\((∃S,A9 H own k as = .c S)\/A9 H own k as = .x\/∀K,A9 K own k as=A9 H own k as):=λ{own k as}=>by
  refine⟨(NR H H own k as).1,?_⟩
  cases own with
  | false=>
   cases he:(refsL as).isEmpty with
   | true=>exact .inr (.inr λK=>by simp only[A9,he])
   | false=>
    rcases(NR H H false k as).2 with h|h|_;·exact .inl h
    ·exact .inr (.inl h)
    ·have e:A9 H false k as=CF H as:=by simp only[A9,he]
     rw[e];rcases O4 (H:=H) (as:=as) rfl with h|⟨S,h⟩
     ·exact .inr (.inl h)
     ·exact .inl ⟨S,h⟩
  | true=>exact .inr (.inr λK=>rfl)
 cases o
 case ld x n=>exact⟨(Hk _).1,.inr (.inr λK=>rfl)⟩
 case len x=>exact⟨(Hk _).1,.inr (.inr λK=>rfl)⟩
 case b2s x=>exact⟨(Hk _).1,.inr (.inr λK=>rfl)⟩
 case idxA x i sz=>exact⟨(Hk _).1,.inr (.inr λK=>rfl)⟩
 case cut x lo hi mx sz=>
  refine⟨?_,.inr (.inr λK=>rfl)⟩
  rcases Hg (ev σ x) with h|⟨T,h⟩<;>simp only[Opn.fg1,h]<;>simp
 case st x y n=>
  refine⟨?_,.inr (.inr λK=>rfl)⟩
  rcases FV (ev σ y) (ev σ x) with h|⟨T,h⟩<;>simp only[Opn.fg1,h]<;>simp
 case app id e sz b x y=>
  refine⟨?_,.inr (.inr λK=>rfl)⟩
  rcases F4 id (ev σ y) (ev σ x) with h|⟨T,h⟩<;>simp only[Opn.fg1,h]<;>simp
 case lit id e sz ps=>
  refine⟨?_,.inr (.inr λK=>rfl)⟩
  simp only[Opn.fg1];split<;>simp
 case call own f args=>
  simp only[Opn.fg1]
  cases Jj σ args with
  | none=>simp
  | some as=>
   obtain⟨h1,h2⟩:=cs (own:=own) (k:=f) (as:=as)
   exact⟨h1,h2⟩
 case dyn own x args=>
  cases own with
  | true=>exact⟨by simp[Opn.fg1],.inr (.inl rfl)⟩
  | false=>
   simp only[Opn.fg1]
   split
   ·obtain⟨h1,h2⟩:=cs
    exact⟨h1,h2⟩
   ·simp
 all_goals exact⟨by simp[Opn.fg1],.inr (.inr λK=>rfl)⟩
theorem PW {o:Opn}{σ:Slots}{H:Heap}:o.quiet σ=true/\(∀K,o.fg σ K = .q)\/o.quiet σ=false/\o.fg σ H≠.q/\((∃S,o.fg σ H = .c S)\/o.fg σ H = .x\/∀K,o.fg σ K=o.fg σ H):=by
 cases hq:o.quiet σ with
 | true=>exact .inl ⟨rfl,λK=>by unfold Opn.fg;rw[hq]⟩
 | false=>
  have e:∀K,o.fg σ K=o.fg1 σ K:=λK=>by unfold Opn.fg;rw[hq]
  obtain⟨h1,h2⟩:=VG o σ H;refine .inr ⟨rfl,by rw[e];exact h1,?_⟩;rcases h2 with h|h|h;·exact .inl (by simpa only[e] using h)
  ·exact .inr (.inl (by rw[e];exact h))
  ·exact .inr (.inr λK=>by rw[e,e];exact h K)
theorem JA {o:Opn}{σ:Slots}{H:Heap}{f:Fg}(h:o.fg σ H=f)(hf:f≠.q):o.fg1 σ H=f:=by
 unfold Opn.fg at h;split at h;·exact absurd h.symm hf
 ·exact h
theorem uP {o:Opn}{σ:Slots}{H:Heap}(h:o.fg σ H = .q):o.quiet σ=true:=by
 rcases PW (o:=o) (σ:=σ) (H:=H) with⟨h1,_⟩|⟨_,h1,_⟩
 ·exact h1
 ·exact absurd h h1
theorem ZI {o:Opn}{σ:Slots}{H:Heap}{f:Fg}(h:o.fg σ H=f)(h1:∀S,f≠.c S)(h2:f≠.x)(K:Heap):o.fg σ K=f:=by
 rcases PW (o:=o) (σ:=σ) (H:=H) with⟨_,g⟩|⟨_,_,⟨S,g⟩|g|g⟩
 ·rw[<-h,g,g]
 ·exact absurd (h▸g) (h1 S)
 ·exact absurd (h▸g) h2
 ·rw[g,h]
theorem Sx {x:Option AV}{j:Nat}(h:G5 x = .r j):(∃o,x=some (.ptr j o))\/(∃v s i o,x=some (.elt j v s i o))\/∃v,x=some (.row j v):=by
 unfold G5 at h;split at h<;>cases h;·exact .inl ⟨_,rfl⟩
 ·exact .inr (.inl ⟨_,_,_,_,rfl⟩)
 ·exact .inr (.inr ⟨_,rfl⟩)
theorem iP {call:Al}{o:Opn}{σ:Slots}{H0:Heap}{j:Nat}(h:o.fg σ H0 = .r j):o.reader=true/\∀H K,Heap.get H j=Heap.get K j->(Ac call σ H o).map (·.1)=(Ac call σ K o).map (·.1):=by
 replace h:=JA h (by simp);have nc:∀ {own:Bool} {k:Nat} {as:List AV},A9 H0 own k as≠.r j:=λ{own k as} e=>by rcases DG e with h|⟨_,_,S,h⟩|⟨_,_,h⟩|⟨_,_,_,_,h⟩<;>cases h
 cases o
 case cut x lo hi mx sz=>rcases Hg (ev σ x) with g|⟨T,g⟩<;>(simp only[Opn.fg1,g]at h;cases h)
 case st x y n=>rcases FV (ev σ y) (ev σ x) with g|⟨T,g⟩<;>(simp only[Opn.fg1,g]at h;cases h)
 case app id e sz b x y=>rcases F4 id (ev σ y) (ev σ x) with g|⟨T,g⟩<;>(simp only[Opn.fg1,g]at h;cases h)
 case idxA x i sz=>
  refine⟨rfl,λH K hg=>?_⟩
  have key:∀I,ev σ i=I->(Ac call σ H (.idxA x i sz)).map (·.1)=(Ac call σ K (.idxA x i sz)).map (·.1):=by
   intro I hi;rcases I with _|a;·rcases Sx h with⟨p,hx⟩|⟨p,q,r,s,hx⟩|⟨p,hx⟩<;>simp only[Ac,hx,hi]
   ·rcases Sx h with⟨p,hx⟩|⟨p,q,r,s,hx⟩|⟨p,hx⟩
    all_goals
      cases a
      case n d=>
       cases d
       case int k n=>
        simp only[Ac,hx,hi,BC,hg]
        repeat' (first | rfl|split)
       all_goals simp only[Ac,hx,hi]
      all_goals simp only[Ac,hx,hi]
  exact key _ rfl
 case lit id e sz ps=>simp only[Opn.fg1]at h;split at h<;>cases h
 case call own f args=>
  simp only[Opn.fg1]at h
  split at h
  ·exact absurd h nc
  ·cases h
 case dyn own x args=>
  cases own with
  | true=>cases h
  | false=>
   simp only[Opn.fg1]at h
   split at h
   ·exact absurd h nc
   ·cases h
 all_goals first
   | (cases h;done)
   | (refine⟨rfl,λH K hg=>?_⟩
      rcases Sx h with⟨p,hx⟩|⟨p,q,r,s,hx⟩|⟨p,hx⟩
      all_goals
        simp only[Ac,hx,BC,hg]
        repeat' (first | rfl|split))
theorem AF6 {call:Al}{o:Opn}{σ:Slots}{H0:Heap}{id:Nat}(h:o.fg σ H0 = .m id):∃r:Option (AV×Ob),∀H:Heap,Ac call σ H o=if (H.get id).isSome then none else r.map λp=>(p.1,H.ins id p.2):=by
 replace h:=JA h (by simp);have nc:∀ {own:Bool} {k:Nat} {as:List AV},A9 H0 own k as≠.m id:=λ{own k as} e=>by rcases DG e with h|⟨_,_,S,h⟩|⟨_,_,h⟩|⟨_,_,_,_,h⟩<;>cases h
 have no:∀v,G5 v≠.m id:=λv=>by unfold G5;split<;>simp
 cases o
 case cut x lo hi mx sz=>rcases Hg (ev σ x) with g|⟨T,g⟩<;>(simp only[Opn.fg1,g]at h;cases h)
 case st x y n=>rcases FV (ev σ y) (ev σ x) with g|⟨T,g⟩<;>(simp only[Opn.fg1,g]at h;cases h)
 case app id e sz b x y=>rcases F4 id (ev σ y) (ev σ x) with g|⟨T,g⟩<;>(simp only[Opn.fg1,g]at h;cases h)
 case mk id' e z b n=>
  simp only[Opn.fg1,Fg.m.injEq]at h;subst h
  cases hn:ev σ n with
  | none=>exact⟨none,λH=>by simp only[Ac,hn];rfl⟩
  | some a=>
   cases a
   case n d=>
    cases d
    case int k i=>
     by_cases hc:0<=i/\i.toNat*b<=140737488355328
     ·exact⟨some (.row id' 0,.row false true 0 e z.cells.length (List.replicate i.toNat z)),λH=>by simp only[Ac,hn,if_pos hc];rfl⟩
     ·exact⟨none,λH=>by simp only[Ac,hn,if_neg hc];rfl⟩
    all_goals exact⟨none,λH=>by simp only[Ac,hn];rfl⟩
   all_goals exact⟨none,λH=>by simp only[Ac,hn];rfl⟩
 case alloc id' z=>
  simp only[Opn.fg1,Fg.m.injEq]at h;subst h
  exact⟨some (.ptr id' 0,.box z),λH=>by simp only[Ac];rfl⟩
 case box id' x=>
  simp only[Opn.fg1,Fg.m.injEq]at h;subst h
  cases hx:ev σ x with
  | none=>exact⟨none,λH=>by simp only[Ac,hx];rfl⟩
  | some v=>
   by_cases hc:(AB v).all AV.cellOK=true
   ·exact⟨some (.ptr id' 0,.box (AB v)),λH=>by simp only[Ac,hx,if_pos hc];rfl⟩
   ·exact⟨none,λH=>by simp only[Ac,hx,if_neg hc];rfl⟩
 case lit id' e sz ps=>
  simp only[Opn.fg1]at h
  split at h<;>simp only[Fg.m.injEq,reduceCtorEq]at h
  rename_i hq
  subst h
  cases he:Jj σ ps with
  | none=>rw[he]at hq;cases hq
  | some vs=>
   rw[he]at hq
   have hp:plainL vs=true:=hq
   have h2:rowsInL vs=[]:=(plainL_ok (H:=[]) hp).2.1
   have h3:∀H:Heap,snapL H vs=some vs:=λH=>(plainL_ok (H:=H) hp).2.2
   refine⟨match LC sz vs with|some (nw,els)=>some (.row id' 0,.row false nw 0 e sz els)|none=>none,λH=>?_⟩
   simp only[Ac,he,h3,h2,Heap.freeze]
   cases LC sz vs<;>rfl
 case call own f args=>
  simp only[Opn.fg1]at h
  split at h
  ·exact absurd h nc
  ·cases h
 case dyn own x args=>
  cases own with
  | true=>cases h
  | false=>
   simp only[Opn.fg1]at h
   split at h
   ·exact absurd h nc
   ·cases h
 all_goals first
   | (cases h;done)
   | exact absurd h (no _)
def pd (d:Option Nat)(σ:Slots)(v:AV):Slots:=match d with|some d=>σ.put d v|none=>σ
def RO.val (call:Al)(o:RO)(σ:Slots)(H:Heap):Option (AV×Heap):=
 match o.guard with
 | none=>Ac call σ H o.op
 | some (g,want)=>match σ.get g with
   | .n (.bool b)=>if b=want then Ac call σ H o.op else some (.undef,H)
   | .undef=>some (.undef,H)
   | _=>none
theorem RO.run_val (call:Al)(o:RO)(σ:Slots)(H:Heap):o.run call σ H=(o.val call σ H).map λp=>(pd o.dst σ p.1,p.2):=by
 unfold RO.run RO.val pd
 cases o.guard with
 | none=> dsimp only;cases Ac call σ H o.op<;>rfl
 | some p=>
  obtain⟨g,want⟩:=p;dsimp only;generalize σ.get g=x;generalize Ac call σ H o.op=E;cases x
  case n d=>
   cases d
   case bool b=>
    dsimp only
    by_cases hb:b=want
    ·simp only[hb,if_true];cases E<;>rfl
    ·simp only[hb,if_false];rfl
   all_goals rfl
  all_goals rfl
section
variable {σ σ':Slots} {call:Al}
theorem RO.reads_op {o:RO}{t:Nat}(h:t∈o.op.reads):t∈o.reads:=List.mem_append_left _ h
theorem RO.reads_guard {o:RO}{g:Nat}{b:Bool}(h:o.guard=some (g,b)):g∈o.reads:=by simp[RO.reads,h]
theorem RO.val_congr {o:RO}{H:Heap}(h:∀t∈o.reads,σ.get t=σ'.get t):o.val call σ H=o.val call σ' H:=by
 have h1:Ac call σ H o.op=Ac call σ' H o.op:=PH λt ht=>h t (RO.reads_op ht);unfold RO.val
 cases hg:o.guard with
 | none=>simp only[h1]
 | some p=> obtain⟨g,want⟩:=p;simp only[h1,h g (RO.reads_guard hg)]
theorem YI {o:Opn}{H:Heap}(h:∀t∈o.reads,σ.get t=σ'.get t):o.fg σ H=o.fg σ' H:=by
 unfold Opn.fg;rw[Rg h];have e:o.fg1 σ H=o.fg1 σ' H:=by
  cases o<;>try rfl
  case len x=>simp only[Opn.fg1,Ah (x:=x) h]
  case b2s x=>simp only[Opn.fg1,Ah (x:=x) h]
  case ld x n=>simp only[Opn.fg1,Ah (x:=x) h]
  case idxA x i sz=>
   simp only[Opn.reads,List.mem_append]at h
   simp only[Opn.fg1,Ah (x:=x) λt ht=>h t (.inl ht)]
  case cut x lo hi mx sz=>
   simp only[Opn.reads,List.mem_append]at h
   simp only[Opn.fg1,Ah (x:=x) λt ht=>h t (.inl (.inl (.inl ht)))]
  case st x y n=>
   simp only[Opn.reads,List.mem_append]at h
   simp only[Opn.fg1,Ah (x:=x) λt ht=>h t (.inl ht),Ah (x:=y) λt ht=>h t (.inr ht)]
  case app id e sz b x y=>
   simp only[Opn.reads,List.mem_append]at h
   simp only[Opn.fg1,Ah (x:=x) λt ht=>h t (.inl ht),Ah (x:=y) λt ht=>h t (.inr ht)]
  case lit id e sz ps=>simp only[Opn.fg1,B4 (l:=ps) h]
  case call own f args=>cases own<;>first|rfl|simp only[Opn.fg1,B4 (l:=args) h]
  case dyn own x args=>
   simp only[Opn.reads,List.mem_append]at h
   cases own<;>first|rfl|simp only[Opn.fg1,Ah (x:=x) λt ht=>h t (.inl ht),B4 (l:=args) λt ht=>h t (.inr ht)]
 rw[e]
theorem RO.flag_congr {o:RO}{H:Heap}(h:∀t∈o.reads,σ.get t=σ'.get t):o.flag σ H=o.flag σ' H:=by
 have h1:o.op.fg σ H=o.op.fg σ' H:=YI λt ht=>h t (RO.reads_op ht);unfold RO.flag
 cases hg:o.guard with
 | none=>simp only[h1]
 | some p=> obtain⟨g,want⟩:=p;simp only[h1,h g (RO.reads_guard hg)]
theorem RO.flag_any {o:RO}{H:Heap}{f:Fg}(h:o.flag σ H=f)(h1:∀S,f≠.c S)(h2:f≠.x)(K:Heap):o.flag σ K=f:=by
 unfold RO.flag at h |-;split at h;·exact ZI h h1 h2 K
 ·split at h
  ·split at h;·rename_i hb;rw[if_pos hb];exact ZI h h1 h2 K
   ·rename_i hb;rw[if_neg hb];exact h
  ·exact h
theorem RO.val_still {o:RO}{H0 H:Heap}{v:AV}{H':Heap}(hf:o.flag σ H0 = .q)(h:o.val call σ H=some (v,H')):H'=H/\∀K,o.val call σ K=some (v,K):=by
 unfold RO.flag at hf;unfold RO.val at h |-
 cases hg:o.guard with
 | none=> simp only[hg]at hf h |-;exact Kd (uP hf) H v H' h
 | some p=>
  obtain⟨g,want⟩:=p;simp only[hg]at hf h |-;split at h
  ·rename_i b hb;simp only[hb]at hf |-;split at h;·rename_i hw;simp only[hw,if_true]at hf |-;exact Kd (uP hf) H v H' h
   ·rename_i hw;simp only[oI,pI]at h;obtain⟨rfl,rfl⟩:=h;exact⟨rfl,λK=>by simp only[hw,if_false]⟩
  ·rename_i hb;simp only[hb]at hf |-;simp only[oI,pI]at h;obtain⟨rfl,rfl⟩:=h;exact⟨rfl,λK=>rfl⟩
  ·cases h
theorem RO.flag_not {o:RO}{H0:Heap}(hf:o.flag σ H0≠.q):o.op.fg σ H0=o.flag σ H0/\∀H,o.val call σ H=Ac call σ H o.op:=by
 unfold RO.flag at hf |-;unfold RO.val
 cases hg:o.guard with
 | none=>exact⟨rfl,λH=>rfl⟩
 | some p=>
  obtain⟨g,want⟩:=p;simp only[hg]at hf |-;split at hf
  ·rename_i b hb;split at hf;·rename_i hw;simp only[hb,hw,if_true];exact⟨trivial,λH=>trivial⟩
   ·exact absurd rfl hf
  ·exact absurd rfl hf
theorem RO.flag_fg {o:RO}{H0:Heap}(hf:o.flag σ H0≠.q):∀H,o.flag σ H=o.op.fg σ H:=by
 intro H;unfold RO.flag at hf |-;split;·rfl
 ·rename_i g want hg;rw[hg]at hf;dsimp only at hf;split
  ·rename_i b hb;rw[hb]at hf;dsimp only at hf;split;·rfl
   ·rename_i hn;rw[if_neg hn]at hf;exact absurd rfl hf
  ·rename_i hb;split at hf;·rename_i b hb2;exact absurd hb2 (hb b)
   ·exact absurd rfl hf
theorem RO.val_reader {o:RO}{H:Heap}{v:AV}{H':Heap}(hf:o.op.reader=true)(h:o.val call σ H=some (v,H')):H'=H:=by
 unfold RO.val at h;split at h;·exact E0 hf h
 ·split at h
  ·split at h;·exact E0 hf h
   ·simp only[oI,pI]at h;exact h.2.symm
  ·simp only[oI,pI]at h;exact h.2.symm
  ·cases h
theorem A8 (j:Nat)(x:Ob):∀(H:Heap) (i:Nat),i≠j->(H.ins j x).get i=H.get i
 | [],i,h=>by simp only[Heap.ins,Heap.get];rw[if_neg (λe=>h e.symm)]
 | (k,o)::r,i,h=>by
  simp only[Heap.ins];split;·simp only[Heap.get];rw[if_neg (λe=>h e.symm)]
  ·split;·rename_i h2;subst h2;simp only[Heap.get];rw[if_neg (λe=>h e.symm),if_neg (λe=>h e.symm)]
   ·simp only[Heap.get,A8 j x r i h]
theorem NG:∀(H1 H:Heap) (j:Nat),Heap.get H1 j=none->(Heap.merge H H1).get j=H.get j
 | [],H,j,_=>rfl
 | (i,o)::r,H,j,h=>by
  simp only[Heap.get]at h;split at h;·cases h
  ·rename_i hne;show(Heap.ins i o (Heap.merge H r)).get j=_;rw[A8 i o _ j (λe=>hne e.symm),NG r H j h]
theorem Ls:∀(H:Heap) (ids:List Nat) (j:Nat),ids.contains j=false->(H.keep ids).get j=none
 | [],_,_,_=>rfl
 | (i,o)::r,ids,j,h=>by
  simp only[Heap.keep];split;·rename_i hi;simp only[Heap.get];rw[if_neg (λe=>by subst e;rw[hi]at h;cases h),Ls r ids j h]
  ·exact Ls r ids j h
theorem GF:∀(L:List Nat) (H:Heap) (j:Nat),L.contains j=false->(H.freeze L).get j=H.get j
 | [],_,_,_=>rfl
 | i::r,H,j,h=>by
  simp only[List.contains_cons,Bool.or_eq_false_iff,beq_eq_false_iff_ne]at h;simp only[Heap.freeze];split;·rw[GF r _ j h.2,A8 _ _ _ _ h.1]
  ·exact GF r _ j h.2
theorem IF {call:Al}{H:Heap}{f:Nat}{as:List AV}{v:AV}{H':Heap}{S:List Nat}(hc:CF H as = .c S)(h:AF call false H f as=some (v,H'))(j:Nat)(hj:S.contains j=false):H'.get j=H.get j:=by
 unfold CF at hc;unfold AF at h;split at hc<;>simp only[Fg.c.injEq,reduceCtorEq]at hc;rename_i as' hs;subst hc;rw[show Be false H f as=some as' from hs]at h;simp only at h;split at h<;>try (cases h;done)
 split at h<;>try (cases h;done)
 split at h<;>try (cases h;done)
 split at h<;>simp only[oI,pI,reduceCtorEq]at h;obtain⟨rfl,rfl⟩:=h;have h1:(H.reach 1000 (refsL as') []).contains j=false:=by rw[List.contains_eq_mem,decide_eq_false_iff_not]at hj |-;exact λh=>hj (List.mem_append_left _ h)
 have h2:(rowsInL as).contains j=false:=by rw[List.contains_eq_mem,decide_eq_false_iff_not]at hj |-;exact λh=>hj (List.mem_append_right _ h)
 have key:∀L:List Nat,L=[]\/L=rowsInL as->(H.freeze L).get j=H.get j:=λL hL=>by
  rcases hL with rfl|rfl;·rfl
  ·exact GF _ _ _ h2
 refine(NG _ _ _ (Ls _ _ _ h1)).trans ?_;refine key _ ?_;split;·exact .inl rfl
 ·exact .inr rfl
theorem dQ {call:Al}{o:Opn}{σ:Slots}{H:Heap}{S:List Nat}{v:AV}{H':Heap}(h:o.fg σ H = .c S)(he:Ac call σ H o=some (v,H'))(j:Nat)(hj:S.contains j=false):H'.get j=H.get j:=by
 replace h:=JA h (by simp);cases o
 case cut x lo hi mx sz=>rcases Hg (ev σ x) with g|⟨T,g⟩<;>(simp only[Opn.fg1,g]at h;cases h)
 case st x y n=>rcases FV (ev σ y) (ev σ x) with g|⟨T,g⟩<;>(simp only[Opn.fg1,g]at h;cases h)
 case app id e sz b x y=>rcases F4 id (ev σ y) (ev σ x) with g|⟨T,g⟩<;>(simp only[Opn.fg1,g]at h;cases h)
 case lit id e sz ps=>simp only[Opn.fg1]at h;split at h<;>cases h
 case call own f args=>
  simp only[Opn.fg1]at h
  split at h<;>try (cases h;done)
  rename_i as ha
  rcases DG h with e|⟨rfl,h,S,e⟩|⟨_,_,e⟩|⟨_,_,_,_,e⟩<;>try (cases e;done)
  simp only[Ac,ha]at he
  exact IF h he j hj
 case dyn own x args=>
  cases own with
  | true=>cases h
  | false=>
   simp only[Opn.fg1]at h
   split at h<;>try (cases h;done)
   rename_i f cap as hx ha
   rcases DG h with e|⟨_,h,S,e⟩|⟨_,_,e⟩|⟨h',_,_,_,e⟩<;>try (cases e;done)
   simp only[Ac,hx,ha]at he
   exact IF h he j hj
 all_goals first
  | (cases h;done)
  | exact absurd h ((Hk _).2 S)
def Bu (u:List (Nat×Ob))(H:Heap):Heap:=u.foldl (λH p=>H.ins p.1 p.2) H
theorem LU:∀ {u:List (Nat×Ob)} {H:Heap} {j:Nat},(∀p∈u,p.1≠j)->(Bu u H).get j=H.get j
 | [],_,_,_=>rfl
 | p::r,H,j,h=>by show(Bu r (H.ins p.1 p.2)).get j=_;rw[LU λq hq=>h q (List.mem_cons_of_mem _ hq),A8 _ _ _ _ λe=>h p (List.mem_cons_self ..) e.symm]
theorem Ji (i j:Nat)(a b:Ob)(hij:i≠j):∀H:Heap,(H.ins i a).ins j b=(H.ins j b).ins i a
 | []=>by
  simp only[Heap.ins];by_cases h1:j<i;·rw[if_pos h1,if_neg (by omega),if_neg (by omega)]
  ·rw[if_neg h1,if_neg (by omega),if_pos (by omega)]
 | (k,o)::r=>by
  have ih:=Ji i j a b hij r;simp only[Heap.ins];by_cases hi:i<k
  ·rw[if_pos hi];by_cases hj:j<k
   ·rw[if_pos hj];simp only[Heap.ins];by_cases h:j<i;·rw[if_pos h,if_neg (by omega),if_neg (by omega),if_pos hi]
    ·rw[if_neg h,if_neg (by omega),if_pos hj,if_pos (by omega)]
   ·by_cases hk:j=k;·rw[if_neg hj,if_pos hk];simp only[Heap.ins];rw[if_neg (by omega),if_neg (by omega),if_neg hj,if_pos hk,if_pos (by omega)]
    ·rw[if_neg hj,if_neg hk];simp only[Heap.ins];rw[if_neg (by omega),if_neg (by omega),if_neg hj,if_neg hk,if_pos hi]
  ·by_cases hik:i=k
   ·rw[if_neg hi,if_pos hik];simp only[Heap.ins];by_cases hj:j<k;·rw[if_pos (by omega),if_pos hj];simp only[Heap.ins];rw[if_neg (by omega),if_neg (by omega),if_neg hi,if_pos hik]
    ·rw[if_neg (by omega),if_neg (by omega),if_neg hj,if_neg (by omega)];simp only[Heap.ins];rw[if_neg hi,if_pos hik]
   ·rw[if_neg hi,if_neg hik];simp only[Heap.ins];by_cases hj:j<k;·rw[if_pos hj,if_pos hj];simp only[Heap.ins];rw[if_neg (by omega),if_neg (by omega),if_neg hi,if_neg hik]
    ·by_cases hjk:j=k;·rw[if_neg hj,if_pos hjk,if_neg hj,if_pos hjk];simp only[Heap.ins];rw[if_neg (by omega),if_neg (by omega)]
     ·rw[if_neg hj,if_neg hjk,if_neg hj,if_neg hjk];simp only[Heap.ins];rw[if_neg hi,if_neg hik,ih]
theorem QJ:∀(u:List (Nat×Ob)) (H:Heap) (j:Nat) (b:Ob),(∀p∈u,p.1≠j)->Bu u (H.ins j b)=(Bu u H).ins j b
 | [],_,_,_,_=>rfl
 | p::r,H,j,b,h=>by show Bu r ((H.ins j b).ins p.1 p.2)=(Bu r (H.ins p.1 p.2)).ins j b;rw[Ji j p.1 b p.2 (λe=>h p (List.mem_cons_self ..) e.symm),QJ r _ j b λq hq=>h q (List.mem_cons_of_mem _ hq)]
theorem Nz:∀(t u:List (Nat×Ob)) (H:Heap),(∀p∈u,∀q∈t,p.1≠q.1)->Bu u (Bu t H)=Bu t (Bu u H)
 | [],_,_,_=>rfl
 | q::r,u,H,h=>by show Bu u (Bu r (H.ins q.1 q.2))=Bu r ((Bu u H).ins q.1 q.2);rw[Nz r u _ λp hp s hs=>h p hp s (List.mem_cons_of_mem _ hs),QJ u H q.1 q.2 λp hp=>h p hp q (List.mem_cons_self ..)]
def Locl (call:Al)(σ:Slots)(o:Opn)(S:List Nat):Prop:=∀H v H',Ac call σ H o=some (v,H')->∃u:List (Nat×Ob),(∀p∈u,p.1∈S)/\H'=Bu u H/\∀K,(∀j∈S,Heap.get K j=Heap.get H j)->Ac call σ K o=some (v,Bu u K)
theorem AAa {o:Opn}{H0:Heap}{j:Nat}(h:o.fg σ H0 = .r j):Locl call σ o [j]:=λH v H' he=>by
 obtain⟨h1,h2⟩:=iP (call:=call) h;obtain rfl:=E0 h1 he;refine⟨[],by simp,rfl,λK hK=>?_⟩;have e:=h2 K H' (hK j (by simp));rw[he]at e
 cases hk:Ac call σ K o with
 | none=>rw[hk]at e;cases e
 | some q=> obtain⟨v2,K2⟩:=q;obtain rfl:=E0 h1 hk;rw[hk]at e;simp only[Option.map_some,oI]at e;subst e;rfl
theorem ABN {o:Opn}{H0:Heap}{id:Nat}(h:o.fg σ H0 = .m id):Locl call σ o [id]:=λH v H' he=>by
 obtain⟨r,hr⟩:=AF6 (call:=call) h;rw[hr]at he;split at he<;>try (cases he;done)
 rename_i hn;obtain⟨⟨p1,p2⟩,hp,e1⟩:=Option.map_eq_some_iff.1 he;simp only[pI]at e1;obtain⟨rfl,rfl⟩:=e1;refine⟨[(id,p2)],by simp,rfl,λK hK=>?_⟩;rw[hr,hK id (by simp),if_neg hn,hp];rfl
theorem Ih (k:Nat)(H:Heap):∃u:List (Nat×Ob),(∀p∈u,p.1=k)/\∀K:Heap,K.get k=H.get k->K.freeze [k]=Bu u K:=by
 cases hg:H.get k with
 | none=>exact⟨[],by simp,λK hK=>by simp only[Heap.freeze,hK];rfl⟩
 | some o=>
  cases o with
  | row fz nw v e sz els=>exact⟨[(k,.row true nw v e sz els)],by simp,λK hK=>by simp only[Heap.freeze,hK];rfl⟩
  | box cs=>exact⟨[],by simp,λK hK=>by simp only[Heap.freeze,hK];rfl⟩
theorem Tk (j:Nat)(x:Ob):∀H:Heap,(H.ins j x).get j=some x
 | []=>by simp only[Heap.ins,Heap.get,if_true]
 | (k,o)::r=>by
  simp only[Heap.ins];split;·simp only[Heap.get,if_true]
  ·split;·simp only[Heap.get,if_true]
   ·rename_i h;simp only[Heap.get];rw[if_neg λe=>h e.symm,Tk j x r]
theorem Iv (j:Nat)(H:Heap):(H.freeze [j]).freeze [j]=H.freeze [j]/\∀o,(H.freeze [j]).get j=some o->∃o',H.get j=some o'/\∀v,BC (H.freeze [j]) (.row j v)=BC H (.row j v):=by
 have ins2:∀(H:Heap) (o p:Ob),(H.ins j o).ins j p=H.ins j p:=λH o p=>by
  induction H with
  | nil=>simp[Heap.ins]
  | cons q r ih=>
   obtain⟨k,b⟩:=q;simp only[Heap.ins];by_cases h1:j<k;·rw[if_pos h1,if_pos h1];simp[Heap.ins]
   ·by_cases h2:j=k;·rw[if_neg h1,if_pos h2,if_neg h1,if_pos h2];simp[Heap.ins]
    ·rw[if_neg h1,if_neg h2,if_neg h1,if_neg h2];simp only[Heap.ins];rw[if_neg h1,if_neg h2,ih]
 have gi:∀(H:Heap) (o:Ob),(H.ins j o).get j=some o:=λH o=>by
  induction H with
  | nil=>simp[Heap.ins,Heap.get]
  | cons q r ih=>
   obtain⟨k,b⟩:=q;simp only[Heap.ins];by_cases h1:j<k;·rw[if_pos h1];simp[Heap.get]
   ·by_cases h2:j=k;·rw[if_neg h1,if_pos h2];simp[Heap.get]
    ·rw[if_neg h1,if_neg h2];simp only[Heap.get];rw[if_neg λe=>h2 e.symm,ih]
 cases hg:H.get j with
 | none=>
  have e:H.freeze [j]=H:=by simp only[Heap.freeze,hg]
  rw[e];exact⟨e,λo ho=>by rw[hg]at ho;cases ho⟩
 | some o=>
  cases o with
  | box cs=>
   have e:H.freeze [j]=H:=by simp only[Heap.freeze,hg]
   rw[e];exact⟨e,λo ho=>⟨_,rfl,λv=>rfl⟩⟩
  | row fz nw v e sz els=>
   have e1:H.freeze [j]=H.ins j (.row true nw v e sz els):=by simp only[Heap.freeze,hg]
   rw[e1];have e2:(H.ins j (.row true nw v e sz els)).freeze [j]=(H.ins j (.row true nw v e sz els)).ins j (.row true nw v e sz els):=by simp only[Heap.freeze,gi]
   refine⟨by rw[e2,ins2],λo ho=>⟨_,rfl,λv=>?_⟩⟩;simp only[BC,gi,hg]
theorem cH {x:Operand}{lo hi mx:Option Operand}{sz j ver:Nat}(hx:ev σ x=some (.row j ver)):Locl call σ (.cut x lo hi mx sz) [j]:=λH v H' he=>by
 obtain⟨u,hu,hf⟩:=Ih j H;refine⟨u,λp hp=>by simp[hu p hp],?_⟩;have key:∀K:Heap,K.get j=H.get j->Ac call σ K (.cut x lo hi mx sz)=(Ac call σ H (.cut x lo hi mx sz)).map λp=>(p.1,Bu u K):=λK hK=>by simp only[Ac,hx,BC,Ak,hK,hf K hK];repeat' (first | rfl|split)
 refine⟨?_,λK hK=>by rw[key K (hK j (by simp)),he];rfl⟩;have:=key H rfl;rw[he]at this;simp only[Option.map_some,oI,pI,true_and]at this;exact this
theorem TV {x:Operand}{lo hi mx:Option Operand}{sz j ver:Nat}{H:Heap}(hx:ev σ x=some (.row j ver)):Ac call σ (H.freeze [j]) (.cut x lo hi mx sz)=(Ac call σ H (.cut x lo hi mx sz)).map λp=>(p.1,H.freeze [j]):=by
 obtain⟨h1,h2⟩:=Iv j H;have hE:BC (H.freeze [j]) (.row j ver)=BC H (.row j ver):=by
  cases hg:(H.freeze [j]).get j with
  | some o=>exact(h2 o hg).choose_spec.2 ver
  | none=>
   have:H.get j=none:=by
    cases hg2:H.get j with
    | none=>rfl
    | some o=>
     exfalso
     cases o with
     | box cs=>rw[show H.freeze [j]=H by simp only[Heap.freeze,hg2],hg2]at hg;cases hg
     | row fz nw v e sz els=>
      rw[show H.freeze [j]=H.ins j (.row true nw v e sz els) by simp only[Heap.freeze,hg2]]at hg;have:=(Ih j H)
      obtain⟨u,hu,hf⟩:=this;have e3:(H.ins j (.row true nw v e sz els)).freeze [j]=H.ins j (.row true nw v e sz els):=by simp only[Heap.freeze,hg]
      have e4:=Tk j (.row true nw v e sz els) H;rw[hg]at e4;cases e4
   simp only[BC,hg,this]
 simp only[Ac,hx,hE,Ak,h1];repeat' (first | rfl|split)
theorem V4 {x:Operand}{lo hi mx:Option Operand}{sz j ver:Nat}{H:Heap}(hx:ev σ x=some (.row j ver))(he:Ac call σ H (.cut x lo hi mx sz)=none):Ac call σ (H.freeze [j]) (.cut x lo hi mx sz)=none:=by rw[TV hx,he];rfl
theorem JG {x:Operand}{lo hi mx:Option Operand}{sz j ver:Nat}{H:Heap}{v:AV}{H':Heap}(hx:ev σ x=some (.row j ver))(he:Ac call σ H (.cut x lo hi mx sz)=some (v,H')):
  H'=H.freeze [j]/\Ac call σ (H.freeze [j]) (.cut x lo hi mx sz)=some (v,H.freeze [j]):=by
 have key:=TV (call:=call) (lo:=lo) (hi:=hi) (mx:=mx) (sz:=sz) (H:=H) hx
 have key2:Ac call σ H (.cut x lo hi mx sz)=(Ac call σ H (.cut x lo hi mx sz)).map λp=>(p.1,H.freeze [j]):=by simp only[Ac,hx,Ak];repeat' (first | rfl|split)
 rw[he]at key key2
 simp only[Option.map_some,oI,pI,true_and]at key2
 exact⟨key2,key⟩
theorem Dq (j:Nat)(x:Ob):∀H:Heap,(H.ins j x).get j=some x
 | []=>by simp only[Heap.ins,Heap.get,if_true]
 | (k,o)::r=>by
  simp only[Heap.ins];split;·simp only[Heap.get,if_true]
  ·split;·simp only[Heap.get,if_true]
   ·rename_i h;simp only[Heap.get];rw[if_neg λe=>h e.symm,Dq j x r]
theorem Mh:∀(u:List (Nat×Ob)) {H K:Heap} {j:Nat},K.get j=H.get j->(Bu u K).get j=(Bu u H).get j
 | [],_,_,_,h=>h
 | p::r,H,K,j,h=>by
  refine Mh r (H:=H.ins p.1 p.2) (K:=K.ins p.1 p.2) ?_;by_cases hp:j=p.1;·subst hp;rw[Dq,Dq]
  ·rw[A8 _ _ _ _ hp,A8 _ _ _ _ hp,h]
theorem FN (u:List (Nat×Ob))(p:Nat×Ob)(H:Heap):Bu (u++[p]) H=(Bu u H).ins p.1 p.2:=by simp[Bu]
theorem hJ {S T:List Nat}{y:Option AV}(h:Qn S y = .w T):(∃k v,y=some (.row k v)/\T=k::S)\/(∃a,y=some a/\((∃d,a = .n d)\/(∃d,a = .o d)\/∃nw cs,a = .dat nw cs)/\T=S):=by
 unfold Qn at h;split at h<;>cases h;·exact .inl ⟨_,_,rfl,rfl⟩
 ·exact .inr ⟨_,rfl,.inl ⟨_,rfl⟩,rfl⟩
 ·exact .inr ⟨_,rfl,.inr (.inl ⟨_,rfl⟩),rfl⟩
 ·exact .inr ⟨_,rfl,.inr (.inr ⟨_,_,rfl⟩),rfl⟩
theorem bQ {id e sz bytes:Nat}{x y:Operand}{T:List Nat}(h:UA id (ev σ y) (ev σ x) = .w T):Locl call σ (.app id e sz bytes x y) T:=λH v H' he=>by
 have hS:∃i,Qn [i] (ev σ y) = .w T/\((ev σ x=some (.n .nil)/\i=id)\/∃ver,ev σ x=some (.row i ver)):=by
  unfold UA at h;split at h;·rename_i hx;exact⟨id,h,.inl ⟨hx,rfl⟩⟩
  ·rename_i i ver hx;exact⟨i,h,.inr ⟨ver,hx⟩⟩
  ·cases h
 obtain⟨i,hw,hx⟩:=hS;obtain⟨a,hy,hiT,hA,u,huT,hB⟩:∃a,ev σ y=some a/\i∈T/\(∀K:Heap,(∀j∈T,K.get j=H.get j)->BC K a=BC H a)/\∃u:List (Nat×Ob),(∀p∈u,p.1∈T)/\∀K:Heap,(∀j∈T,K.get j=H.get j)->K.freeze (Ak a)=Bu u K:=by
  rcases hJ hw with⟨k,kv,hy,rfl⟩|⟨a,hy,ha,rfl⟩
  ·obtain⟨u,hu,hf⟩:=Ih k H;exact⟨_,hy,by simp,λK hK=>by simp only[BC,hK k (by simp)],u,λp hp=>by simp[hu p hp],λK hK=>hf K (hK k (by simp))⟩
  ·refine⟨a,hy,by simp,λK _=>GG ha K H,[],by simp,λK _=>by rw[J7 ha];rfl⟩
 have hBH:=hB H λ_ _=>rfl;rcases hx with⟨hx,rfl⟩|⟨ver,hx⟩
 ·simp only[Ac,hx,hy]at he |-;split at he<;>try (cases he;done)
  rename_i b ys hE;split at he<;>try (cases he;done)
  rename_i hn;split at he<;>simp only[oI,pI,reduceCtorEq]at he;rename_i hl;obtain⟨rfl,rfl⟩:=he;refine⟨u++[(i,.row false b 0 e sz ys)],λp hp=>?_,?_,λK hK=>?_⟩
  ·rcases List.mem_append.1 hp with h|h;·exact huT p h
   ·rw[List.mem_singleton.1 h];exact hiT
  ·rw[FN,hBH]
  ·rw[hA K hK,hE];simp only[hK i hiT,hn,hl,if_true,FN,hB K hK];simp
 ·simp only[Ac,hx,hy]at he |-;split at he<;>try (cases he;done)
  rename_i b ys hE;split at he<;>try (cases he;done)
  rename_i nw v' e' s els hg;split at he<;>simp only[oI,pI,reduceCtorEq]at he;rename_i hl;obtain⟨rfl,rfl⟩:=he;refine⟨u++[(i,.row false (nw&&b) (ver+1) e sz (els++ys))],λp hp=>?_,?_,λK hK=>?_⟩
  ·rcases List.mem_append.1 hp with h|h;·exact huT p h
   ·rw[List.mem_singleton.1 h];exact hiT
  ·rw[FN,hBH]
  ·have hg2:(K.freeze (Ak a)).get i=some (.row false nw v' e' s els):=by rw[hB K hK,Mh u (hK i hiT),<-hBH,hg]
   rw[hA K hK,hE];simp only[hg2];rw[if_pos hl,FN,hB K hK]
theorem iQ {x y:Operand}{n j off:Nat}(hx:ev σ x=some (.ptr j off)):Locl call σ (.st x y n) [j]:=λH v H' he=>by
 cases hy:ev σ y with
 | none=>simp only[Ac,hx,hy]at he;cases he
 | some a=>
  simp only[Ac,hx,hy]at he |-;split at he<;>try (cases he;done)
  rename_i cs hg;split at he<;>simp only[oI,pI,reduceCtorEq]at he;rename_i hc;obtain⟨rfl,rfl⟩:=he;refine⟨[(j,.box (setCells cs off (AB a)))],by simp,rfl,λK hK=>?_⟩;rw[hK j (by simp),hg];simp only;rw[if_pos hc];rfl
theorem bP {x y:Operand}{n j ver s i off:Nat}{d:D}(hx:ev σ x=some (.elt j ver s i off))(hy:ev σ y=some (.n d)):Locl call σ (.st x y n) [j]:=λH v H' he=>by
 simp only[Ac,hx,hy,Ak,Heap.freeze,AN]at he |-;split at he<;>try (cases he;done)
 rename_i nw vr e sz els hg;split at he<;>try (cases he;done)
 rename_i hc;split at he<;>try (cases he;done)
 rename_i el hel;split at he<;>simp only[oI,pI,reduceCtorEq]at he;rename_i b dd hm;obtain⟨rfl,rfl⟩:=he;refine⟨[(j,.row false (nw&&b) vr e sz (els.set i (Ka sz off n el dd)))],by simp,rfl,λK hK=>?_⟩;rw[hK j (by simp),hg];simp only;rw[if_pos hc,hel];simp only;rfl
theorem rD {o:Opn}{H0:Heap}{j:Nat}(h:o.fg σ H0 = .f j):∃x lo hi mx sz ver,o = .cut x lo hi mx sz/\ev σ x=some (.row j ver):=by
 replace h:=JA h (by simp);have nc:∀ {own:Bool} {k:Nat} {as:List AV},A9 H0 own k as≠.f j:=λ{own k as} e=>by rcases DG e with h|⟨_,_,S,h⟩|⟨_,_,h⟩|⟨_,_,_,_,h⟩<;>cases h
 have no:∀v,G5 v≠.f j:=λv=>by unfold G5;split<;>simp
 cases o
 case cut x lo hi mx sz=>
  simp only[Opn.fg1]at h
  unfold Uu at h
  split at h<;>cases h
  rename_i hx
  exact⟨x,lo,hi,mx,sz,_,rfl,hx⟩
 case st x y n=>rcases FV (ev σ y) (ev σ x) with g|⟨T,g⟩<;>(simp only[Opn.fg1,g]at h;cases h)
 case app id e sz b x y=>rcases F4 id (ev σ y) (ev σ x) with g|⟨T,g⟩<;>(simp only[Opn.fg1,g]at h;cases h)
 case lit id e sz ps=>simp only[Opn.fg1]at h;split at h<;>cases h
 case call own f args=>
  simp only[Opn.fg1]at h
  split at h
  ·exact absurd h nc
  ·cases h
 case dyn own x args=>
  cases own with
  | true=>cases h
  | false=>
   simp only[Opn.fg1]at h
   split at h
   ·exact absurd h nc
   ·cases h
 all_goals first
  | (cases h;done)
  | exact absurd h (no _)
mutual
/-- What is handed on of a value hangs on its rows alone. -/
theorem SL {H K:Heap}:∀ {x:AV},(∀j∈Ak x,K.get j=H.get j)->AN K x=AN H x
 | .n x,_=>by simp[AN]
 | .o x,_=>by simp[AN]
 | .row id ver,h=>by simp only[AN,h id (by simp[Ak])]
 | .agg cs,h=>by simp only[AN,snapL_congr (x:=cs) h]
 | .tup cs,h=>by simp only[AN,snapL_congr (x:=cs) h]
 | .fn f cs,h=>by simp only[AN,snapL_congr (x:=cs) h]
 | .ptr id off,_=>by simp[AN]
 | .nilp,_=>by simp[AN]
 | .elt ..,_=>by simp[AN]
 | .dat ..,_=>by simp[AN]
 | .undef,_=>by simp[AN]
theorem snapL_congr {H K:Heap}:∀ {x:List AV},(∀j∈rowsInL x,K.get j=H.get j)->snapL K x=snapL H x
 | [],_=>by simp[snapL]
 | x::r,h=>by simp only[snapL,SL (x:=x) λj hj=>h j (List.mem_append_left _ hj),snapL_congr (x:=r) λj hj=>h j (List.mem_append_right _ hj)]
end
mutual
theorem Vk {H:Heap}:∀ {x y:AV},AN H x=some y->Ek y=Ek x/\Ak y=[]
 | .n x,y,h=>by simp only[AN,oI]at h;subst h;exact⟨rfl,rfl⟩
 | .o x,y,h=>by simp only[AN,oI]at h;subst h;exact⟨rfl,rfl⟩
 | .row id ver,y,h=>by
  simp only[AN]at h;split at h<;>try (cases h;done)
  split at h<;>simp only[oI,reduceCtorEq]at h;subst h;unfold sub;split<;>exact⟨rfl,rfl⟩
 | .agg cs,y,h=>by simp only[AN]at h;obtain⟨l,h1,rfl⟩:=Option.map_eq_some_iff.1 h;exact snapL_refs (x:=cs) h1
 | .tup cs,y,h=>by simp only[AN]at h;obtain⟨l,h1,rfl⟩:=Option.map_eq_some_iff.1 h;exact snapL_refs (x:=cs) h1
 | .fn f cs,y,h=>by simp only[AN]at h;obtain⟨l,h1,rfl⟩:=Option.map_eq_some_iff.1 h;exact snapL_refs (x:=cs) h1
 | .ptr id off,y,h=>by simp only[AN,oI]at h;subst h;exact⟨rfl,rfl⟩
 | .nilp,y,h=>by simp only[AN,oI]at h;subst h;exact⟨rfl,rfl⟩
 | .elt ..,_,h=>by simp[AN]at h
 | .dat ..,_,h=>by simp[AN]at h
 | .undef,_,h=>by simp[AN]at h
theorem snapL_refs {H:Heap}:∀ {x y:List AV},snapL H x=some y->refsL y=refsL x/\rowsInL y=[]
 | [],y,h=>by simp only[snapL,oI]at h;subst h;exact⟨rfl,rfl⟩
 | x::r,y,h=>by simp only[snapL]at h;split at h<;>simp only[oI,reduceCtorEq]at h;rename_i a b h1 h2;subst h;obtain⟨a1,a2⟩:=Vk (x:=x) h1;obtain⟨b1,b2⟩:=snapL_refs (x:=r) h2;exact⟨by simp only[refsL,a1,b1],by simp only[rowsInL,a2,b2,List.append_nil]⟩
end
theorem F2:∀(L:List Nat) (H:Heap),∃u:List (Nat×Ob),(∀p∈u,p.1∈L)/\∀K:Heap,(∀j∈L,K.get j=H.get j)->K.freeze L=Bu u K
 | [],H=>⟨[],by simp,λK _=>rfl⟩
 | i::r,H=>by
  cases hg:H.get i with
  | none=> obtain⟨u,h1,h2⟩:=F2 r H;refine⟨u,λp hp=>List.mem_cons_of_mem _ (h1 p hp),λK hK=>?_⟩;rw[Heap.freeze,(hK i (by simp)).trans hg];exact h2 K λj hj=>hK j (List.mem_cons_of_mem _ hj)
  | some o=>
   cases o with
   | box cs=> obtain⟨u,h1,h2⟩:=F2 r H;refine⟨u,λp hp=>List.mem_cons_of_mem _ (h1 p hp),λK hK=>?_⟩;rw[Heap.freeze,(hK i (by simp)).trans hg];exact h2 K λj hj=>hK j (List.mem_cons_of_mem _ hj)
   | row fz nw v e sz els=>
    obtain⟨u,h1,h2⟩:=F2 r (H.ins i (.row true nw v e sz els));refine⟨(i,.row true nw v e sz els)::u,λp hp=>?_,λK hK=>?_⟩
    ·rcases List.mem_cons.1 hp with rfl|hp;·simp
     ·exact List.mem_cons_of_mem _ (h1 p hp)
    ·rw[Heap.freeze,(hK i (by simp)).trans hg];refine h2 _ λj hj=>?_;by_cases e:j=i;·subst e;rw[Dq,Dq]
     ·rw[A8 _ _ _ _ e,A8 _ _ _ _ e];exact hK j (List.mem_cons_of_mem _ hj)
theorem N3 (H:Heap):Heap.merge H []=H:=rfl
theorem HQ (H:Heap)(n:Nat):H.reach n [] []=[]:=by cases n<;>rfl
theorem XR {call:Al}{f:Nat}{as:List AV}(hr:refsL as=[]){H:Heap}{v:AV}{H':Heap}(he:AF call false H f as=some (v,H')):
   ∃u:List (Nat×Ob),(∀p∈u,p.1∈rowsInL as)/\H'=Bu u H/\∀K:Heap,(∀j∈rowsInL as,K.get j=H.get j)->AF call false K f as=some (v,Bu u K):=by
 unfold AF at he
 cases hs:snapL H as with
 | none=>rw[show Be false H f as=none from hs]at he;cases he
 | some as'=>
  rw[show Be false H f as=some as' from hs]at he
  obtain⟨r1,r2⟩:=snapL_refs hs
  rw[hr]at r1
  simp only[BJ,BY,Cd,r1,HQ,EI,Heap.age]at he
  split at he<;>try (cases he;done)
  rename_i hcl
  split at he<;>try (cases he;done)
  rename_i r H1 hc
  split at he<;>try (cases he;done)
  rename_i r' hr'
  split at he<;>simp only[oI,pI,reduceCtorEq]at he
  rename_i hcl2
  obtain⟨rfl,rfl⟩:=he
  have sub0:∀ {L:List Nat} {b:Bool},(if b=true then [] else rowsInL as)=L->∀j∈L,j∈rowsInL as:=λ{L b} e j hj=>by
   subst e;split at hj;·cases hj
   ·exact hj
  obtain⟨u,h1,h2⟩:=F2 (if ([]:List Nat).isEmpty && !Gc r' then [] else rowsInL as) H
  refine⟨u,λp hp=>sub0 rfl _ (h1 p hp),?_,λK hK=>?_⟩
  ·rw[N3]
   exact h2 H λ_ _=>rfl
  ·have hs2:snapL K as=some as':=by rw[snapL_congr hK,hs]
   have hcl':∀A:Heap,A.closed [] as'=true:=λA=>by simp[Heap.closed,r1,r2]
   unfold AF
   rw[show Be false K f as=some as' from hs2]
   simp only[BJ,BY,Cd,r1,HQ,EI,Heap.age,hcl',hc,hr',hcl2]
   rw[if_neg (by simp),if_neg (by simp),N3,h2 K λj hj=>hK j (sub0 rfl j hj)]
theorem Ig:∀(M H:Heap),Heap.merge H M=Bu M.reverse H
 | [],H=>rfl
 | (i,o)::r,H=>by rw[Heap.merge,List.reverse_cons,FN,Ig r H]
theorem Rq (j:Nat)(x:Ob):∀(H:Heap) (p:Nat×Ob),p∈H.ins j x->p.1=j\/∃q∈H,q.1=p.1
 | [],p,h=>by simp only[Heap.ins,List.mem_singleton]at h;exact .inl (by rw[h])
 | (i,o)::r,p,h=>by
  simp only[Heap.ins]at h;split at h
  ·rcases List.mem_cons.1 h with rfl|h;·exact .inl rfl
   ·exact .inr ⟨p,h,rfl⟩
  ·split at h
   ·rename_i h1 h2;rcases List.mem_cons.1 h with rfl|h;·exact .inl rfl
    ·exact .inr ⟨p,List.mem_cons_of_mem _ h,rfl⟩
   ·rcases List.mem_cons.1 h with rfl|h;·exact .inr ⟨_,List.mem_cons_self ..,rfl⟩
    ·rcases Rq j x r p h with h|⟨q,hq,e⟩
     ·exact .inl h
     ·exact .inr ⟨q,List.mem_cons_of_mem _ hq,e⟩
theorem QQ {P:Nat->Prop}{a b:Nat}(ha:P a)(hb:P b):∀ {H:Heap},(∀p∈H,P p.1)->∀p∈H.swp a b,P p.1
 | [],_,p,hp=>by cases hp
 | (i,o)::r,h,p,hp=>by
  simp only[Heap.swp]at hp;rcases Rq _ _ _ _ hp with e|⟨q,hq,e⟩
  ·rw[e];unfold I9;split;·exact hb
   ·split;·exact ha
    ·exact h (i,o) (List.mem_cons_self ..)
  ·rw[<-e];exact QQ ha hb (λp hp=>h p (List.mem_cons_of_mem _ hp)) q hq
theorem Lb {P:Nat->Prop}:∀ {prs:List (Nat×Nat)} {x:AV×Heap},(∀q∈prs,P q.1/\P q.2)->(∀p∈x.2,P p.1)->∀p∈(Gg prs x).2,P p.1
 | [],x,_,h=>h
 | (a,b)::r,x,hp,h=>by have h1:=hp (a,b) (List.mem_cons_self ..);exact Lb (x:=(RU a b x.1,x.2.swp a b)) (λq hq=>hp q (List.mem_cons_of_mem _ hq)) (QQ h1.1 h1.2 h)
theorem Kg {s:Nat}:∀(k:Nat) (H:Heap),(∀q∈CY s [] k H,∃n,k<=n/\n<k+(CY s [] k H).length/\q.2=s+50000+10000*n)/\∀p∈H,∃q∈CY s [] k H,q.1=p.1
 | k,[]=>⟨λq hq=>(by cases hq),λp hp=>(by cases hp)⟩
 | k,(i,o)::r=>by
  obtain⟨h1,h2⟩:=Kg (s:=s) (k+1) r;have e:CY s [] k ((i,o)::r)=(i,s+50000+10000*k)::CY s [] (k+1) r:=by simp[CY]
  rw[e];refine⟨λq hq=>?_,λp hp=>?_⟩
  ·rcases List.mem_cons.1 hq with rfl|hq;·exact⟨k,Nat.le_refl _,by simp,rfl⟩
   ·obtain⟨n,n1,n2,n3⟩:=h1 q hq;exact⟨n,by omega,by rw[List.length_cons];omega,n3⟩
  ·rcases List.mem_cons.1 hp with rfl|hp;·exact⟨_,List.mem_cons_self ..,rfl⟩
   ·obtain⟨q,hq,e⟩:=h2 p hp;exact⟨q,List.mem_cons_of_mem _ hq,e⟩
def QE (f i:Nat):Prop:=i / 100000=CQ f\/i∈[Bz f+50000,Bz f+60000,Bz f+70000]
theorem mE {call:Al}{f:Nat}{as:List AV}(hR:Gk f=false)(hS:Bz f≠0)(hp:plainL as=true){H:Heap}{v:AV}{H':Heap}(he:AF call true H f as=some (v,H')):
   ∃u:List (Nat×Ob),(∀p∈u,QE f p.1)/\H'=Bu u H/\∀K:Heap,(∀j,QE f j->K.get j=H.get j)->AF call true K f as=some (v,Bu u K):=by
 have hpl:∀A:Heap,refsL as=[]/\rowsInL as=[]/\snapL A as=some as:=λA=>plainL_ok hp
 obtain⟨r1,r2,_⟩:=hpl H
 have hargs:∀A:Heap,Be true A f as=some as:=λA=>by simp only[Be,hR];exact(hpl A).2.2
 have hroots:BJ true f as=[]:=by simp only[BJ,hR,r1]
 have hlent:BY true f as=[]:=by simp only[BY,hR,r2]
 have hcl:∀A:Heap,A.closed [] as=true:=λA=>by simp[Heap.closed,r1,r2]
 have hdo:∀A:Heap,AF call true A f as=match call (Cd true f) (ageL as) [] with
     | none=>none
     | some (r,H1)=>ER (Bz f) (CQ f) [] [] A (r,H1):=λA=>by
   unfold AF
   simp only[hargs,hroots,hlent,HQ,EI,Heap.age,hcl]
   rw[if_neg (by simp)]
   cases call (Cd true f) (ageL as) []<;>rfl
 rw[hdo]at he
 cases hc:call (Cd true f) (ageL as) [] with
 | none=>rw[hc]at he;cases he
 | some p=>
  obtain⟨r,H1⟩:=p
  rw[hc]at he
  simp only[ER,if_neg hS]at he
  generalize hprs:CY (Bz f) [] 0 H1=prs at he
  split at he<;>try (cases he;done)
  rename_i hb
  split at he<;>try (cases he;done)
  rename_i hsw
  split at he<;>simp only[oI,pI,reduceCtorEq]at he
  rename_i hany
  obtain⟨rfl,rfl⟩:=he
  simp only[Bool.not_eq_true,Bool.or_eq_false_iff]at hb
  obtain⟨hlen,hall⟩:=hb
  have hlen:prs.length<=3:=by
   by_cases h:prs.length<=3;·exact h
   ·have:Nat.blt 3 prs.length=true:=by rw[Nat.blt_eq];omega
    rw[this]at hlen;cases hlen
  obtain⟨m1,m2⟩:=Kg (s:=Bz f) 0 H1
  rw[hprs]at m1 m2
  have hfst:∀q∈prs,q.1 / 100000=CQ f:=λq hq=>by have:=List.any_eq_false.1 hall q hq;simpa[Nat.beq_eq] using this
  have hP:∀q∈prs,QE f q.1/\QE f q.2:=λq hq=>by refine⟨.inl (hfst q hq),.inr ?_⟩;obtain⟨n,_,n2,n3⟩:=m1 q hq;rw[n3];simp only[List.mem_cons,List.not_mem_nil,or_false];omega
  have hk:∀p∈(Gg prs (r,H1)).2,QE f p.1:=Lb hP λp hp=>by obtain⟨q,hq,e⟩:=m2 p hp;rw[<-e];exact(hP q hq).1
  refine⟨(Gg prs (r,H1)).2.reverse,λp hp=>hk p (List.mem_reverse.1 hp),?_,λK hK=>?_⟩
  ·split<;>exact Ig _ _
  ·rw[hdo,hc]
   simp only[ER,if_neg hS,hprs]
   have e1:(Nat.blt 3 prs.length||prs.any λq => !(Nat.beq (q.1 / 100000) (CQ f)))=false:=by
    rw[hall,Bool.or_false]
    cases h:Nat.blt 3 prs.length with
    | false=>rfl
    | true=>rw[Nat.blt_eq]at h;omega
   have e2:Np [] K prs=false:=by simp only[Bool.not_eq_true]at hsw;unfold Np at hsw |-;refine List.any_eq_false.2 λq hq=>?_;have:=List.any_eq_false.1 hsw q hq;rw[hK _ (hP q hq).1,hK _ (hP q hq).2];exact this
   have e3:((Gg prs (r,H1)).2.any λp => !([]:List Nat).contains p.1&&(K.get p.1).isSome)=false:=by simp only[Bool.not_eq_true]at hany;refine List.any_eq_false.2 λp hp=>?_;have:=List.any_eq_false.1 hany p hp;rw[hK _ (hk p hp)];exact this
   rw[e1,e2,e3]
   simp only[Bool.false_eq_true,if_false]
   congr 2
   split<;>exact Ig _ _
theorem HW (H:Heap):∀(k:Nat) (todo seen:List Nat) (i:Nat),i∈seen->i∈H.reach k todo seen
 | 0,_,_,_,h=>by simpa[Heap.reach] using h
 | k+1,[],_,_,h=>by simpa[Heap.reach] using h
 | k+1,j::todo,seen,i,h=>by
  simp only[Heap.reach];split;·exact HW H k _ _ _ h
  ·split<;>exact HW H k _ _ _ (List.mem_cons_of_mem _ h)
theorem Hw (H:Heap)(j:Nat)(x:Ob):∀(k:Nat) (todo seen:List Nat),(j∉H.reach k todo seen\/j∉(H.ins j x).reach k todo seen)->(H.ins j x).reach k todo seen=H.reach k todo seen
 | 0,_,_,_=>rfl
 | k+1,[],_,_=>rfl
 | k+1,i::todo,seen,h=>by
  by_cases hs:seen.contains i=true
  ·have e:∀A:Heap,A.reach (k+1) (i::todo) seen=A.reach k todo seen:=λA=>by simp only[Heap.reach,hs,if_true]
   rw[e,e]at h |-;exact Hw H j x k _ _ h
  ·have hs:seen.contains i=false:=by simpa using hs
   have e:∀A:Heap,A.reach (k+1) (i::todo) seen=match A.get i with
      | some (.box cs)=>A.reach k (refsL cs++rowsInL cs++todo) (i::seen)
      | _=>A.reach k todo (i::seen):=λA=>by simp only[Heap.reach,hs];rfl
   have hij:i≠j:=by
    rintro rfl;have key:∀A:Heap,i∈A.reach (k+1) (i::todo) seen:=λA=>by rw[e];split<;>exact HW A k _ _ _ (List.mem_cons_self ..)
    exact h.elim (λh=>h (key _)) (λh=>h (key _))
   rw[e,e,A8 _ _ _ _ hij]at h;rw[e,e,A8 _ _ _ _ hij];split at h;·exact Hw H j x k _ _ h
   ·exact Hw H j x k _ _ h
theorem IE (j:Nat)(x:Ob){ids:List Nat}(hj:j∉ids):∀H:Heap,(H.ins j x).keep ids=H.keep ids
 | []=>by simp[Heap.ins,Heap.keep,hj]
 | (i,o)::r=>by
  have hc:ids.contains j=false:=by simpa using hj
  simp only[Heap.ins];split;·simp only[Heap.keep,hc];rfl
  ·split;·rename_i h1 h2;subst h2;simp only[Heap.keep,hc];rfl
   ·simp only[Heap.keep,IE j x hj r]
theorem Ey (j:Nat)(x:Ob):∀(L:List Nat) (H:Heap),j∉L->(H.ins j x).freeze L=(H.freeze L).ins j x
 | [],H,_=>rfl
 | i::r,H,h=>by
  have hij:i≠j:=λe=>h (by rw[e];exact List.mem_cons_self ..);have hr:j∉r:=λe=>h (List.mem_cons_of_mem _ e);simp only[Heap.freeze,A8 _ _ _ _ hij];split;·rw[Ji j i _ _ (Ne.symm hij),Ey j x r _ hr]
  ·exact Ey j x r _ hr
theorem HK (j:Nat)(x:Ob):∀(M H:Heap),(∀p∈M,p.1≠j)->Heap.merge (H.ins j x) M=(Heap.merge H M).ins j x
 | [],H,_=>rfl
 | (i,o)::r,H,h=>by rw[Heap.merge,Heap.merge,HK j x r H λp hp=>h p (List.mem_cons_of_mem _ hp),Ji j i _ _ λe=>h (i,o) (List.mem_cons_self ..) e.symm]
theorem JJ (ids:List Nat):∀(H:Heap) (p:Nat×Ob),p∈H.keep ids->p.1∈ids
 | [],p,h=>by cases h
 | (i,o)::r,p,h=>by
  simp only[Heap.keep]at h;split at h
  ·rename_i hc;rcases List.mem_cons.1 h with rfl|h;·simpa using hc
   ·exact JJ ids r p h
  ·exact JJ ids r p h
theorem RS (j:Nat)(x:Ob){ids:List Nat}(hj:j∉ids)(H:Heap)(xs:List AV):(H.ins j x).closed ids xs=H.closed ids xs:=by unfold Heap.closed;congr 1;refine Bool.eq_iff_iff.2 ?_;rw[List.all_eq_true,List.all_eq_true];have e:∀i∈ids,(H.ins j x).get i=H.get i:=λi hi=>A8 _ _ _ _ λe=>hj (e▸hi);exact⟨λh i hi=>by have:=h i hi;rw[e i hi]at this;exact this,λh i hi=>by rw[e i hi];exact h i hi⟩
theorem L3 {call:Al}{H:Heap}{f:Nat}{as:List AV}{j:Nat}{x:Ob}(h1:j∉rowsInL as)(h2:j∉H.reach 1000 (refsL as) []\/j∉(H.ins j x).reach 1000 (refsL as) []):
   AF call false (H.ins j x) f as=(AF call false H f as).map (λp=>(p.1,p.2.ins j x))/\(H.ins j x).reach 1000 (refsL as) []=H.reach 1000 (refsL as) []/\snapL (H.ins j x) as=snapL H as:=by
 have hre:=Hw H j x _ _ _ h2
 have hj:j∉H.reach 1000 (refsL as) []:=by
  rcases h2 with h|h;·exact h
  ·rw[hre]at h;exact h
 have hsn:snapL (H.ins j x) as=snapL H as:=snapL_congr λi hi=>A8 _ _ _ _ λe=>h1 (e▸hi)
 refine⟨?_,hre,hsn⟩
 unfold AF
 cases hs:snapL H as with
 | none=>rw[show Be false (H.ins j x) f as=none from hsn.trans hs,show Be false H f as=none from hs];rfl
 | some as'=>
  rw[show Be false (H.ins j x) f as=some as' from hsn.trans hs,show Be false H f as=some as' from hs]
  obtain⟨r1,r2⟩:=snapL_refs hs
  simp only[BJ,BY,Cd,r1,hre,IE j x hj,RS j x hj]
  generalize H.reach 1000 (refsL as) []=ids at hj |-
  split
  ·rfl
  ·cases hc:call f (ageL as') (Heap.keep ids H).age with
   | none=>rfl
   | some p=>
    obtain⟨r,H1⟩:=p
    dsimp only
    cases hr:AN H1 r with
    | none=>rfl
    | some r'=>
     dsimp only
     by_cases hcl:(!H1.closed ids [r'])=true
     ·rw[if_pos hcl,if_pos hcl];rfl
     ·rw[if_neg hcl,if_neg hcl]
      simp only[Option.map_some]
      congr 2
      rw[Ey j x _ H (by split<;>first|simp|exact h1),HK j x _ _ λp hp e=>hj (e▸JJ ids _ p hp)]
theorem GN {call:Al}{f:Nat}{as:List AV}:∀ {b:List (Nat×Ob)} {H:Heap},(∀p∈b,p.1∉rowsInL as)->((∀p∈b,p.1∉H.reach 1000 (refsL as) [])\/∀p∈b,p.1∉(Bu b H).reach 1000 (refsL as) []) ->
   AF call false (Bu b H) f as=(AF call false H f as).map (λp=>(p.1,Bu b p.2))/\(Bu b H).reach 1000 (refsL as) []=H.reach 1000 (refsL as) []/\snapL (Bu b H) as=snapL H as
 | [],H,_,_=>⟨by show AF call false H f as=_;cases AF call false H f as<;>rfl,rfl,rfl⟩
 | p::r,H,h1,h2=>by
  have h1r:∀q∈r,q.1∉rowsInL as:=λq hq=>h1 q (List.mem_cons_of_mem _ hq);have hp:=h1 p (List.mem_cons_self ..);show AF call false (Bu r (H.ins p.1 p.2)) f as=_/\(Bu r (H.ins p.1 p.2)).reach 1000 (refsL as) []=_/\snapL (Bu r (H.ins p.1 p.2)) as=_;rcases h2 with h2|h2
  ·obtain⟨a1,a2,a3⟩:=L3 (call:=call) (f:=f) (x:=p.2) hp (.inl (h2 p (List.mem_cons_self ..)));obtain⟨b1,b2,b3⟩:=GN (call:=call) (f:=f) (b:=r) (H:=H.ins p.1 p.2) h1r (.inl λq hq=>by rw[a2];exact h2 q (List.mem_cons_of_mem _ hq));refine⟨?_,b2.trans a2,b3.trans a3⟩;rw[b1,a1,Option.map_map];rfl
  ·obtain⟨b1,b2,b3⟩:=GN (call:=call) (f:=f) (b:=r) (H:=H.ins p.1 p.2) h1r (.inr λq hq=>h2 q (List.mem_cons_of_mem _ hq));obtain⟨a1,a2,a3⟩:=L3 (call:=call) (f:=f) (x:=p.2) hp (.inr (by rw[<-b2];exact h2 p (List.mem_cons_self ..)));refine⟨?_,b2.trans a2,b3.trans a3⟩;rw[b1,a1,Option.map_map];rfl
theorem Sg {as:List AV}{H:Heap}{S:List Nat}{b:List (Nat×Ob)}(h:CF H as = .c S\/CF (Bu b H) as = .c S)(hb:∀p∈b,p.1∉S):
   (∀p∈b,p.1∉rowsInL as)/\((∀p∈b,p.1∉H.reach 1000 (refsL as) [])\/∀p∈b,p.1∉(Bu b H).reach 1000 (refsL as) []):=by
 have key:∀ {A:Heap},CF A as = .c S->S=A.reach 1000 (refsL as) []++rowsInL as:=λ{A} e=>by unfold CF at e;split at e<;>simp only[Fg.c.injEq,reduceCtorEq]at e;rename_i as' hs;rw[(snapL_refs hs).1]at e;exact e.symm
 rcases h with h|h
 ·have e:=key h
  subst e
  exact⟨λp hp hm=>hb p hp (List.mem_append_right _ hm),.inl λp hp hm=>hb p hp (List.mem_append_left _ hm)⟩
 ·have e:=key h
  subst e
  exact⟨λp hp hm=>hb p hp (List.mem_append_right _ hm),.inr λp hp hm=>hb p hp (List.mem_append_left _ hm)⟩
theorem SE {as:List AV}{A B:Heap}(h1:A.reach 1000 (refsL as) []=B.reach 1000 (refsL as) [])(h2:snapL A as=snapL B as):CF A as=CF B as:=by
 unfold CF;rw[h2]
 cases hs:snapL B as with
 | none=>rfl
 | some as'=> have:=(snapL_refs hs).1;dsimp only;rw[this,h1]
theorem fT {o:Opn}{σ:Slots}{A:Heap}{S:List Nat}(h:o.fg1 σ A = .c S):∃f as,(∀K,o.fg1 σ K=CF K as)/\CF A as = .c S/\∀(call:Al) K,Ac call σ K o=AF call false K f as:=by
 have key:∀ {own:Bool} {k:Nat} {as:List AV},A9 A own k as = .c S->own=false/\CF A as = .c S/\∀K,A9 K false k as=CF K as:=λ{own k as} e=>by
  rcases DG e with g|⟨rfl,g,_⟩|⟨_,_,g⟩|⟨_,_,_,_,g⟩<;>try (cases g;done)
  refine⟨rfl,g,λK=>?_⟩
  cases he:(refsL as).isEmpty with
  | true=>
   have:A9 A false k as = .w (rowsInL as):=by simp only[A9,he]
   rw[this]at e;cases e
  | false=>simp only[A9,he]
 cases o
 case cut x lo hi mx sz=>rcases Hg (ev σ x) with g|⟨T,g⟩<;>(simp only[Opn.fg1,g]at h;cases h)
 case st x y n=>rcases FV (ev σ y) (ev σ x) with g|⟨T,g⟩<;>(simp only[Opn.fg1,g]at h;cases h)
 case app id e sz b x y=>rcases F4 id (ev σ y) (ev σ x) with g|⟨T,g⟩<;>(simp only[Opn.fg1,g]at h;cases h)
 case lit id e sz ps=>simp only[Opn.fg1]at h;split at h<;>cases h
 case call own f args=>
  simp only[Opn.fg1]at h
  cases ha:Jj σ args with
  | none=>rw[ha]at h;cases h
  | some as=>
   rw[ha]at h
   obtain⟨rfl,k1,k2⟩:=key h
   exact⟨f,as,λK=>by simp only[Opn.fg1,ha];exact k2 K,k1,λcall K=>by simp only[Ac,ha]⟩
 case dyn own x args=>
  cases own with
  | true=>cases h
  | false=>
   simp only[Opn.fg1]at h
   split at h<;>try (cases h;done)
   rename_i f cap as hx ha
   obtain⟨_,k1,k2⟩:=key h
   exact⟨f,as++cap,λK=>by simp only[Opn.fg1,hx,ha];exact k2 K,k1,λcall K=>by simp only[Ac,hx,ha]⟩
 all_goals first
  | (cases h;done)
  | exact absurd h ((Hk _).2 S)
theorem PX {call:Al}{o:Opn}{σ:Slots}{H:Heap}{S:List Nat}{b:List (Nat×Ob)}(h:o.fg σ H = .c S\/o.fg σ (Bu b H) = .c S)(hb:∀p∈b,p.1∉S):
  Ac call σ (Bu b H) o=(Ac call σ H o).map (λp=>(p.1,Bu b p.2))/\o.fg σ (Bu b H)=o.fg σ H:=by
 have hq:o.quiet σ=false:=by
  cases hq:o.quiet σ with
  | false=>rfl
  | true=>rcases h with h|h<;>(unfold Opn.fg at h;rw[hq]at h;cases h)
 have e:∀K,o.fg σ K=o.fg1 σ K:=λK=>by unfold Opn.fg;rw[hq]
 rw[e,e]at h
 rw[e,e]
 obtain⟨f,as,k1,k2,k3⟩:∃f as,(∀K,o.fg1 σ K=CF K as)/\(CF H as = .c S\/CF (Bu b H) as = .c S)/\∀(call:Al) K,Ac call σ K o=AF call false K f as:=by
  rcases h with h|h;·obtain⟨f,as,k1,k2,k3⟩:=fT h;exact⟨f,as,k1,.inl k2,k3⟩
  ·obtain⟨f,as,k1,k2,k3⟩:=fT h;exact⟨f,as,k1,.inr k2,k3⟩
 obtain⟨c1,c2⟩:=Sg k2 hb
 obtain⟨d1,d2,d3⟩:=GN (call:=call) (f:=f) c1 c2
 exact⟨by rw[k3,k3,d1],by rw[k1,k1];exact SE d2 d3⟩
def XT (call:Al)(σ:Slots)(o:Opn)(P:Nat->Prop):Prop:=∀H v H',Ac call σ H o=some (v,H')->∃u:List (Nat×Ob),(∀p∈u,P p.1)/\H'=Bu u H/\∀K,(∀j,P j->Heap.get K j=Heap.get H j)->Ac call σ K o=some (v,Bu u K)
def Fg.has:Fg->Nat->Prop
 | .r j,i=>i=j
 | .m j,i=>i=j
 | .f j,i=>i=j
 | .w S,i=>i∈S
 | .s g S,i=>i / 100000=g\/i∈S
 | _,_=>False
def Fg.loc:Fg->Bool
 | .r _ | .m _ | .f _ | .w _ | .s _ _=>true
 | _=>false
theorem Locl.p {call:Al}{σ:Slots}{o:Opn}{S:List Nat}(h:Locl call σ o S):XT call σ o (·∈S):=h
theorem OU {o:Opn}{H0:Heap}{f:Fg}(h:o.fg σ H0=f)(hf:f.loc=true):XT call σ o f.has:=by
 have one:∀ {j:Nat},Locl call σ o [j]->XT call σ o (· = j):=λ{j} h H v H' he=>by obtain⟨u,h1,h2,h3⟩:=h H v H' he;exact⟨u,λp hp=>by simpa using h1 p hp,h2,λK hK=>h3 K λi hi=>hK i (by simpa using hi)⟩
 cases f<;>try (cases hf;done)
 case r j=>exact one (AAa h)
 case m j=>exact one (ABN h)
 case f j=>
  obtain⟨x,lo,hi,mx,sz,ver,rfl,hx⟩:=rD h
  exact one (cH hx)
 case w S=>
  replace h:=JA h (by simp)
  have no:∀v,G5 v≠.w S:=λv=>by unfold G5;split<;>simp
  have gw:∀ {own:Bool} {k:Nat} {as:List AV},A9 H0 own k as = .w S->own=false/\refsL as=[]/\S=rowsInL as:=λ{own k as} e=>by
   rcases DG e with g|⟨_,_,_,g⟩|⟨g1,g2,g⟩|⟨_,_,_,_,g⟩<;>try (cases g;done)
   simp only[Fg.w.injEq]at g;exact⟨g1,g2,g⟩
  cases o
  case cut x lo hi mx sz=>
   simp only[Opn.fg1]at h
   unfold Uu at h
   split at h<;>cases h
  case st x y n=>
   simp only[Opn.fg1]at h
   unfold Zu at h
   split at h
   ·rename_i hx;cases h;exact(iQ hx).p
   ·rename_i hx
    split at h<;>cases h
    rename_i hy
    exact(bP hx hy).p
   ·cases h
  case app id e sz b x y=>exact(bQ h).p
  case lit id e sz ps=>simp only[Opn.fg1]at h;split at h<;>cases h
  case call own f args=>
   simp only[Opn.fg1]at h
   split at h
   ·rename_i as ha
    obtain⟨rfl,hr,rfl⟩:=gw h
    have e:∀A,Ac call σ A (.call false f args)=AF call false A f as:=λA=>by simp only[Ac,ha]
    intro H v H' he
    rw[e]at he
    obtain⟨u,h1,h2,h3⟩:=XR hr he
    exact⟨u,h1,h2,λK hK=>by rw[e];exact h3 K hK⟩
   ·cases h
  case dyn own x args=>
   cases own with
   | true=>cases h
   | false=>
    simp only[Opn.fg1]at h
    split at h
    ·rename_i f cap as hx ha
     obtain⟨_,hr,rfl⟩:=gw h
     have e:∀A,Ac call σ A (.dyn false x args)=AF call false A f (as++cap):=λA=>by simp only[Ac,hx,ha]
     intro H v H' he
     rw[e]at he
     obtain⟨u,h1,h2,h3⟩:=XR hr he
     exact⟨u,h1,h2,λK hK=>by rw[e];exact h3 K hK⟩
    ·cases h
  all_goals first
   | (cases h;done)
   | exact absurd h (no _)
 case s g S=>
  replace h:=JA h (by simp)
  have no:∀v,G5 v≠.s g S:=λv=>by unfold G5;split<;>simp
  cases o
  case cut x lo hi mx sz=>rcases Hg (ev σ x) with g|⟨T,g⟩<;>(simp only[Opn.fg1,g]at h;cases h)
  case st x y n=>rcases FV (ev σ y) (ev σ x) with g|⟨T,g⟩<;>(simp only[Opn.fg1,g]at h;cases h)
  case app id e sz b x y=>rcases F4 id (ev σ y) (ev σ x) with g|⟨T,g⟩<;>(simp only[Opn.fg1,g]at h;cases h)
  case lit id e sz ps=>simp only[Opn.fg1]at h;split at h<;>cases h
  case call own f args=>
   simp only[Opn.fg1]at h
   split at h
   ·rename_i as ha
    rcases DG h with k|⟨_,_,_,k⟩|⟨_,_,k⟩|⟨rfl,k1,k2,k3,k⟩<;>try (cases k;done)
    simp only[Fg.s.injEq]at k
    obtain⟨rfl,rfl⟩:=k
    have e:∀A,Ac call σ A (.call true f args)=AF call true A f as:=λA=>by simp only[Ac,ha]
    intro H v H' he
    rw[e]at he
    obtain⟨u,h1,h2,h3⟩:=mE k1 k2 k3 he
    exact⟨u,h1,h2,λK hK=>by rw[e];exact h3 K hK⟩
   ·cases h
  case dyn own x args=>
   cases own with
   | true=>cases h
   | false=>
    simp only[Opn.fg1]at h
    split at h
    ·rcases DG h with k|⟨_,_,_,k⟩|⟨_,_,k⟩|⟨k0,_,_,_,k⟩
     ·cases k
     ·cases k
     ·cases k
     ·cases k0
    ·cases h
  all_goals first
   | (cases h;done)
   | exact absurd h (no _)
theorem VK {f g:Fg}(hf:f.loc=true)(hg:g.loc=true)(h:f.ok g=true):(∀i,f.has i->g.has i->False)\/(∃i j,f = .r i/\g = .r j)\/∃i,f = .f i/\g = .f i:=by
 cases f<;>try (cases hf;done)
 all_goals cases g<;>try (cases hg;done)
 case r.r i j=>exact .inr (.inl ⟨i,j,rfl,rfl⟩)
 case f.f i j=>
  by_cases hij:i=j
  ·subst hij;exact .inr (.inr ⟨i,rfl,rfl⟩)
  ·exact .inl λa ha hb=>hij (ha.symm.trans hb)
 all_goals first
   | (cases h;done)
   | (refine .inl λa ha hb=>?_
      simp only[Fg.has]at ha hb
      simp only[Fg.ok,Bool.not_eq_true',Bool.and_eq_true,List.all_eq_true,List.contains_eq_mem,decide_eq_false_iff_not,List.any_eq_false,decide_eq_true_eq]at h
      first
        | (subst ha;first|exact h hb|(rw[hb]at h;simp at h)|(rcases hb with hb|hb<;>simp_all))
        | (subst hb;first|exact h ha|(rcases ha with ha|ha<;>simp_all))
        | exact h _ ha hb
        | exact h _ hb ha
        | (have:=h _ hb;rcases ha with ha|ha<;>simp_all)
        | (have:=h _ ha;rcases hb with hb|hb<;>simp_all))
theorem Yz {d:Option Nat}{v:AV}{t:Nat}(h:∀e,d=some e->t≠e):Slots.get (pd d σ v) t=Slots.get σ t:=by
 cases d with
 | none=>rfl
 | some e=>exact Slots.put_get' _ _ _ _ (h e rfl)
theorem dT {d e:Option Nat}{v u:AV}(h:∀x,d=some x->e≠some x):pd e (pd d σ v) u=pd d (pd e σ u) v:=by
 cases d with
 | none=>rfl
 | some x=>
  cases e with
  | none=>rfl
  | some y=>exact Slots.put_comm _ _ _ _ _ λhxy=>h x rfl (by rw[hxy])
theorem R4 {x y:RO}(h:x.apart y=true):(∀d,x.dst=some d->d∉y.reads)/\(∀d,x.dst=some d->y.dst≠some d)/\(∀d,y.dst=some d->d∉x.reads):=by
 simp only[RO.apart,Bool.and_eq_true]at h;obtain⟨h1,h2⟩:=h;refine⟨λd hd=>?_,λd hd=>?_,λd hd=>?_⟩;·simp only[hd,Bool.and_eq_true,Bool.not_eq_true',List.contains_eq_mem,decide_eq_false_iff_not]at h1;exact h1.1
 ·simp only[hd,Bool.and_eq_true,bne_iff_ne]at h1;exact h1.2
 ·simp only[hd,Bool.not_eq_true',List.contains_eq_mem,decide_eq_false_iff_not]at h2;exact h2
theorem WQ {x y:RO}{H H1 H2:Heap}{σ1 σ2:Slots}(hap:x.apart y=true)(h1:x.run call σ H=some (σ1,H1))(h2:y.run call σ1 H1=some (σ2,H2))(hq:(x.flag σ H).ok (y.flag σ1 H1)=true\/(x.op.reader=true/\y.op.reader=true)):
   ∃σ3 H3,y.run call σ H=some (σ3,H3)/\x.run call σ3 H3=some (σ2,H2)/\y.flag σ H=y.flag σ1 H1/\x.flag σ3 H3=x.flag σ H:=by
 obtain⟨a1,a2,a3⟩:=R4 hap
 rw[RO.run_val]at h1 h2
 obtain⟨⟨v,K1⟩,hv,e1⟩:=Option.map_eq_some_iff.1 h1
 obtain⟨⟨u,K2⟩,hu,e2⟩:=Option.map_eq_some_iff.1 h2
 simp only[pI]at e1 e2
 obtain⟨rfl,rfl⟩:=e1
 obtain⟨rfl,rfl⟩:=e2
 have cy:∀t∈y.reads,Slots.get (pd x.dst σ v) t=Slots.get σ t:=λt ht=>Yz λe he hte=>a1 e he (hte▸ht)
 have cx:∀t∈x.reads,Slots.get (pd y.dst σ u) t=Slots.get σ t:=λt ht=>Yz λe he hte=>a3 e he (hte▸ht)
 rw[RO.val_congr cy]at hu
 rw[RO.flag_congr cy]at hq
 -- what is to be shown, by the heaps
 have fin:∀H3,y.val call σ H=some (u,H3)->x.val call σ H3=some (v,K2)->y.flag σ H=y.flag σ K1->x.flag σ H3=x.flag σ H ->
     ∃σ3 H3,y.run call σ H=some (σ3,H3)/\x.run call σ3 H3=some (pd y.dst (pd x.dst σ v) u,K2)/\y.flag σ H=y.flag (pd x.dst σ v) K1/\x.flag σ3 H3=x.flag σ H:=λH3 g1 g2 g3 g4=>by
   refine⟨pd y.dst σ u,H3,by rw[RO.run_val,g1];rfl,?_,by rw[RO.flag_congr cy];exact g3,by rw[RO.flag_congr cx];exact g4⟩
   rw[RO.run_val,RO.val_congr cx,g2]
   simp only[Option.map_some,dT a2]
 have two:x.op.reader=true->y.op.reader=true->∃σ3 H3,y.run call σ H=some (σ3,H3)/\x.run call σ3 H3=some (pd y.dst (pd x.dst σ v) u,K2)/\y.flag σ H=y.flag (pd x.dst σ v) K1/\x.flag σ3 H3=x.flag σ H:=λq1 q2=>by
   obtain rfl:=RO.val_reader q1 hv
   obtain rfl:=RO.val_reader q2 hu
   exact fin K2 hu hv rfl rfl
 have isq:∀ {o:RO} {A B:Heap},o.flag σ A = .q->o.flag σ B = .q:=λh=>RO.flag_any h (λS=>by simp) (by simp) _
 have isr:∀ {o:RO} {A B:Heap} {j:Nat},o.flag σ A = .r j->o.flag σ B = .r j:=λh=>RO.flag_any h (λS=>by simp) (by simp) _
 have ism:∀ {o:RO} {A B:Heap} {j:Nat},o.flag σ A = .m j->o.flag σ B = .m j:=λh=>RO.flag_any h (λS=>by simp) (by simp) _
 -- a reader tells the same where its object is as it was
 have same:∀ {o:RO} {A:Heap} {j:Nat},o.flag σ A = .r j->∀ {B C:Heap} {w:AV} {B':Heap},o.val call σ B=some (w,B')->Heap.get C j=Heap.get B j->o.val call σ C=some (w,C):=λ{o A j} hf {B C w B'} hb hg=>by
   obtain⟨gx,ex⟩:=RO.flag_not (call:=call) (o:=o) (σ:=σ) (H0:=A) (by rw[hf];simp)
   rw[hf]at gx
   obtain⟨rx,kx⟩:=iP (call:=call) gx
   have e2:=kx C B hg
   rw[<-ex,<-ex,hb]at e2
   cases hv2:o.val call σ C with
   | none=>rw[hv2]at e2;cases e2
   | some q=>
     obtain⟨v2,H2⟩:=q
     obtain rfl:=RO.val_reader rx hv2
     rw[hv2]at e2
     simp only[Option.map_some,oI]at e2
     subst e2
     rfl
 have rd:∀ {o:RO} {A:Heap} {j:Nat},o.flag σ A = .r j->o.op.reader=true:=λ{o A j} hf=>by
   obtain⟨gx,ex⟩:=RO.flag_not (call:=call) (o:=o) (σ:=σ) (H0:=A) (by rw[hf];simp)
   rw[hf]at gx
   exact(iP (call:=call) gx).1
 rcases hq with hq|⟨q1,q2⟩
 · obtain⟨fx,hfx⟩:∃f,x.flag σ H=f:=⟨_,rfl⟩
   obtain⟨fy,hfy⟩:∃f,y.flag σ K1=f:=⟨_,rfl⟩
   have st:∀ {f:Fg},f.loc=true->f≠.q/\(∀S,f≠.c S)/\f≠.x:=λ{f} h=>by
     cases f<;>simp[Fg.loc]at h |-
   have both:fx.loc=true->fy.loc=true->∃σ3 H3,y.run call σ H=some (σ3,H3)/\x.run call σ3 H3=some (pd y.dst (pd x.dst σ v) u,K2)/\y.flag σ H=y.flag (pd x.dst σ v) K1/\x.flag σ3 H3=x.flag σ H:=λhS hT=>by
     rw[hfx,hfy]at hq
     rcases VK hS hT hq with hd|⟨i,j,rfl,rfl⟩|⟨i,rfl,rfl⟩
     · obtain⟨gx,ex⟩:=RO.flag_not (call:=call) (o:=x) (σ:=σ) (H0:=H) (by rw[hfx];exact(st hS).1)
       obtain⟨gy,ey⟩:=RO.flag_not (call:=call) (o:=y) (σ:=σ) (H0:=K1) (by rw[hfy];exact(st hT).1)
       rw[hfx]at gx
       rw[hfy]at gy
       have lx:=OU (call:=call) gx hS
       have ly:=OU (call:=call) gy hT
       have hv':=hv
       have hu':=hu
       rw[ex]at hv'
       rw[ey]at hu'
       obtain⟨a,ha1,ha2,ha3⟩:=lx _ _ _ hv'
       obtain⟨b,hb1,hb2,hb3⟩:=ly _ _ _ hu'
       refine fin (Bu b H) ?_ ?_ ((RO.flag_any hfy (st hT).2.1 (st hT).2.2 H).trans hfy.symm) ((RO.flag_any hfx (st hS).2.1 (st hS).2.2 _).trans hfx.symm)
       · rw[ey]
         exact hb3 H λj hj=>by rw[ha2,LU (u:=a) (j:=j) λp hp e=>hd j (e▸ha1 p hp) hj]
       · rw[ex,ha3 (Bu b H) λj hj=>LU λp hp e=>hd j hj (e▸hb1 p hp),hb2,ha2,Nz b a H λp hp q hq e=>hd p.1 (ha1 p hp) (e▸hb1 q hq)]
     · exact two (rd hfx) (rd hfy)
     · obtain⟨gx,ex⟩:=RO.flag_not (call:=call) (o:=x) (σ:=σ) (H0:=H) (by rw[hfx];simp)
       obtain⟨gy,ey⟩:=RO.flag_not (call:=call) (o:=y) (σ:=σ) (H0:=K1) (by rw[hfy];simp)
       rw[hfx]at gx
       rw[hfy]at gy
       obtain⟨x1,lo1,hi1,mx1,sz1,ver1,ox,hx1⟩:=rD gx
       obtain⟨x2,lo2,hi2,mx2,sz2,ver2,oy,hx2⟩:=rD gy
       rw[ex,ox]at hv
       rw[ey,oy]at hu
       obtain⟨a1,a2⟩:=JG hx1 hv
       subst a1
       obtain⟨b1,b2⟩:=JG hx2 hu
       have ft:=(Iv i H).1
       rw[ft]at b1
       subst b1
       -- the second, done first
       have hy:Ac call σ H (.cut x2 lo2 hi2 mx2 sz2)=some (u,H.freeze [i]):=by
         cases he:Ac call σ H (.cut x2 lo2 hi2 mx2 sz2) with
         | none=>
           exfalso
           have e1:=V4 (call:=call) hx2 he
           rw[e1]at hu;cases hu
         | some q=>
           obtain⟨v2,K⟩:=q
           obtain⟨c1,c2⟩:=JG hx2 he
           subst c1
           rw[c2]at hu
           simp only[oI,pI,and_true]at hu
           rw[hu]
       refine fin (H.freeze [i]) (by rw[ey,oy];exact hy) (by rw[ex,ox];exact a2) ((RO.flag_any hfy (λS=>by simp) (by simp) H).trans hfy.symm) ((RO.flag_any hfx (λS=>by simp) (by simp) _).trans hfx.symm)
   -- a call with pointers behind a local one, and ahead of it
   have locC:∀ {S:List Nat},fx.loc=true->fy = .c S->(∀i,fx.has i->i∉S)->∃σ3 H3,y.run call σ H=some (σ3,H3)/\x.run call σ3 H3=some (pd y.dst (pd x.dst σ v) u,K2)/\y.flag σ H=y.flag (pd x.dst σ v) K1/\x.flag σ3 H3=x.flag σ H:=λ{S} hS hC hd=>by
     subst hC
     obtain⟨gx,ex⟩:=RO.flag_not (call:=call) (o:=x) (σ:=σ) (H0:=H) (by rw[hfx];exact(st hS).1)
     obtain⟨gy,ey⟩:=RO.flag_not (call:=call) (o:=y) (σ:=σ) (H0:=K1) (by rw[hfy];simp)
     have fy:=RO.flag_fg (o:=y) (σ:=σ) (H0:=K1) (by rw[hfy];simp)
     rw[hfx]at gx
     rw[hfy]at gy
     have lx:=OU (call:=call) gx hS
     have hv':=hv
     have hu':=hu
     rw[ex]at hv'
     rw[ey]at hu'
     obtain⟨a,ha1,ha2,ha3⟩:=lx _ _ _ hv'
     subst ha2
     obtain⟨c1,c2⟩:=PX (call:=call) (.inr gy) λp hp=>hd _ (ha1 p hp)
     rw[c1]at hu'
     obtain⟨⟨u',K'⟩,hk,he⟩:=Option.map_eq_some_iff.1 hu'
     simp only[pI]at he
     obtain⟨rfl,rfl⟩:=he
     have gy':y.op.fg σ H = .c S:=by rw[<-c2];exact gy
     refine fin K' (by rw[ey];exact hk) ?_ (by rw[fy,fy];exact c2.symm) ((RO.flag_any hfx (st hS).2.1 (st hS).2.2 _).trans hfx.symm)
     rw[ex]
     exact ha3 K' λj hj=>dQ gy' hk j (by simpa using hd j hj)
   have cLoc:∀ {S:List Nat},fx = .c S->fy.loc=true->(∀i,fy.has i->i∉S)->∃σ3 H3,y.run call σ H=some (σ3,H3)/\x.run call σ3 H3=some (pd y.dst (pd x.dst σ v) u,K2)/\y.flag σ H=y.flag (pd x.dst σ v) K1/\x.flag σ3 H3=x.flag σ H:=λ{S} hC hT hd=>by
     subst hC
     obtain⟨gx,ex⟩:=RO.flag_not (call:=call) (o:=x) (σ:=σ) (H0:=H) (by rw[hfx];simp)
     have fx:=RO.flag_fg (o:=x) (σ:=σ) (H0:=H) (by rw[hfx];simp)
     obtain⟨gy,ey⟩:=RO.flag_not (call:=call) (o:=y) (σ:=σ) (H0:=K1) (by rw[hfy];exact(st hT).1)
     rw[hfx]at gx
     rw[hfy]at gy
     have ly:=OU (call:=call) gy hT
     have hv':=hv
     have hu':=hu
     rw[ex]at hv'
     rw[ey]at hu'
     obtain⟨b,hb1,hb2,hb3⟩:=ly _ _ _ hu'
     obtain⟨c1,c2⟩:=PX (call:=call) (b:=b) (.inl gx) λp hp=>hd _ (hb1 p hp)
     refine fin (Bu b H) ?_ ?_ ((RO.flag_any hfy (st hT).2.1 (st hT).2.2 H).trans hfy.symm) (by rw[fx,fx];exact c2)
     · rw[ey]
       exact hb3 H λj hj=>(dQ gx hv' j (by simpa using hd j hj)).symm
     · rw[ex,c1,hv',hb2];rfl
   cases fx with
   | q=>
     obtain⟨rfl,hx⟩:=RO.val_still hfx hv
     exact fin K2 hu (hx K2) rfl (by rw[hfx];exact isq hfx)
   | x=>
     rw[hfx]at hq
     rw[hfy]at hq
     have hfy:y.flag σ K1 = .q:=by
       rw[hfy];cases fy<;>first|rfl|cases hq
     obtain⟨rfl,hy⟩:=RO.val_still hfy hu
     exact fin H (hy H) hv ((isq hfy).trans hfy.symm) rfl
   | r j=>
     rw[hfx]at hq
     cases fy with
     | q=>
       obtain⟨rfl,hy⟩:=RO.val_still hfy hu
       obtain rfl:=RO.val_reader (rd hfx) hv
       exact fin K2 hu hv rfl rfl
     | x=>rw[hfy]at hq;cases hq
     | r i=>exact two (rd hfx) (rd hfy)
     | m i=>exact both rfl rfl
     | w S=>exact both rfl rfl
     | f S=>exact both rfl rfl
     | s g S=>exact both rfl rfl
     | c S=>
       obtain rfl:=RO.val_reader (rd hfx) hv
       rw[hfy]at hq
       have hne:S.contains j=false:=by simpa[Fg.ok] using hq
       obtain⟨gy,ey⟩:=RO.flag_not (call:=call) (o:=y) (σ:=σ) (H0:=K1) (by rw[hfy];simp)
       rw[hfy]at gy
       have hu':=hu
       rw[ey]at hu'
       exact fin K2 hu (same hfx hv (dQ gy hu' j hne)) rfl ((isr hfx).trans hfx.symm)
   | m i0=>
     cases fy with
     | q=>
       obtain⟨rfl,hy⟩:=RO.val_still hfy hu
       exact fin H (hy H) hv ((isq hfy).trans hfy.symm) rfl
     | x=>rw[hfx,hfy]at hq;cases hq
     | m k=>exact both rfl rfl
     | c S=>rw[hfx,hfy]at hq;exact locC rfl rfl λi hi hm=>by simp only[Fg.has]at hi;subst hi;simp[Fg.ok,hm]at hq
     | r j=>exact both rfl rfl
     | w S=>exact both rfl rfl
     | f S=>exact both rfl rfl
     | s g S=>exact both rfl rfl
   | f i0=>
     cases fy with
     | q=>
       obtain⟨rfl,hy⟩:=RO.val_still hfy hu
       exact fin H (hy H) hv ((isq hfy).trans hfy.symm) rfl
     | x=>rw[hfx,hfy]at hq;cases hq
     | m k=>exact both rfl rfl
     | c S=>rw[hfx,hfy]at hq;exact locC rfl rfl λi hi hm=>by simp only[Fg.has]at hi;subst hi;simp[Fg.ok,hm]at hq
     | r j=>exact both rfl rfl
     | w S=>exact both rfl rfl
     | f S=>exact both rfl rfl
     | s g S=>exact both rfl rfl
   | w T=>
     cases fy with
     | q=>
       obtain⟨rfl,hy⟩:=RO.val_still hfy hu
       exact fin H (hy H) hv ((isq hfy).trans hfy.symm) rfl
     | x=>rw[hfx,hfy]at hq;cases hq
     | m k=>exact both rfl rfl
     | c S=>rw[hfx,hfy]at hq;exact locC rfl rfl λi hi hm=>by simp only[Fg.has]at hi;simp only[Fg.ok,Bool.not_eq_true',List.any_eq_false,List.contains_eq_mem,decide_eq_true_eq]at hq;exact hq i hi hm
     | r j=>exact both rfl rfl
     | w S=>exact both rfl rfl
     | f S=>exact both rfl rfl
     | s g S=>exact both rfl rfl
   | s g0 T=>
     cases fy with
     | q=>
       obtain⟨rfl,hy⟩:=RO.val_still hfy hu
       exact fin H (hy H) hv ((isq hfy).trans hfy.symm) rfl
     | x=>rw[hfx,hfy]at hq;cases hq
     | m k=>exact both rfl rfl
     | c S=>rw[hfx,hfy]at hq;cases hq
     | r j=>exact both rfl rfl
     | w S=>exact both rfl rfl
     | f S=>exact both rfl rfl
     | s g S=>rw[hfx,hfy]at hq;cases hq
   | c S=>
     rw[hfx]at hq
     obtain⟨gx,ex⟩:=RO.flag_not (call:=call) (o:=x) (σ:=σ) (H0:=H) (by rw[hfx];simp)
     rw[hfx]at gx
     cases fy with
     | q=>
       obtain⟨rfl,hy⟩:=RO.val_still hfy hu
       exact fin H (hy H) hv ((isq hfy).trans hfy.symm) rfl
     | x=>rw[hfy]at hq;cases hq
     | m k=>rw[hfy]at hq;exact cLoc rfl rfl λi hi hm=>by simp only[Fg.has]at hi;subst hi;simp[Fg.ok,hm]at hq
     | c S=>rw[hfy]at hq;cases hq
     | w T=>rw[hfy]at hq;exact cLoc rfl rfl λi hi hm=>by simp only[Fg.has]at hi;simp only[Fg.ok,Bool.not_eq_true',List.any_eq_false,List.contains_eq_mem,decide_eq_true_eq]at hq;exact hq i hi hm
     | f k=>rw[hfy]at hq;exact cLoc rfl rfl λi hi hm=>by simp only[Fg.has]at hi;subst hi;simp[Fg.ok,hm]at hq
     | s g T=>rw[hfy]at hq;cases hq
     | r j=>
       rw[hfy]at hq
       have hne:S.contains j=false:=by simpa[Fg.ok] using hq
       obtain rfl:=RO.val_reader (rd hfy) hu
       have hv':=hv
       rw[ex]at hv'
       exact fin H (same hfy hu (dQ gx hv' j hne).symm) hv ((isr hfy).trans hfy.symm) rfl
 · exact two q1 q2
def Vi (call:Al)(ros:List RO)(fl:Nat->Fg):List Nat->Slots->Heap->Slots×Heap->Prop
 | [],σ,H,s=>(σ,H)=s
 | k::r,σ,H,s=>∃o σ' H',ros[k]?=some o/\o.run call σ H=some (σ',H')/\fl k=o.flag σ H/\Vi call ros fl r σ' H' s
theorem TD {call:Al}:∀(l pre:List RO) {σ:Slots} {H:Heap} {acc:List Fg} {σ':Slots} {H':Heap} {fl:List Fg},acc.length=pre.length->Dy call l σ H acc=some (σ',H',fl) ->
   (∃t,fl=acc++t)/\Vi call (pre++l) (λk=>(fl[k]?).getD .x) (List.range' pre.length l.length) σ H (σ',H')
 | [],pre,σ,H,acc,σ',H',fl,hl,h=>by simp only[Dy,oI,pI]at h;obtain⟨rfl,rfl,rfl⟩:=h;exact⟨⟨[],by simp⟩,rfl⟩
 | o::r,pre,σ,H,acc,σ',H',fl,hl,h=>by
  simp only[Dy]at h;split at h<;>try (cases h;done)
  rename_i σ1 H1 h1;obtain⟨⟨t,ht⟩,h2⟩:=TD r (pre++[o]) (by simp[hl]) h;have e:pre++[o]++r=pre++o::r:=by simp
  rw[e,List.length_append,List.length_singleton]at h2;refine⟨⟨o.flag σ H::t,by rw[ht];simp⟩,?_⟩;rw[List.length_cons,List.range'_succ];refine⟨o,σ1,H1,by simp,h1,?_,h2⟩;rw[ht];simp[<-hl]
theorem MF {ros:List RO}{fl:Nat->Fg}{k:Nat}{m2:List Nat}{s:Slots×Heap}:∀(m1:List Nat) {σ:Slots} {H:Heap},
   (∀i∈m1,∀x y,ros[i]?=some x->ros[k]?=some y->x.apart y=true/\((fl i).ok (fl k)=true\/(x.op.reader=true/\y.op.reader=true)))->Vi call ros fl (m1++k::m2) σ H s->Vi call ros fl (k::(m1++m2)) σ H s
 | [],σ,H,_,h=>h
 | i::m1,σ,H,hp,h=>by obtain⟨x,σ1,H1,hx,h1,f1,h⟩:=h;obtain⟨y,σ2,H2,hy,h2,f2,h⟩:=MF m1 (λj hj=>hp j (List.mem_cons_of_mem _ hj)) h;obtain⟨ha,hq⟩:=hp i (List.mem_cons_self ..) x y hx hy;rw[f1,f2]at hq;obtain⟨σ3,H3,g1,g2,g3,g4⟩:=WQ ha h1 h2 hq;exact⟨y,σ3,H3,hy,g1,by rw[f2,g3],x,σ2,H2,hx,g2,by rw[f1,g4],h⟩
end
def Nb (acc:List (List Nat)):List (List Nat)->List (List Nat)
 | []=>acc
 | a::r=>Nb (acc++[(a++a.flatMap λj=>(acc[j]?).getD []).eraseDups]) r
def Fu (l:List (List Nat))(k:Nat):List Nat:=(l[k]?).getD []
def cZ (anc:List (List Nat))(ros:List RO):List (Nat×Nat):=
 (List.range ros.length).flatMap λk=>((List.range k).filter λi => !(Fu anc k).contains i && !(((ros[i]?).map λo=>o.op.squiet).getD true) && !(((ros[k]?).map λo=>o.op.squiet).getD true) && !((((ros[i]?).map λo=>o.op.reader).getD true)&&(((ros[k]?).map λo=>o.op.reader).getD true))).map λi=>(i,k)
def RN (anc:List (List Nat))(ros:List RO)(un:List (Nat×Nat))(i k:Nat):Bool:=
 (Fu anc k).contains i||(match ros[i]?,ros[k]? with
   | some x,some y=>x.apart y&&(x.op.squiet||y.op.squiet||(x.op.reader&&y.op.reader)||un.contains (i,k))
   | _,_=>false)
def Yc (af anc:List (List Nat))(ros:List RO)(un:List (Nat×Nat)):Bool:=
 (List.range ros.length).all λk=>(Fu af k).all (λi=>decide (i<k))&&(Fu anc k).all (λi=>(Fu af k).contains i||(Fu af k).any λj=>(Fu anc j).contains i)&&(List.range k).all λi=>RN anc ros un i k
theorem Pd {o:Opn}{σ:Slots}(h:o.squiet=true):o.quiet σ=true:=by cases o<;>first|rfl|(cases h;done)|exact h
theorem NO {o:Opn}{σ:Slots}{H:Heap}(h:o.squiet=true):o.fg σ H = .q:=by unfold Opn.fg;rw[Pd h]
theorem Qe {o:RO}{σ:Slots}{H:Heap}(h:o.op.squiet=true):o.flag σ H = .q:=by
 unfold RO.flag;split;·exact NO h
 ·split
  ·split;·exact NO h
   ·rfl
  ·rfl
theorem J5 {fl:List Fg}:∀ {un:List (Nat×Nat)} {i k:Nat},Jh fl un=true->(i,k)∈un->((fl[i]?).getD .x).ok ((fl[k]?).getD .x)=true
 | (a,b)::r,i,k,h,hm=>by
  simp only[Jh,Bool.and_eq_true]at h;rcases List.mem_cons.1 hm with he|hm;·simp only[pI]at he;obtain⟨rfl,rfl⟩:=he;exact h.1
  ·exact J5 h.2 hm
theorem ABw (f:Fg):Fg.ok .q f=true/\Fg.ok f .q=true:=by cases f<;>exact⟨rfl,rfl⟩
end Go.Mir
