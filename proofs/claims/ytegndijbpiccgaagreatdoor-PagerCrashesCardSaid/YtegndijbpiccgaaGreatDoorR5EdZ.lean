import Derived.Test.YtegndijbpiccgaaGreatDoorR5EW
namespace Go.Proofs.YtegndijbpiccgaaGreatDoor.M
set_option linter.unusedVariables false
set_option linter.unusedSimpArgs false
open Go Go.Mir
def V2 (i:Int):Heap:=[(7600102,.box [aI i])]
theorem ADg (a:List Bool)(i:Int)(h0:0<=i):Runs Az 124 [aL (Bg a),.ptr 7600102 0] (V2 i) (aB (tr a i.toNat)) (V2 i):=by refine Ca (c:=c124) rfl rfl (by kernel_rfl) ?_;rewrite[V2,nP,(pC _ _ _).down];exact⟨_,(tN a i h0).up DL,rfl,rfl⟩
theorem dM:Az 158=some (.code c158):=rfl
theorem dA:Az 123=some (.code c123):=rfl
theorem uG (L:List (List Bool))(hl:Small L.length)(i:Int)(h0:0<=i):∃r:Int,decide (r>=0)=L.any (λa=>tr a i.toNat)/\Runs Az 158 [aL (TG L),.fn 124 [.ptr 7600102 0]] (V2 i) (aI r) (V2 i):=by
 have key:∃r H',Runs Az 158 [.o (.sl 1 (TG L)),.fn 124 [.ptr 7600102 0]] (V2 i) r H'/\∃k:Int,r = .n (.int .i64 k)/\H'=V2 i/\decide (k>=0)=L.any (λa=>tr a i.toNat):=by
  refine DH (R:=λr H'=>∃k:Int,r = .n (.int .i64 k)/\H'=V2 i/\decide (k>=0)=L.any (λa=>tr a i.toNat)) dM rfl (by kernel_rfl) ?_;rw[V2,rL,(lL _ _ _).down,Pn];refine⟨λk=>0<=k/\k<=L.length/\∀(j:Nat) (h:j<L.length),(j:Int)<k->tr L[j] i.toNat=false,λk=>(L.length-k).toNat,⟨rfl,by omega,by omega,λj _ hj=>by omega⟩,?_⟩;rintro k ⟨k0,k1,hok⟩ _;refine Ab (λh=>?_) (λh=>⟨-1,rfl,rfl,?_⟩)
  ·have hi:k.toNat<L.length:=by omega
   refine⟨rfl,k0,_,SN hi,_,rfl,_,ADg _ i h0,Aa (λhb=>⟨k,rfl,rfl,?_⟩) (λhb=>?_)⟩;·rw[decide_eq_true k0];exact(Jy (p:=λa:List Bool=>tr a i.toNat) hi hb).symm
   ·repeat (refine And.intro rfl ?_)
    rw[Ad _ (by omega)];exact⟨⟨by omega,by omega,Hc (p:=λa:List Bool=>tr a i.toNat) k0 hi hb hok⟩,by first|omega|(dsimp only;omega)⟩
  ·exact(Jq (p:=λa:List Bool=>tr a i.toNat) k0 h hok).symm
 obtain⟨r,H',hr,k,rfl,rfl,hk⟩:=key;exact⟨k,hk,hr⟩
theorem zX (L:List (List Bool))(hl:Small L.length)(i:Int)(h0:0<=i):Runs Az 123 [aL (TG L),.fn 124 [.ptr 7600102 0]] (V2 i) (aB (L.any λa=>tr a i.toNat)) (V2 i):=by refine Ca dA rfl (by kernel_rfl) ?_;rewrite[V2,lT,(qP _ _ _).down];obtain⟨r,hr,h⟩:=uG L hl i h0;exact⟨r,h,by rw[hr],rfl⟩
def Iz (L:List (List Bool))(r:Int):Prop:=
 (r = -1/\∀j,j<Bc L->(L.any λa=>tr a j)=true)\/0<=r/\r.toNat<Bc L/\(L.any λa=>tr a r.toNat)=false/\∀j,j<r.toNat->(L.any λa=>tr a j)=true
theorem p76 (L:List (List Bool))(hl:Small L.length)(hL:Bc L<=2048):∃r,Iz L r/\Runs Az 76 [aI 0,aL (TG L)] [] (aI r) []:=by
 have key:∃r,Runs Az 76 [.n (.int .i64 0),.o (.sl 1 (TG L))] [] r []/\∃k:Int,r = .n (.int .i64 k)/\Iz L k:=by
  refine F0 (R:=λr=>∃k:Int,r = .n (.int .i64 k)/\Iz L k) (c:=c76) rfl rfl ?_;rw[AD3,V76];refine⟨λ_ p=>0<=p.1/\p.1<=Bc L/\∀j:Nat,(j:Int)<p.1->(L.any λa=>tr a j)=true,λ_ p=>(Bc L-p.1).toNat,⟨rfl,by decide,by show Ck true 0 0<=_;simp[Ck],λj hj=>by simp[Ck]at hj;omega⟩,?_⟩;rintro _ ⟨i,_⟩ ⟨h0,h1,hok⟩ _;dsimp only at h0 h1 hok |-;refine⟨_,(uF L hl).up DL,Ab (λh=>?_) (λh=>⟨-1,rfl,.inl ⟨rfl,λj hj=>hok j (by omega)⟩⟩)⟩;refine⟨_,zX L hl i h0,Aa (λhb=>⟨i,rfl,.inr ⟨h0,by omega,by simpa using hb,λj hj=>hok j (by omega)⟩⟩) (λhb=>?_)⟩;repeat (refine And.intro rfl ?_)
  rw[Ad _ (by omega)];refine⟨⟨by omega,by omega,λj hj=>?_⟩,by first|omega|(dsimp only;omega)⟩;by_cases e:(j:Int)<i;·exact hok j e
  ·obtain rfl:j=i.toNat:=by omega
   simpa using hb
 obtain⟨r,hr,k,rfl,hk⟩:=key;exact⟨k,hk,hr⟩
theorem p77 (l:List Bool)(b:Bool)(p:Nat)(hp:p<l.length)(hl:l.length<=2048):Runs Az 77 [aL (Bg l),aB b,aL [.int .i64 p]] [] (.tup [aL (Bg (l.set p b)),aI 0]) []:=by
 refine An (c:=c77) rfl rfl ?_;rw[AGv,(ACv _ _ _ _).down,AH];refine⟨_,_,AO iY (Bg l) (by rw[AH];omega),λi r=>(i=0/\r=(0,Bg l))\/(i=1/\r=(0,Bg (l.set p b))),λi _=>(1-i).toNat,⟨rfl,.inl ⟨rfl,rfl⟩⟩,?_⟩;rintro i ⟨v,els⟩ h _;rcases h with⟨rfl,h⟩|⟨rfl,h⟩
 ·obtain⟨rfl,rfl⟩:=Prod.mk.inj h;refine Ab (λ_=>?_) (λh=>absurd (by decide:(0:Int)<1) h);refine⟨rfl,by decide,_,rfl,_,rfl,Ab (λh=>by omega) (λ_=>Ab (λh=>by omega) (λ_=>?_))⟩;dsimp only;rw[AH,show Int.toNat (p:Int)=p from rfl,Hp];refine⟨⟨rfl,rfl⟩,by omega,by omega,⟨⟨⟨rfl,rfl⟩,rfl⟩,rfl⟩,hp,?_⟩;repeat (refine And.intro rfl ?_)
  rw[Ad _ (by omega)];exact⟨.inr ⟨rfl,rfl⟩,by decide⟩
 ·obtain⟨rfl,rfl⟩:=Prod.mk.inj h;exact Ab (λh=>absurd h (by simp)) (λ_=>⟨rfl,rfl⟩)
theorem JT (a b:List Bool):Bc [a,b]=max a.length b.length:=by simp[Bc]
theorem dZ (a b:List Bool)(j:Nat):([a,b].any λx=>tr x j)=(tr a j||tr b j):=by simp
theorem Wc {w:Wd}(hw:w.base.length=w.now.length){r:Int}(h:Iz [w.base,w.now] r):match firstFree w with
   | none=>r<0
   | some b=>r=b/\b<w.now.length:=by
 have hl:Bc [w.base,w.now]=w.now.length:=by rw[JT,hw];exact Nat.max_self _
 have hf:∀j,AY w j = !([w.base,w.now].any λx=>tr x j):=λj=>by rw[dZ,AY];cases tr w.base j<;>cases tr w.now j<;>rfl
 unfold Iz at h
 rw[hl]at h
 cases hx:firstFree w with
 | none=>
  have hn:=Ho hx
  rcases h with⟨h1,_⟩|⟨h0,h1,h2,_⟩
  ·dsimp only;omega
  ·have:=hn r.toNat h1
   rw[hf,h2]at this
   cases this
 | some b=>
  obtain⟨k1,k2,k3⟩:=DC hx
  refine⟨?_,k1⟩
  rcases h with⟨_,h2⟩|⟨h0,h1,h2,h3⟩
  ·have:=h2 b k1
   rw[hf,this]at k2
   cases k2
  ·rcases Nat.lt_trichotomy r.toNat b with h|h|h
   ·have:=k3 _ h
    rw[hf,h2]at this
    cases this
   ·omega
   ·have:=h3 _ h
    rw[hf,this]at k2
    cases k2
def sN:AV := .agg [aL [],aL []]
theorem p34 (w:Wd)(h:Ce w.base w.now):Runs Az 34 [Kt w.base w.now] [] (match firstFree w with
   | none => .tup [sN,aI 0,aI 60]
   | some b => .tup [Kt w.base (w.now.set b true),aI b,aI 0]) []:=by
 have h1:=h.1
 have h2:=h.2.2.1
 have g:=(p75 w.base w.now (by omega) (by omega)).up DL
 rw[decide_eq_true h]at g
 obtain⟨r,hr,g2⟩:=p76 [w.base,w.now] (by simp) (by rw[JT];omega)
 have hf:=Wc h1 hr
 refine An (c:=c34) rfl rfl ?_
 rw[Kt,AC8,(AFo _ _ _).down]
 refine⟨_,g,Aa (λh=>by cases h) (λ_=>⟨rfl,_,g2,?_⟩)⟩
 cases hx:firstFree w with
 | none=>
  rw[hx]at hf
  exact Ab (λ_=>rfl) (λh=>absurd hf h)
 | some b=>
  rw[hx]at hf
  obtain⟨rfl,hb⟩:=hf
  exact Ab (λh=>by omega) (λ_=>⟨rfl,_,_,p77 w.now true b hb h2,rfl⟩)
theorem p59 (a b:List Bool)(h:Ce a b)(p:Int):Runs Az 59 [Kt a b,aL [.int .i64 p]] [] (if p<10\/p>=b.length\/tr b p.toNat=false then .tup [sN,aI 30] else .tup [Kt a (b.set p.toNat false),aI 0]) []:=by
 have h1:=h.1;have h2:=h.2.2.1;have g:=(p75 a b (by omega) (by omega)).up DL;rw[decide_eq_true h]at g;refine An (c:=c59) rfl rfl ?_;rw[Kt,AFj,(ADK _ _ _ _).down];refine⟨_,g,Aa (λh=>by cases h) (λ_=>⟨_,_,AO iY (Bg b) (by rw[AH];omega),?_⟩)⟩;refine⟨λi _ r=>(i=0/\r=(0,Bg b))\/(i=1/\r=(0,Bg (b.set p.toNat false))/\¬(p<10\/p>=b.length\/tr b p.toNat=false)),λi _ _=>(1-i).toNat,⟨rfl,.inl ⟨rfl,rfl⟩⟩,?_⟩;rintro i _ ⟨v,els⟩ h _;rcases h with⟨rfl,h⟩|⟨rfl,h,hok⟩
 ·obtain⟨rfl,rfl⟩:=Prod.mk.inj h;refine Ab (λ_=>?_) (λh=>absurd (by decide:(0:Int)<1) h);refine⟨rfl,by decide,_,rfl,_,rfl,Ab (λh=>by rw[if_pos (.inl h)];rfl) (λk1=>⟨rfl,?_⟩)⟩;dsimp only;rw[AH];refine Ab (λh=>by rw[if_pos (.inr (.inl h))];rfl) (λk2=>?_);have hp:p.toNat<b.length:=by omega
  refine⟨⟨rfl,rfl⟩,by omega,by omega,⟨rfl,rfl⟩,_,Cg hp,_,rfl,?_⟩;rw[<-DN hp];refine Aa (λh=>by rw[if_pos (.inr (.inr (by simpa using h)))];rfl) (λk3=>?_);rw[Hp];refine⟨⟨rfl,rfl⟩,by omega,by omega,⟨⟨⟨rfl,rfl⟩,rfl⟩,rfl⟩,hp,?_⟩;repeat (refine And.intro rfl ?_)
  rw[Ad _ (by omega)];exact⟨.inr ⟨rfl,rfl,by
   rintro(h|h|h);·exact k1 h
   ·exact k2 h
   ·rw[h]at k3;cases k3⟩,by decide⟩
 ·obtain⟨rfl,rfl⟩:=Prod.mk.inj h;rw[if_neg hok];exact Ab (λh=>absurd h (by simp)) (λ_=>⟨rfl,rfl⟩)
theorem Qc (n:Int)(s:Nat):Cy (be n s)=NN (CT n s):=by rw[Cy,Ew,NN]
theorem S7 (A:List UInt8)(t:bA):MQ [NN A,t]=NN (A++t.data.toList):=AQ (by rw[G4,FR];simp[NN])
theorem NZ (a b:bA):Ef [a,b]=a.size+b.size:=by simp[Ef]
def oW (A:List UInt8):Heap:=[(17300307,.box [aS (NN A)])]
theorem qS (A:List UInt8)(s:bA)(hs:s.size<=65535)(hA:A.length<=1000000):Runs Az 196 [aS s,.ptr 17300307 0] (oW A) (.tup []) (oW (A++MJ s)):=by have g:=((p80 s).up E4).up DL;rw[PU hs]at g;refine D8 ABZ rfl (by kernel_rfl) ?_;rw[oW,jB,fQ];have g2:=((mA [NN A,Dl s] (by simp) (by rw[NZ,Fy,DQ];omega)).up E4).up DL;refine⟨_,_,g,rfl,_,g2,rfl,?_⟩;rw[S7,DX];rfl
theorem Rr:∀(ks vs:List bA) (k v:bA),vs.length=ks.length->K6 (ks++[k]) (vs++[v])=K6 ks vs++(MJ k++MJ v)
 | [],[],k,v,_=>by simp[K6]
 | [],_::_,_,_,h=>by simp at h
 | _::_,[],_,_,h=>by simp at h
 | a::ks,b::vs,k,v,h=>by have:=Rr ks vs k v (by simpa using h);simp only[List.cons_append,K6,this,List.append_assoc]
theorem PD:∀(bs:List Int) (ks:List bA) (b:Int) (k:bA),bs.length=ks.length->J3 (bs++[b]) (ks++[k])=J3 bs ks++(CT b 2++MJ k)
 | [],[],b,k,_=>by simp[J3]
 | [],_::_,_,_,h=>by simp at h
 | _::_,[],_,_,h=>by simp at h
 | a::bs,c::ks,b,k,h=>by have:=PD bs ks b k (by simpa using h);simp only[List.cons_append,J3,this,List.append_assoc]
theorem Qa:∀(bs:List Int) (ks:List bA) (b:Int),bs.length=ks.length->J3 (bs++[b]) ks=J3 bs ks++CT b 2
 | [],[],b,_=>by simp[J3]
 | [],_::_,_,h=>by simp at h
 | _::_,[],_,h=>by simp at h
 | a::bs,c::ks,b,h=>by have:=Qa bs ks b (by simpa using h);simp only[List.cons_append,J3,this,List.append_assoc]
theorem UX {ks vs:List bA}(i:Nat)(hk:∀k∈ks,k.size<=32)(hv:∀v∈vs,v.size<=200)(h:i<=9):(K6 (ks.take i) (vs.take i)).length<=2124:=by
 have:=OA (ks.take i) (vs.take i) (λx hx=>hk x (List.mem_of_mem_take hx)) (λx hx=>hv x (List.mem_of_mem_take hx));have h2:(ks.take i).length<=9:=by rw[List.length_take];omega
 omega
theorem Uw {bs:List Int}{ks:List bA}(i:Nat)(hk:∀k∈ks,k.size<=32)(h:ks.length<=9):(J3 (bs.take i) (ks.take i)).length<=326:=by
 have:=Pg (bs.take i) (ks.take i) (λx hx=>hk x (List.mem_of_mem_take hx));have h2:(ks.take i).length<=9:=by rw[List.length_take];omega
 omega
noncomputable def Qz (n:Nd):AV:=if NdOK n true then .tup [aS (Ds n),aI 0] else .tup [aS (ByteArray.mk (List.toArray [])),aI 1]
theorem AGE (n:Nd)(hf:Bt n):Runs Az 173 [CU n] [] (Qz n) []:=by
 have g:=(VS n true hf).up DL;refine An (c:=c173) rfl rfl ?_;rw[CU,vH,(AAi _ _ _ _ _).down,Am,Aw];refine⟨_,g,?_⟩;by_cases hok:NdOK n true
 ·rw[decide_eq_true hok,Qz,if_pos hok];obtain⟨hs,h8,_⟩:=hok;have hks:=IW hs.2.1;have g1:=((DV (n.keys.length:Int) 1 (by omega) (by omega) (by omega) (by rw[show(256:Int) ^ (1:Int).toNat=256 by decide];omega)).up E4).up DL;rw[qG,show(1:Int).toNat=1 from rfl,Qc]at g1;have hb1:(CT (n.keys.length:Int) 1).length=1:=Ap _ _;refine Aa (λh=>by cases h) (λ_=>⟨_,_,g1,?_⟩);refine Aa (λhl=>?_) (λhl=>?_)
  ·have hv:n.vals.length=n.keys.length/\∀v∈n.vals,v.size<=200:=by
    rcases hs.2.2 with⟨_,_,h2,h3⟩|⟨h,_⟩
    ·exact⟨h2,h3⟩
    ·rw[hl]at h;cases h
   refine⟨λi p=>0<=i/\i<=n.keys.length/\p.1=NN (CT (n.keys.length:Int) 1++K6 (n.keys.take i.toNat) (n.vals.take i.toNat)),λi _=>(n.keys.length-i).toNat,⟨rfl,by omega,by omega,by simp[K6]⟩,?_⟩;rintro i ⟨o,_⟩ ⟨h0,h1,rfl⟩ _;dsimp only;refine Ab (λhlt=>?_) (λhge=>?_)
   ·have hi:i.toNat<n.keys.length:=by omega
    have hj:i.toNat<n.vals.length:=by omega
    have hsm:=UX (ks:=n.keys) (vs:=n.vals) i.toNat (λk hk=>(hks k hk).2) hv.2 (by omega);have hk1:=(hks _ (List.getElem_mem hi)).2;have hv1:=hv.2 _ (List.getElem_mem hj);have c1:=qS (CT (n.keys.length:Int) 1++K6 (n.keys.take i.toNat) (n.vals.take i.toNat)) n.keys[i.toNat] (by omega) (by rw[List.length_append];omega);have c2:=qS (CT (n.keys.length:Int) 1++K6 (n.keys.take i.toNat) (n.vals.take i.toNat)++MJ n.keys[i.toNat]) n.vals[i.toNat] (by omega) (by simp only[List.length_append,MJ,Ap,Ao];omega);refine⟨rfl,h0,_,AZ hi,_,rfl,_,c1,rfl,h0,_,AZ hj,_,rfl,_,c2,?_⟩;repeat (refine And.intro rfl ?_)
    rw[Ad _ (by omega)];refine⟨⟨by omega,by omega,?_⟩,by first|omega|(dsimp only;omega)⟩;rw[show(i+1).toNat=i.toNat+1 by omega,A3 hi,A3 hj,Rr _ _ _ _ (by rw[List.length_take,List.length_take];omega)];simp only[List.append_assoc]
   ·rw[List.take_of_length_le (by omega),List.take_of_length_le (by omega),Ds,Gi,hl];rfl
  ·have hv:n.kids.length=n.keys.length+1/\∀b∈n.kids,10<=b/\b<2048:=by
    rcases hs.2.2 with⟨h,_⟩|⟨_,_,_,h2,h3⟩
    ·rw[hl]at h;cases h
    ·exact⟨h2,h3⟩
   refine⟨λi p=>0<=i/\i<=n.kids.length/\p.1=NN (CT (n.keys.length:Int) 1++J3 (n.kids.take i.toNat) (n.keys.take i.toNat)),λi _=>(n.kids.length-i).toNat,⟨rfl,by omega,by omega,by simp[J3]⟩,?_⟩;rintro i ⟨o,_⟩ ⟨h0,h1,rfl⟩ _;dsimp only;refine Ab (λhlt=>?_) (λhge=>?_)
   ·have hi:i.toNat<n.kids.length:=by omega
    have hb:=hv.2 _ (List.getElem_mem hi);have hsm:=Uw (bs:=n.kids) (ks:=n.keys) i.toNat (λk hk=>(hks k hk).2) (by omega);have c1:=((DV n.kids[i.toNat] 2 (by omega) (by omega) (by omega) (by rw[show(256:Int) ^ (2:Int).toNat=65536 by decide];omega)).up E4).up DL;rw[qG,show(2:Int).toNat=2 from rfl,Qc]at c1;have c2:=((mA [NN (CT (n.keys.length:Int) 1++J3 (n.kids.take i.toNat) (n.keys.take i.toNat)),NN (CT n.kids[i.toNat] 2)] (by simp) (by rw[NZ,Fy,Fy,List.length_append,Ap,Ap];omega)).up E4).up DL;rw[S7,FR]at c2;refine⟨rfl,h0,_,Eb hi,_,rfl,_,_,c1,rfl,_,c2,Ab (λhk=>?_) (λhk=>?_)⟩
    ·have hj:i.toNat<n.keys.length:=by omega
     have hk1:=(hks _ (List.getElem_mem hj)).2;have c3:=qS (CT (n.keys.length:Int) 1++J3 (n.kids.take i.toNat) (n.keys.take i.toNat)++CT n.kids[i.toNat] 2) n.keys[i.toNat] (by omega) (by simp only[List.length_append,Ap];omega);refine⟨rfl,h0,_,AZ hj,_,rfl,_,c3,?_⟩;repeat (refine And.intro rfl ?_)
     rw[Ad _ (by omega)];refine⟨⟨by omega,by omega,?_⟩,by first|omega|(dsimp only;omega)⟩;rw[show(i+1).toNat=i.toNat+1 by omega,A3 hi,A3 hj,PD _ _ _ _ (by rw[List.length_take,List.length_take];omega)];simp only[List.append_assoc]
    ·repeat (refine And.intro rfl ?_)
     rw[Ad _ (by omega)];refine⟨⟨by omega,by omega,?_⟩,by first|omega|(dsimp only;omega)⟩;have e1:n.keys.take i.toNat=n.keys:=List.take_of_length_le (by omega);have e2:n.keys.take (i.toNat+1)=n.keys:=List.take_of_length_le (by omega);rw[show(i+1).toNat=i.toNat+1 by omega,A3 hi,e2,Qa _ _ _ (by rw[List.length_take];omega),e1];simp only[List.append_assoc]
   ·rw[List.take_of_length_le (by omega),List.take_of_length_le (by omega),Ds,Gi,hl];rfl
 ·rw[decide_eq_false hok,Qz,if_neg hok];exact Aa (λ_=>rfl) (λh=>by cases h)
def fl (L:List (List D)):List D:=L.flatten
theorem KQ {L:List (List D)}{i:Nat}(h:i<L.length):(L.take (i+1)).flatten=(L.take i).flatten++L[i]:=by rw[A3 h,List.flatten_append,List.flatten_cons,List.flatten_nil,List.append_nil]
theorem J1 {L:List (List D)}(i:Nat):(L.take i).flatten.length<=L.flatten.length:=by
 have:L.flatten=(L.take i).flatten++(L.drop i).flatten:=by rw[<-List.flatten_append,List.take_append_drop]
 rw[this,List.length_append];omega
theorem oF (L:List (List D))(h1:L.length<=100)(h2:L.flatten.length<=100000):Runs Az 227 [aL (L.map (D.sl 1))] [] (aL L.flatten) []:=by
 have hat:∀ {i:Nat} (h:i<L.length),(L.map (D.sl 1))[i]?=some (.sl 1 L[i]):=λ{i} h=>by simp[h]
 have hlen:(L.map (D.sl 1)).length=L.length:=by simp
 refine An (c:=c227) rfl rfl ?_;rw[wQ,(yV _ _).down,hlen];refine⟨λs i=>0<=i/\i<=L.length/\s=((L.take i.toNat).flatten.length:Nat),λ_ i=>(L.length-i).toNat,⟨rfl,by omega,by omega,rfl⟩,?_⟩;rintro s i ⟨h0,hi,rfl⟩ _;have hle:=J1 (L:=L) i.toNat;refine Ab (λhlt=>?_) (λhge=>?_)
 ·have hi':i.toNat<L.length:=by omega
  have hle':=J1 (L:=L) (i.toNat+1);have e:=KQ hi';have e':(L.take (i.toNat+1)).flatten.length=(L.take i.toNat).flatten.length+L[i.toNat].length:=by rw[e,List.length_append]
  refine⟨rfl,h0,_,hat hi',_,rfl,?_⟩;rw[Ad _ (by omega),Ad _ (by omega)];refine Ab (λh=>by omega) (λ_=>?_);repeat (refine And.intro rfl ?_)
  refine⟨⟨by omega,by omega,?_⟩,by first|omega|(dsimp only;omega)⟩;rw[show(i+1).toNat=i.toNat+1 by omega,e'];omega
 ·refine⟨_,_,NL wM _ (by omega),λv i r=>0<=i/\i<=L.length/\r.1=v/\r.2=(L.take i.toNat).flatten,λ_ i _=>(L.length-i).toNat,⟨rfl,by omega,by omega,rfl,rfl⟩,?_⟩;rintro v i ⟨v',els⟩ ⟨h0,hi,rfl,rfl⟩ _;dsimp only;have hle:=J1 (L:=L) i.toNat;refine Ab (λhlt=>?_) (λhge=>?_)
  ·have hi':i.toNat<L.length:=by omega
   have hle':=J1 (L:=L) (i.toNat+1);have e:=KQ hi';have e':(L.take (i.toNat+1)).flatten.length=(L.take i.toNat).flatten.length+L[i.toNat].length:=by rw[e,List.length_append]
   refine⟨rfl,h0,_,hat hi',_,rfl,.inl rfl,⟨⟨rfl,rfl⟩,rfl⟩,by omega,?_⟩;repeat (refine And.intro rfl ?_)
   rw[Ad _ (by omega)];refine⟨⟨by omega,by omega,rfl,?_⟩,by first|omega|(dsimp only;omega)⟩;rw[show(i+1).toNat=i.toNat+1 by omega,e]
  ·refine⟨rfl,?_⟩;rw[List.take_of_length_le (by omega)]
theorem tY (L:List (List D))(h1:L.length<=100)(h2:L.flatten.length<=100000):Runs Az 228 [aL (L.map (D.sl 1))] [] (aL L.flatten) []:=by
 have hat:∀ {i:Nat} (h:i<L.length),(L.map (D.sl 1))[i]?=some (.sl 1 L[i]):=λ{i} h=>by simp[h]
 have hlen:(L.map (D.sl 1)).length=L.length:=by simp
 refine An (c:=c228) rfl rfl ?_;rw[xX,(vM _ _).down,hlen];refine⟨λs i=>0<=i/\i<=L.length/\s=((L.take i.toNat).flatten.length:Nat),λ_ i=>(L.length-i).toNat,⟨rfl,by omega,by omega,rfl⟩,?_⟩;rintro s i ⟨h0,hi,rfl⟩ _;have hle:=J1 (L:=L) i.toNat;refine Ab (λhlt=>?_) (λhge=>?_)
 ·have hi':i.toNat<L.length:=by omega
  have hle':=J1 (L:=L) (i.toNat+1);have e:=KQ hi';have e':(L.take (i.toNat+1)).flatten.length=(L.take i.toNat).flatten.length+L[i.toNat].length:=by rw[e,List.length_append]
  refine⟨rfl,h0,_,hat hi',_,rfl,?_⟩;rw[Ad _ (by omega),Ad _ (by omega)];refine Ab (λh=>by omega) (λ_=>?_);repeat (refine And.intro rfl ?_)
  refine⟨⟨by omega,by omega,?_⟩,by first|omega|(dsimp only;omega)⟩;rw[show(i+1).toNat=i.toNat+1 by omega,e'];omega
 ·refine⟨_,_,NL xD _ (by omega),λv i r=>0<=i/\i<=L.length/\r.1=v/\r.2=(L.take i.toNat).flatten,λ_ i _=>(L.length-i).toNat,⟨rfl,by omega,by omega,rfl,rfl⟩,?_⟩;rintro v i ⟨v',els⟩ ⟨h0,hi,rfl,rfl⟩ _;dsimp only;have hle:=J1 (L:=L) i.toNat;refine Ab (λhlt=>?_) (λhge=>?_)
  ·have hi':i.toNat<L.length:=by omega
   have hle':=J1 (L:=L) (i.toNat+1);have e:=KQ hi';have e':(L.take (i.toNat+1)).flatten.length=(L.take i.toNat).flatten.length+L[i.toNat].length:=by rw[e,List.length_append]
   refine⟨rfl,h0,_,hat hi',_,rfl,.inl rfl,⟨⟨rfl,rfl⟩,rfl⟩,by omega,?_⟩;repeat (refine And.intro rfl ?_)
   rw[Ad _ (by omega)];refine⟨⟨by omega,by omega,rfl,?_⟩,by first|omega|(dsimp only;omega)⟩;rw[show(i+1).toNat=i.toNat+1 by omega,e]
  ·refine⟨rfl,?_⟩;rw[List.take_of_length_le (by omega)]
theorem qM (L:List (List D))(h1:L.length<=100)(h2:L.flatten.length<=100000):Runs Az 223 [aL (L.map (D.sl 1))] [] (aL L.flatten) []:=by refine An (c:=c223) rfl rfl ?_;rw[yJ,AA1];exact⟨_,oF L h1 h2,rfl⟩
theorem ABF (L:List (List D))(h1:L.length<=100)(h2:L.flatten.length<=100000):Runs Az 224 [aL (L.map (D.sl 1))] [] (aL L.flatten) []:=by refine An (c:=c224) rfl rfl ?_;rw[tI,AAu];exact⟨_,tY L h1 h2,rfl⟩
theorem Og (a b:List bA):AG (a++b)=AG a++AG b:=by simp[AG]
theorem YC (a b:List Int):il (a++b)=il a++il b:=by simp[il]
theorem KN (l:List bA)(n:Nat):(AG l).drop n=AG (l.drop n):=by simp[AG,List.map_drop]
theorem TU (l:List Int)(n:Nat):(il l).drop n=il (l.drop n):=by simp[il,List.map_drop]
theorem Un (l:List bA)(n:Nat):(AG l).take n=AG (l.take n):=by simp[AG,List.map_take]
theorem fS (l:List Int)(n:Nat):(il l).take n=il (l.take n):=by simp[il,List.map_take]
theorem JO (a:List bA)(h:a.length<=1000):Runs Az 223 [aL [.sl 1 (AG a)]] [] (aL (AG a)) []:=by have:=qM [AG a] (by simp) (by simp[Am];omega);simpa using this
theorem Wt (a:List Int)(h:a.length<=1000):Runs Az 224 [aL [.sl 1 (il a)]] [] (aL (il a)) []:=by have:=ABF [il a] (by simp) (by simp[Aw];omega);simpa using this
theorem YX (a b:List bA)(h:a.length+b.length<=1000):Runs Az 223 [aL [.sl 1 (AG a),.sl 1 (AG b)]] [] (aL (AG (a++b))) []:=by have:=qM [AG a,AG b] (by simp) (by simp[Am];omega);simpa[Og] using this
theorem jW (a b:List Int)(h:a.length+b.length<=1000):Runs Az 224 [aL [.sl 1 (il a),.sl 1 (il b)]] [] (aL (il (a++b))) []:=by have:=ABF [il a,il b] (by simp) (by simp[Aw];omega);simpa[YC] using this
theorem jI (a b c:List bA)(h:a.length+b.length+c.length<=1000):Runs Az 223 [aL [.sl 1 (AG a),.sl 1 (AG b),.sl 1 (AG c)]] [] (aL (AG (a++(b++c)))) []:=by have:=qM [AG a,AG b,AG c] (by simp) (by simp[Am];omega);simpa[Og] using this
noncomputable def U5 (n:Nd):AV:=if Au n/\n.keys.length=9 then .tup [CU (EO n),aS (Kh n),CU (Gv n),aI 0] else .tup [CU Gu,aS (ByteArray.mk (List.toArray [])),CU Gu,aI 1]
theorem AGn (n:Nd)(hf:Bt n):Runs Az 199 [CU n] [] (U5 n) []:=by
 have g:=(R8 n hf).up DL;refine An (c:=c199) rfl rfl ?_;rw[CU,tG,(yH _ _ _ _ _).down,Am,Am,Aw];refine⟨_,g,?_⟩;by_cases hs:Au n
 ·rw[decide_eq_true hs];refine Aa (λh=>by cases h) (λ_=>Aa (λh=>?_) (λh=>?_))
  ·rw[U5,if_neg];·rfl
   ·rintro⟨_,h9⟩;rw[h9]at h;simp at h
  ·have h9:n.keys.length=9:=by
    have:(n.keys.length:Int)=9:=by simpa using h
    omega
   rw[U5,if_pos ⟨hs,h9⟩];have hk4:4<n.keys.length:=by omega
   have ek:Kh n=n.keys[4]:=by rw[Kh,gI hk4];rfl
   refine⟨rfl,by decide,_,AZ hk4,_,rfl,?_⟩;rw[show Int.toNat 4=4 from rfl,show Int.toNat 5=5 from rfl];simp only[List.drop_zero,List.take_length,Un,KN,fS,TU];refine Aa (λhl=>?_) (λhl=>?_)
   ·have hv:n.vals.length=9:=by
     rcases hs.2.2 with⟨_,_,h2,_⟩|⟨h,_⟩
     ·omega
     ·rw[hl]at h;cases h
    refine⟨trivial,by decide,by omega,trivial,_,JO _ (by rw[List.length_take];omega),trivial,by decide,by omega,trivial,_,JO _ (by rw[List.length_take];omega),trivial,by decide,by omega,trivial,_,JO _ (by rw[List.length_drop];omega),trivial,by decide,by omega,trivial,_,JO _ (by rw[List.length_drop];omega),?_⟩;rw[ek,EO,Gv,hl];rfl
   ·have hv:n.kids.length=10:=by
     rcases hs.2.2 with⟨h,_⟩|⟨_,_,_,h2,_⟩
     ·rw[hl]at h;cases h
     ·omega
    refine⟨trivial,by decide,by omega,trivial,_,JO _ (by rw[List.length_take];omega),trivial,by decide,by omega,trivial,_,Wt _ (by rw[List.length_take];omega),trivial,by decide,by omega,trivial,_,JO _ (by rw[List.length_drop];omega),trivial,by decide,by omega,trivial,_,Wt _ (by rw[List.length_drop];omega),?_⟩;rw[ek,EO,Gv,hl];rfl
 ·rw[decide_eq_false hs,U5,if_neg λh=>hs h.1];exact Aa (λ_=>rfl) (λh=>by cases h)
noncomputable def I2 (a:Nd)(k:bA)(b:Nd):AV:=
 if Au a/\Au b/\a.leaf=b.leaf/\Au (Aq a k b) then .tup [CU (Aq a k b),aI 0] else .tup [CU Gu,aI 1]
theorem FW {n:Nd}(hs:Au n)(hl:n.leaf=true):n.kids=[]/\n.vals.length=n.keys.length:=by
 rcases hs.2.2 with⟨_,h1,h2,_⟩|⟨h,_⟩
 ·exact⟨h1,h2⟩
 ·rw[hl]at h;cases h
theorem EH {n:Nd}(hs:Au n)(hl:n.leaf=false):n.vals=[]/\n.kids.length=n.keys.length+1:=by
 rcases hs.2.2 with⟨h,_⟩|⟨_,h1,_,h2,_⟩
 ·rw[hl]at h;cases h
 ·exact⟨h1,h2⟩
theorem He {n:Nd}(hs:Au n):n.keys.length<=9/\n.vals.length<=9/\n.kids.length<=10:=by
 have h9:=hs.1
 cases hl:n.leaf with
 | true=> obtain⟨h1,h2⟩:=FW hs hl;rw[h1];exact⟨by omega,by omega,by simp⟩
 | false=> obtain⟨h1,h2⟩:=EH hs hl;rw[h1];exact⟨by omega,by simp,by omega⟩
theorem ABO (a:Nd)(k:bA)(b:Nd)(hfa:Bt a)(hfb:Bt b):Runs Az 206 [CU a,aS k,CU b] [] (I2 a k b) []:=by
 have ga:=(R8 a hfa).up DL;have gb:=(R8 b hfb).up DL;refine An (c:=c206) rfl rfl ?_;rw[CU,CU,tC,(tD _ _ _ _ _ _ _ _ _ _).down];have no:¬(Au a/\Au b/\a.leaf=b.leaf/\Au (Aq a k b))->(.tup [.agg [.n (.bool false),.o (.sl 1 []),.o (.sl 1 []),.o (.sl 1 [])],.n (.int .i64 1)]:AV)=I2 a k b:=λh=>by rw[I2,if_neg h];rfl
 refine⟨_,ga,?_⟩;by_cases ha:Au a
 ·rw[decide_eq_true ha];refine Aa (λh=>by cases h) (λ_=>⟨_,gb,?_⟩);by_cases hb:Au b
  ·rw[decide_eq_true hb];refine Aa (λh=>by cases h) (λ_=>Aa (λh=>no λh2=>?_) (λh=>?_));·rw[h2.2.2.1]at h;simp at h
   ·have hab:a.leaf=b.leaf:=by simpa using h
    obtain⟨a1,a2,a3⟩:=He ha;obtain⟨b1,b2,b3⟩:=He hb;have c1:=YX a.keys b.keys (by omega);have c2:=YX a.vals b.vals (by omega);have c3:=jW a.kids b.kids (by omega);refine⟨rfl,_,c1,rfl,_,c2,rfl,_,c3,Aa (λhl=>?_) (λhl=>?_)⟩
    ·have hl:a.leaf=false:=by simpa using hl
     obtain⟨x1,x2⟩:=EH ha hl;obtain⟨y1,y2⟩:=EH hb (hab▸hl);have c4:=jI a.keys [k] b.keys (by simp;omega);have ej:Aq a k b=⟨a.leaf,a.keys++([k]++b.keys),a.vals++b.vals,a.kids++b.kids⟩:=by rw[Aq,if_neg (by rw[hl];simp),x1,y1,hl];rfl
     have gj:=(R8 (Aq a k b) (by rw[ej];exact⟨by simp;omega,by simp;omega,by simp;omega⟩)).up DL;rw[ej,CU]at gj;refine⟨rfl,_,c4,_,gj,?_⟩;by_cases hj:Au (Aq a k b);·rw[<-ej,decide_eq_true hj];refine Aa (λh=>by cases h) (λ_=>?_);rw[I2,if_pos ⟨ha,hb,hab,hj⟩,ej];rfl
     ·rw[<-ej,decide_eq_false hj];exact Aa (λ_=>no λh=>hj h.2.2.2) (λh=>by cases h)
    ·have hl:a.leaf=true:=by simpa using hl
     obtain⟨x1,x2⟩:=FW ha hl;obtain⟨y1,y2⟩:=FW hb (hab▸hl);have ej:Aq a k b=⟨a.leaf,a.keys++b.keys,a.vals++b.vals,a.kids++b.kids⟩:=by rw[Aq,if_pos hl,x1,y1,hl];rfl
     have gj:=(R8 (Aq a k b) (by rw[ej];exact⟨by simp;omega,by simp;omega,by simp;omega⟩)).up DL;rw[ej,CU]at gj;refine⟨_,gj,?_⟩;by_cases hj:Au (Aq a k b);·rw[<-ej,decide_eq_true hj];refine Aa (λh=>by cases h) (λ_=>?_);rw[I2,if_pos ⟨ha,hb,hab,hj⟩,ej];rfl
     ·rw[<-ej,decide_eq_false hj];exact Aa (λ_=>no λh=>hj h.2.2.2) (λh=>by cases h)
  ·rw[decide_eq_false hb];exact Aa (λ_=>no λh=>hb h.2.1) (λh=>by cases h)
 ·rw[decide_eq_false ha];exact Aa (λ_=>no λh=>ha h.1) (λh=>by cases h)
theorem Cv {w:Wd}(h:WRight w):WFits w:=by obtain⟨⟨h1,_,h2,_⟩,h3,_,_,_,h4⟩:=h;exact⟨by omega,by omega,by omega,λx hx=>by have:=h4 x hx;omega⟩
def jC (x:Wd×Int):AV := .tup [EA x.1,aI x.2]
def ZM (e:Ed)(v:Nat)(fz:Bool):Heap:=[(14800202,.box [aL (Bg e.w.base),aL (Bg e.w.now),.row 14850102 v,aI e.w.root,aI e.w.gen,aI e.bad]),(14850102,.row fz false v 9 1 (AG e.w.pages))]
def hE (e:Ed)(v:Nat):Heap:=ZM e v false
theorem uW (w:Wd)(hp:w.pages.length<=100000):Runs Az 148 [EA w] [] (.ptr 14800202 0) (hE ⟨w,0⟩ 0):=by
 have key:∃r H',Runs Az 148 [EA w] [] r H'/\r = .ptr 14800202 0/\H'=hE ⟨w,0⟩ 0:=by refine O1 (R:=λr H'=>r = .ptr 14800202 0/\H'=hE ⟨w,0⟩ 0) (c:=c148) rfl rfl ?_;rw[EA,mQ,(jL _ _ _ _ _ _).down];exact⟨_,_,(((AO HL (AG w.pages) (by rw[Am];omega)).up E4).up DL),rfl,rfl⟩
 obtain⟨r,H',h,rfl,rfl⟩:=key;exact h
theorem aV (e:Ed)(v:Nat)(hw:WRight e.w)(b d:Int):Runs Az 174 [.ptr 14800202 0,aI b,aI d] (hE e v) (ndN (AI e b d).1) (hE (AI e b d).2 v):=by
 have g:=(vA e.w (Cv hw) b (d==1)).up DL;rw[Qw,if_pos hw]at g;refine D8 yG rfl (by kernel_rfl) ?_;unfold hE ZM;rw[kO,(qV _ _ _ _ _ _ _ _ _ _).down];refine Aa (λh=>?_) (λh=>⟨rfl,?_⟩);·rw[AI,if_pos (by simpa using h)];exact⟨rfl,rfl⟩
 ·have hb:¬(e.bad≠0):=by simpa using h
  rw[AI,if_neg hb]
  cases hh:Aj e.w b (d==1) with
  | none=> rw[hh]at g;exact⟨_,_,_,_,_,g,Aa (λ_=>⟨rfl,rfl⟩) (λh=>by simp at h)⟩
  | some n=>
   rw[hh]at g;refine⟨_,_,_,_,_,g,Aa (λh=>by simp at h) (λ_=>Ab (λh=>?_) (λh=>?_))⟩;·dsimp only;rw[if_pos h];exact⟨rfl,rfl⟩
   ·dsimp only;rw[if_neg h];exact⟨rfl,rfl⟩
theorem cV (e:Ed)(v:Nat)(hw:WRight e.w)(b:Int):Runs Az 175 [.ptr 14800202 0,aI b] (hE e v) (.tup []) (hE (B7 e b) v):=by
 have g:=p59 e.w.base e.w.now hw.1 b;refine D8 AAR rfl (by kernel_rfl) ?_;unfold hE ZM;rw[nF,(nM _ _ _ _ _ _ _ _ _).down];refine Aa (λh=>?_) (λh=>⟨rfl,?_⟩);·rw[B7,if_pos (by simpa using h)];exact⟨rfl,rfl⟩
 ·rw[B7,if_neg (by simpa using h)];by_cases hc:b<10\/b>=e.w.now.length\/tr e.w.now b.toNat=false;·rw[if_pos hc]at g |-;exact⟨_,_,_,g,Aa (λ_=>⟨rfl,rfl⟩) (λh=>by simp at h)⟩
  ·rw[if_neg hc]at g |-;exact⟨_,_,_,g,Aa (λh=>by simp at h) (λ_=>⟨rfl,rfl⟩)⟩
theorem Fe (l:List bA)(i:Nat)(x:bA):(AG l).set i (.str x)=AG (l.set i x):=by simp[AG,List.map_set]
theorem D9 (l:List Int)(i:Nat)(x:Int):(il l).set i (.int .i64 x)=il (l.set i x):=by simp[il,List.map_set]
theorem JQ (e:Ed)(v:Nat)(hw0:e.bad=0->WRight e.w)(n:Nd)(hf:Bt n):Runs Az 149 [.ptr 14800202 0,CU n] (hE e v) (aI (Ag e n).1) (hE (Ag e n).2 v):=by
 have g1:=AGE n hf;refine D8 AB4 rfl (by kernel_rfl) ?_;unfold hE ZM;rw[CU,kZ,(mY _ _ _ _ _ _ _ _ _ _ _ _).down,Am];refine Aa (λh=>?_) (λh=>?_);·rw[Ag,if_pos (by simpa using h)];exact⟨rfl,rfl⟩
 ·have hb:¬(e.bad≠0):=by simpa using h
  rw[Ag,if_neg hb];have hw:=hw0 (by simpa using hb);have g3:=p34 e.w hw.1;have hgen:1<=e.w.gen/\e.w.gen<=1099511627776:=⟨hw.2.2.1,hw.2.2.2.1⟩
  by_cases hok:NdOK n true
  ·rw[if_neg (by simpa using hok)];rw[Qz,if_pos hok]at g1;have g2:Runs Az 36 [pg (CZ n) e.w.gen (Ds n)] [] (.tup [.n (.str (pageB e.w.gen n)),.n (.int .i64 0)]) []:=by have:=((p36 (CZ n) e.w.gen (Ds n)).up E4).up DL;rw[L5,if_pos (OX hok (by omega) (by omega))]at this;exact this
   have hlen:=hw.2.1;have fin:Ae (((0:Int)) != 0) False True:=trivial
   cases hx:firstFree e.w with
   | none=>
    rw[hx]at g3;dsimp only at g3 |-;refine Aa (λhl=>?_) (λhl=>?_);all_goals
     rw[CZ,hl]at g2
     exact⟨_,_,g1,Aa (λh=>by simp at h) (λ_=>⟨_,_,g2,Aa (λh=>by simp at h) (λ_=>⟨_,_,_,_,g3,Aa (λ_=>⟨rfl,rfl⟩) (λh=>by simp at h)⟩)⟩)⟩
   | some k=>
    have hk:=(DC hx).1;rw[hx]at g3;dsimp only at g3 |-;refine Aa (λhl=>?_) (λhl=>?_);all_goals
     rw[CZ,hl]at g2
     refine⟨_,_,g1,Aa (λh=>by simp at h) (λ_=>⟨_,_,g2,Aa (λh=>by simp at h) (λ_=>⟨_,_,_,_,g3,Aa (λh=>by simp at h) (λ_=>?_)⟩)⟩)⟩
     rw[show Int.toNat ((k:Nat):Int)=k from rfl,Fe]
     exact⟨⟨rfl,rfl⟩,by omega,by omega,⟨⟨⟨rfl,rfl⟩,rfl⟩,rfl⟩,by omega,rfl,rfl⟩
  ·rw[if_pos (by simpa using hok)];rw[Qz,if_neg hok]at g1;exact Aa (λhl=>⟨_,_,g1,Aa (λ_=>⟨rfl,rfl⟩) (λh=>by simp at h)⟩) (λhl=>⟨_,_,g1,Aa (λ_=>⟨rfl,rfl⟩) (λh=>by simp at h)⟩)
theorem Va (e:Ed)(v:Nat):Runs Az 150 [.ptr 14800202 0] (hE e v) (jC (MY e)) (ZM e v (decide (e.bad=0))):=by
 refine D8 AAx rfl (by kernel_rfl) ?_;unfold hE ZM;rw[oE,(mT _ _ _ _ _ _ _ _).down];refine Aa (λh=>?_) (λh=>⟨rfl,?_⟩)
 ·have hb:e.bad≠0:=by simpa using h
  rw[MY,if_pos hb,decide_eq_false hb];exact⟨rfl,rfl⟩
 ·have hb:e.bad=0:=by simpa using h
  rw[MY,if_neg (by simpa using hb),decide_eq_true hb];exact⟨rfl,rfl⟩
def AAF (s:Spl):AV := .agg [aI s.left,aI s.right,aS s.key,aB s.two]
def hG (key val:bA)(e:Ed)(v:Nat):Heap:=(11400305,.box [.ptr 14800202 0,aS key,aS val])::hE e v
theorem eA {w0:Wd}(key val:bA)(e:Ed)(v:Nat)(h:Inv w0 e)(n:Nd)(hf:Bt n):Runs Az 177 [.ptr 11400305 0,CU n] (hG key val e v) (AAF (C8 e n).1) (hG key val (C8 e n).2 v):=by
 have g:=AGn n hf;have s1:=JQ e v (λ_=>h.right) n hf;refine D8 AAt rfl (by kernel_rfl) ?_;unfold hG hE ZM;rw[CU,oK,(iU _ _ _ _ _ _ _ _ _ _ _ _ _ _).down,Am];refine Ab (λh8=>?_) (λh8=>?_);·rw[C8,if_pos (by omega)];exact⟨_,_,_,_,_,_,_,_,_,s1,rfl,rfl⟩
 ·rw[C8,if_neg (by omega)];by_cases hc:Au n/\n.keys.length=9
  ·rw[if_neg (by simpa using hc)];rw[U5,if_pos hc]at g;obtain⟨l1,l2,l3⟩:=He hc.1;have fL:Bt (EO n):=by unfold EO;split<;>refine⟨?_,?_,?_⟩<;>(dsimp only;simp only[List.length_take,List.length_nil];omega)
   have fR:Bt (Gv n):=by unfold Gv;split<;>refine⟨?_,?_,?_⟩<;>(dsimp only;simp only[List.length_drop,List.length_nil];omega)
   have c1:=JQ e v (λ_=>h.right) (EO n) fL;have c2:=JQ (Ag e (EO n)).2 v (λ_=>(BE h).1.right) (Gv n) fR;refine⟨_,_,_,_,_,_,_,_,_,_,g,Aa (λh=>by simp at h) (λ_=>?_)⟩;exact⟨_,_,_,_,_,_,_,_,_,c1,_,_,_,_,_,_,_,_,_,c2,rfl,rfl⟩
  ·rw[if_pos hc];rw[U5,if_neg hc]at g;exact⟨_,_,_,_,_,_,_,_,_,_,g,Aa (λ_=>⟨rfl,rfl⟩) (λh=>by simp at h)⟩
theorem S9 {n:Nd}(hs:Au n):Bt n:=by obtain⟨h1,h2,h3⟩:=He hs;exact⟨by omega,by omega,by omega⟩
theorem jV (l:List bA)(i:Nat)(x:bA):(AG l).take i++D.str x::(AG l).drop i=AG (BH l i x):=by simp[AG,BH,List.map_take,List.map_drop]
theorem iS (l:List Int)(i:Nat)(x:Int):(il l).take i++D.int .i64 x::(il l).drop i=il (BH l i x):=by simp[il,BH,List.map_take,List.map_drop]
theorem W7 {i1 i2:Nat}(h12:i1≠i2)(l:List bA)(x:bA)(k:Nat)(hk:k<=l.length)(hl:l.length<=1000){H:Heap}(h1:H.get i1=some (.row false false 0 9 1 (AG l)))(h2:H.get i2=some (.row false false 0 9 1 [.str x])):
  Runs Az 178 [.row i1 0,aI k,.row i2 0] H (.row i1 1) (H.ins i1 (.row false false 1 9 1 (AG (BH l k x)))):=by
 have:=IL vD h1 (els':=AG (BH l k x)) (r:=[.n (.int .i64 k),.row i2 0]) (by simp only[MM,h2];rw[if_pos ⟨h12,trivial,by omega,by rw[Am];omega,by rw[Am];omega⟩,show Int.toNat (k:Int)=k from rfl,jV])
 exact this
theorem AA6 {i1 i2 v:Nat}(h12:i1≠i2)(l:List Int)(x:Int)(k:Nat)(hk:k<=l.length)(hl:l.length<=1000){H:Heap}(h1:H.get i1=some (.row false false v 3 1 (il l)))(h2:H.get i2=some (.row false false 0 3 1 [.int .i64 x])):
  Runs Az 181 [.row i1 v,aI k,.row i2 0] H (.row i1 (v+1)) (H.ins i1 (.row false false (v+1) 3 1 (il (BH l k x)))):=by
 have:=IL vQ h1 (els':=il (BH l k x)) (r:=[.n (.int .i64 k),.row i2 0]) (by simp only[MM,h2];rw[if_pos ⟨h12,trivial,by omega,by rw[Aw];omega,by rw[Aw];omega⟩,show Int.toNat (k:Int)=k from rfl,iS])
 exact this
set_option maxHeartbeats 4000000 in
theorem wC {w0:Wd}(key val:bA):∀(f:Nat) (e:Ed) (v:Nat) (b d:Int),d+f=10->1<=d->1<=f->Inv w0 e ->
   Runs Az 151 [.ptr 11400305 0,aI b,aI d] (hG key val e v) (AAF (Dn key val f e b d).1) (hG key val (Dn key val f e b d).2 v)
 | 0,e,v,b,d,_,_,h,_=>absurd h (by omega)
 | f+1,e,v,b,d,hd,h1,_,hI=>by
  have c1:=aV e v hI.right b d;obtain⟨l1,l2⟩:=DT (b:=b) (d:=d) hI;refine D8 zW rfl (by kernel_rfl) ?_;unfold hG hE ZM;rw[lM,(iC _ _ _ _ _ _ _ _ _ _ _ _).down];refine⟨_,_,_,_,_,_,_,_,_,_,_,_,c1,Aa (λh=>?_) (λh=>?_)⟩
  ·have hb:(AI e b d).2.bad≠0:=by simpa using h
   rw[Dn];dsimp only;rw[if_pos hb];exact⟨rfl,rfl⟩
  ·have hb:(AI e b d).2.bad=0:=by simpa using h
   obtain⟨l3,l4,l5,l6⟩:=l2 hb;have hok:=Cr l5;have hs:=hok.1;have hfit:=S9 hs;obtain⟨k1,k2,k3⟩:=He hs;obtain⟨d1,d2⟩:=Ev l1 hb (by rw[l4];exact l5);rw[Dn];dsimp only;rw[if_neg (by simpa using hb)];have c2:=cV (AI e b d).2 v l1.right b;generalize (AI e b d).1=n at l5 hok hs hfit k1 k2 k3 |-;generalize (AI e b d).2=e1 at l1 hb d1 d2 c2 |-;refine⟨_,_,_,_,_,_,_,_,c2,?_⟩;generalize B7 e1 b=e2 at d1 d2 |-;refine Aa (λhl=>?_) (λhl=>?_)
   ·rw[if_pos hl];obtain⟨v1,v2⟩:=FW hs hl;have hsr:=EU n.keys key;refine⟨_,_,(lC n key hfit hs).up DL,Aa (λha=>?_) (λha=>?_)⟩;·have hsl:=gE ha;have c3:=eA key val e2 v d1 (Cs n key val) (by rw[Cs,if_pos ha];exact⟨by dsimp only;omega,by dsimp only;rw[List.length_set];omega,by dsimp only;omega⟩);rw[Cs,if_pos ha,CU]at c3;refine⟨_,_,(((AO HL (AG n.vals) (by rw[Am];omega)).up E4).up DL),⟨rfl,rfl⟩,by omega,by rw[Am];omega,⟨⟨⟨rfl,rfl⟩,rfl⟩,rfl⟩,by rw[Am];omega,rfl,?_⟩;rw[show Int.toNat ((AL n.keys key:Nat):Int)=AL n.keys key from rfl,Fe,Cs,if_pos ha];exact⟨_,_,_,_,_,_,_,_,_,_,_,_,_,_,c3,rfl,rfl⟩
    ·have c3:=eA key val e2 v d1 (Cs n key val) (by rw[Cs,if_neg (by rw[ha];simp)];exact⟨by dsimp only;rw[C5 _ hsr];omega,by dsimp only;rw[C5 _ (by omega)];omega,by dsimp only;omega⟩);rw[Cs,if_neg (by rw[ha];simp),CU]at c3;rw[Cs,if_neg (by rw[ha];simp)];refine⟨_,_,(((AO HL (AG n.keys) (by rw[Am];omega)).up E4).up DL),_,W7 (by decide) n.keys key (AL n.keys key) hsr (by omega) rfl rfl,_,_,(((AO HL (AG n.vals) (by rw[Am];omega)).up E4).up DL),_,W7 (by decide) n.vals val (AL n.keys key) (by omega) (by omega) rfl rfl,rfl,rfl,?_⟩;exact⟨_,_,_,_,_,_,_,_,_,_,_,_,_,_,c3,rfl,rfl⟩
   ·rw[if_neg (by rw[hl];simp)];obtain⟨v1,v2⟩:=EH hs hl;have hk:=W1 hs hl key;have hki:=Ui hs.2.1 key;have hkle:=FF n.keys key;rw[hki]at hk;have c3:=(gF n key hfit hs hl).up DL;rw[hki]at c3;have hd9:d<=8:=l6;have ih:=wC key val f e2 v ((n.kids[Ax n.keys key]?).getD 0) (d+1) (by omega) (by omega) (by omega) d1;have pi:=(KH (key:=key) (val:=val) f e2 ((n.kids[Ax n.keys key]?).getD 0) (d+1) d1).1;generalize hrr:Dn key val f e2 ((n.kids[Ax n.keys key]?).getD 0) (d+1)=r at ih pi |-;rw[gI hk]at ih;obtain⟨s,e3⟩:=r;dsimp only at ih pi |-;rw[Ad (d+1) (by omega)];refine⟨_,c3,rfl,by omega,_,Eb hk,_,rfl,_,_,_,_,_,_,_,_,_,_,_,_,_,_,ih,Aa (λhb3=>?_) (λhb3=>?_)⟩;·rw[if_pos (by simpa using hb3)];exact⟨rfl,rfl⟩
    ·rw[if_neg (by simpa using hb3)];refine⟨_,_,AO W9 (il n.kids) (by rw[Aw];omega),⟨rfl,rfl⟩,by omega,by rw[Aw];omega,⟨⟨⟨rfl,rfl⟩,rfl⟩,rfl⟩,by rw[Aw];exact hk,?_⟩;rw[show Int.toNat ((Ax n.keys key:Nat):Int)=Ax n.keys key from rfl,D9];refine Aa (λht=>?_) (λht=>?_);·have c4:=eA key val e3 v pi (BP n (Ax n.keys key) s) (by rw[BP,if_pos ht];exact⟨by dsimp only;rw[C5 _ hkle];omega,by dsimp only;omega,by dsimp only;rw[C5 _ (by rw[List.length_set];omega),List.length_set];omega⟩);rw[BP,if_pos ht,CU]at c4;rw[BP,if_pos ht];rw[Ad _ (by omega)];refine⟨_,_,(((AO HL (AG n.keys) (by rw[Am];omega)).up E4).up DL),_,W7 (by decide) n.keys s.key (Ax n.keys key) hkle (by omega) rfl rfl,_,AA6 (v:=0) (by decide) (n.kids.set (Ax n.keys key) s.left) s.right (Ax n.keys key+1) (by rw[List.length_set];omega) (by rw[List.length_set];omega) rfl rfl,rfl,rfl,?_⟩;exact⟨_,_,_,_,_,_,_,_,_,_,_,_,_,_,c4,rfl,rfl⟩
     ·have c4:=eA key val e3 v pi (BP n (Ax n.keys key) s) (by rw[BP,if_neg (by rw[ht];simp)];exact⟨by dsimp only;omega,by dsimp only;omega,by dsimp only;rw[List.length_set];omega⟩);rw[BP,if_neg (by rw[ht];simp),CU]at c4;rw[BP,if_neg (by rw[ht];simp)];exact⟨rfl,_,_,_,_,_,_,_,_,_,_,_,_,_,_,c4,rfl,rfl⟩
theorem AFf (key val:bA):Runs Az 147 [.n (.str key),.n (.str val)] [] (.n (.bool (decide (isPair key val)))) []:=by
 refine An (c:=c147) rfl rfl ?_;rw[zO,wJ];refine Ab (λh1=>Ab (λh2=>?_) (λh2=>?_)) (λh1=>?_);·congr 2;rw[decide_eq_decide,isPair];omega
 ·rw[decide_eq_false (by unfold isPair;omega)]
 ·rw[decide_eq_false (by unfold isPair;omega)]
theorem ZY (w:Wd)(r:Int)(i:Nat):Ff { w with root:=r } i=Ff w i:=by
 induction i with
 | zero=>rfl
 | succ i ih=> simp only[Ff,ih];rfl
theorem Ss (e:Ed)(r:Int)(n:Nd):Ag { e with w := { e.w with root:=r } } n=((Ag e n).1,{ (Ag e n).2 with w := { (Ag e n).2.w with root:=r } }):=by
 unfold Ag;dsimp only;split;·rfl
 ·split;·rfl
  ·rw[show firstFree { e.w with root:=r } = firstFree e.w from ZY e.w r _];cases firstFree e.w<;>rfl
theorem bI {w:Wd}{r:Int}(h:WRight w)(hr:r=0\/(10<=r/\r<w.now.length)):WRight { w with root:=r }:=⟨h.1,h.2.1,h.2.2.1,h.2.2.2.1,hr,h.2.2.2.2.2⟩
theorem AHl (w:Wd)(hf:WFits w)(key val:bA):Runs Az 114 [EA w,aS key,aS val] [] (jC (Ea w key val)) []:=by
 have g1:=(sT w hf).up DL;have g2:=AFf key val;refine An (c:=c114) rfl rfl ?_;rw[EA,vJ,(uH _ _ _ _ _ _ _ _).down];refine⟨_,g1,?_⟩;by_cases hr:WRight w
 ·rw[decide_eq_true hr];refine Aa (λh=>by cases h) (λ_=>⟨_,g2,?_⟩);by_cases hp:isPair key val
  ·rw[decide_eq_true hp];refine Aa (λh=>by cases h) (λ_=>?_);have hlen:w.pages.length<=100000:=by have:=hr.2.1;have:=hr.1.2.2.1;omega
   have hI:=Inv.start hr;rw[Ea,if_neg (by simpa using⟨hr,hp⟩)];refine⟨(),_,_,_,_,_,_,_,_,uW w hlen,Aa (λh0=>?_) (λh0=>?_)⟩
   ·have h0:w.root=0:=by simpa using h0
    rw[GS,if_pos h0];have c1:=JQ ⟨w,0⟩ 0 (λ_=>hr) ⟨true,[key],[val],[]⟩ ⟨by simp,by simp,by simp⟩;have c2:=Va (BO (Ag ⟨w,0⟩ ⟨true,[key],[val],[]⟩)) 0;exact⟨rfl,rfl,_,_,_,_,_,_,_,_,_,c1,_,_,_,_,_,_,_,_,_,_,_,_,_,_,_,c2,rfl⟩
   ·have h0:w.root≠0:=by simpa using h0
    have c1:=wC key val 9 ⟨w,0⟩ 0 w.root 1 (by omega) (by omega) (by omega) hI;obtain⟨q1,q2⟩:=KH (key:=key) (val:=val) 9 ⟨w,0⟩ w.root 1 hI;rw[GS,if_neg h0];dsimp only;generalize Dn key val 9 ⟨w,0⟩ w.root 1=r at c1 q1 q2 |-;obtain⟨s,e1⟩:=r;dsimp only at c1 q1 q2 |-;refine⟨_,_,_,_,_,_,_,_,_,_,_,_,_,_,c1,Aa (λht=>?_) (λht=>?_)⟩;·rw[if_pos ht];have hl:(BO (s.left,e1)).bad=0->WRight (BO (s.left,e1)).w:=λhb=>bI q1.right (.inr (by have:=(q2 hb).1;have h2:=q1.nlen;unfold dD at this;show 10<=s.left/\s.left<(e1.w.now.length:Int);omega));have c2:=JQ (BO (s.left,e1)) 0 hl ⟨false,[s.key],[],[s.left,s.right]⟩ ⟨by simp,by simp,by simp⟩;have e3:Ag (BO (s.left,e1)) ⟨false,[s.key],[],[s.left,s.right]⟩=_:=Ss e1 s.left ⟨false,[s.key],[],[s.left,s.right]⟩;rw[e3]at c2;have c3:=Va (BO (Ag e1 ⟨false,[s.key],[],[s.left,s.right]⟩)) 0;exact⟨rfl,rfl,_,_,_,_,_,_,_,_,_,c2,_,_,_,_,_,_,_,_,_,_,_,_,_,_,_,c3,rfl⟩
    ·rw[if_neg (by rw[ht];simp)];have c3:=Va (BO (s.left,e1)) 0;exact⟨_,_,_,_,_,_,_,_,_,_,_,_,_,_,_,c3,rfl⟩
  ·rw[decide_eq_false hp];refine Aa (λ_=>?_) (λh=>by cases h);rw[Ea,if_pos (λh=>hp h.2)];rfl
 ·rw[decide_eq_false hr];refine Aa (λ_=>?_) (λh=>by cases h);rw[Ea,if_pos (λh=>hr h.1)];rfl
theorem pN (l:List bA)(a b:Nat):(AG l).take a++(AG l).drop b=AG (l.take a++l.drop b):=by simp[AG,List.map_take,List.map_drop]
theorem iX (l:List Int)(a b:Nat):(il l).take a++(il l).drop b=il (l.take a++l.drop b):=by simp[il,List.map_take,List.map_drop]
theorem S6 {i1 v:Nat}(l:List bA)(k:Nat)(hk:k<l.length){H:Heap}(h1:H.get i1=some (.row false false v 9 1 (AG l))):
  Runs Az 204 [.row i1 v,aI k,aI (k+1:Nat)] H (.row i1 (v+1)) (H.ins i1 (.row false false (v+1) 9 1 (AG (De l k)))):=by
 refine IL wX h1 (els':=AG (De l k)) (r:=[.n (.int .i64 k),.n (.int .i64 (k+1:Nat))]) ?_
 simp only[OD]
 rw[if_pos ⟨by omega,by omega,by rw[Am];omega,by intro h;have:=congrArg List.length h;rw[Am]at this;have h0:l.length=0:=this;omega⟩,show Int.toNat (k:Int)=k from rfl,show Int.toNat ((k+1:Nat):Int)=k+1 from rfl,pN,De]
theorem fW {i1 v:Nat}(l:List Int)(k:Nat)(hk:k<l.length){H:Heap}(h1:H.get i1=some (.row false false v 3 1 (il l))):
  Runs Az 207 [.row i1 v,aI k,aI (k+1:Nat)] H (.row i1 (v+1)) (H.ins i1 (.row false false (v+1) 3 1 (il (De l k)))):=by
 refine IL ABf h1 (els':=il (De l k)) (r:=[.n (.int .i64 k),.n (.int .i64 (k+1:Nat))]) ?_
 simp only[OD]
 rw[if_pos ⟨by omega,by omega,by rw[Aw];omega,by intro h;have:=congrArg List.length h;rw[Aw]at this;have h0:l.length=0:=this;omega⟩,show Int.toNat (k:Int)=k from rfl,show Int.toNat ((k+1:Nat):Int)=k+1 from rfl,iX,De]
def Shp (n:Nd):Prop:=n.keys.length<=8/\(n.leaf=true/\n.vals.length=n.keys.length/\n.kids=[]\/n.leaf=false/\n.vals=[]/\n.kids.length=n.keys.length+1)
theorem R9 {n:Nd}(hs:Au n)(h8:n.keys.length<=8):Shp n:=by
 refine⟨h8,?_⟩
 cases hl:n.leaf with
 | true=>exact .inl ⟨rfl,(FW hs hl).2,(FW hs hl).1⟩
 | false=>exact .inr ⟨rfl,(EH hs hl).1,(EH hs hl).2⟩
theorem Shp.lens {n:Nd}(h:Shp n):n.keys.length<=8/\n.vals.length<=8/\n.kids.length<=9:=by
 obtain⟨h8,⟨_,h1,h2⟩|⟨_,h1,h2⟩⟩:=h;·rw[h2];exact⟨h8,by omega,by simp⟩
 ·rw[h1];exact⟨h8,by simp,by omega⟩
theorem Shp.fits {n:Nd}(h:Shp n):Bt n:=by obtain⟨h1,h2,h3⟩:=h.lens;exact⟨by omega,by omega,by omega⟩
theorem Shp.leaf {n:Nd}(h:Shp n)(hl:n.leaf=true):n.vals.length=n.keys.length/\n.kids=[]:=by
 rcases h.2 with⟨_,h1,h2⟩|⟨h0,_⟩
 ·exact⟨h1,h2⟩
 ·rw[hl]at h0;cases h0
theorem Shp.inner {n:Nd}(h:Shp n)(hl:n.leaf=false):n.vals=[]/\n.kids.length=n.keys.length+1:=by
 rcases h.2 with⟨h0,_⟩|⟨_,h1,h2⟩
 ·rw[hl]at h0;cases h0
 ·exact⟨h1,h2⟩
theorem ACC (n:Nd)(i:Nat)(hi:i<n.keys.length)(hv:n.vals.length=n.keys.length)(hl:n.keys.length<=1000):Runs Az 182 [CU n,aI i] [] (CU (QL n i)) []:=by refine An (c:=c182) rfl rfl ?_;rw[CU,ABm,(xV _ _ _ _ _ _).down,Ad ((i:Int)+1) (by omega)];refine⟨_,_,(((AO HL (AG n.keys) (by rw[Am];omega)).up E4).up DL),_,S6 n.keys i hi rfl,_,_,(((AO HL (AG n.vals) (by rw[Am];omega)).up E4).up DL),_,S6 n.vals i (by omega) rfl,rfl,rfl,?_⟩;rfl
theorem Wa (a b:List bA)(h:a.length+b.length<=1000):Runs Az 227 [aL [.sl 1 (AG a),.sl 1 (AG b)]] [] (aL (AG (a++b))) []:=by have:=oF [AG a,AG b] (by simp) (by simp[Am];omega);simpa[Og] using this
theorem jZ (a b:List Int)(h:a.length+b.length<=1000):Runs Az 228 [aL [.sl 1 (il a),.sl 1 (il b)]] [] (aL (il (a++b))) []:=by have:=tY [il a,il b] (by simp) (by simp[Aw];omega);simpa[YC] using this
theorem iK (a b c:List bA)(h:a.length+b.length+c.length<=1000):Runs Az 227 [aL [.sl 1 (AG a),.sl 1 (AG b),.sl 1 (AG c)]] [] (aL (AG (a++(b++c)))) []:=by have:=oF [AG a,AG b,AG c] (by simp) (by simp[Am];omega);simpa[Og] using this
def KZ (a:Nd)(k:bA)(b:Nd):AV := .tup [CU (CC (Aq a k b) (AM a b)),aS (Gt (Aq a k b) (AM a b)),CU (Dc (Aq a k b) (AM a b))]
theorem yW (a:Nd)(k:bA)(b:Nd)(ha:Shp a)(hb:Shp b)(hab:a.leaf=b.leaf)(hx:b.keys.length<a.keys.length\/2<=b.keys.length):Runs Az 208 [CU a,aS k,CU b] [] (KZ a k b) []:=by
 obtain⟨a1,a2,a3⟩:=ha.lens;obtain⟨b1,b2,b3⟩:=hb.lens;refine An (c:=c208) rfl rfl ?_;rw[CU,CU,ABL,(vR _ _ _ _ _ _ _ _ _ _).down,Am,Am];refine⟨rfl,_,Wa a.keys b.keys (by omega),?_⟩;have tail:∀c:Nat,AM a b=c->c<a.keys.length+b.keys.length ->
     (a.leaf=true->((0=0)/\(∃x1:LD,Runs Az 227 [aL [.sl 1 (AG a.vals),.sl 1 (AG b.vals)]] [] (aL x1) []/\(rn 1)/\((0:Int)<=c)/\((c:Int)<=((AG (a.keys++b.keys)).length:Int))/\((0:Int)<=c)/\((c:Int)<=((Int.toNat (c:Int):Nat):Int))/\(rn 1)/\((0:Int)<=c)/\((c:Int)<=(x1.length:Int))/\((0:Int)<=c)/\((c:Int)<=((Int.toNat (c:Int):Nat):Int))/\(rn 1)/\((0:Int)<=c) /\
       (∃x2:Mir.D,((AG (a.keys++b.keys))[Int.toNat (c:Int)]?=some x2)/\(∃x3:bA,((D.cells x2)[0]?=some (Mir.D.str x3))/\(rn 1)/\((0:Int)<=c)/\((c:Int)<=((AG (a.keys++b.keys)).length:Int))/\(rn 1)/\((0:Int)<=c)/\((c:Int)<=(x1.length:Int)) /\
         (.tup [(.agg [(.n (.bool true)),(.o (.sl 1 (List.drop 0 (List.take (Int.toNat (c:Int)) (AG (a.keys++b.keys)))))),(.o (.sl 1 (List.drop 0 (List.take (Int.toNat (c:Int)) x1)))),(.o (.sl 1 []))]),(.n (.str x3)),(.agg [(.n (.bool true)),(.o (.sl 1 (List.drop (Int.toNat (c:Int)) (List.take (List.length (AG (a.keys++b.keys))) (AG (a.keys++b.keys)))))),(.o (.sl 1 (List.drop (Int.toNat (c:Int)) (List.take (List.length x1) x1)))),(.o (.sl 1 []))])]:AV)=KZ a k b))))) /\
     (a.leaf=false->((0=0)/\(∃x4:LD,Runs Az 227 [aL [.sl 1 (AG a.keys),.sl 1 [.str k],.sl 1 (AG b.keys)]] [] (aL x4) []/\(0=0)/\(∃x5:LD,Runs Az 228 [aL [.sl 1 (il a.kids),.sl 1 (il b.kids)]] [] (aL x5) []/\(rn 1)/\((0:Int)<=c)/\((c:Int)<=(x4.length:Int))/\((0:Int)<=c)/\((c:Int)<=((Int.toNat (c:Int):Nat):Int))/\(rn 1)/\((0:Int)<=((c+1:Nat):Int))/\(((c+1:Nat):Int)<=(x5.length:Int))/\((0:Int)<=((c+1:Nat):Int))/\(((c+1:Nat):Int)<=((Int.toNat ((c+1:Nat):Int):Nat):Int))/\(rn 1)/\((0:Int)<=c) /\
       (∃x6:Mir.D,(x4[Int.toNat (c:Int)]?=some x6)/\(∃x7:bA,((D.cells x6)[0]?=some (Mir.D.str x7))/\(rn 1)/\((0:Int)<=((c+1:Nat):Int))/\(((c+1:Nat):Int)<=(x4.length:Int))/\(rn 1)/\((0:Int)<=((c+1:Nat):Int))/\(((c+1:Nat):Int)<=(x5.length:Int)) /\
         (.tup [(.agg [(.n (.bool false)),(.o (.sl 1 (List.drop 0 (List.take (Int.toNat (c:Int)) x4)))),(.o (.sl 1 [])),(.o (.sl 1 (List.drop 0 (List.take (Int.toNat ((c+1:Nat):Int)) x5))))]),(.n (.str x7)),(.agg [(.n (.bool false)),(.o (.sl 1 (List.drop (Int.toNat ((c+1:Nat):Int)) (List.take (List.length x4) x4)))),(.o (.sl 1 [])),(.o (.sl 1 (List.drop (Int.toNat ((c+1:Nat):Int)) (List.take (List.length x5) x5))))])]:AV)=KZ a k b)))))):=by
   intro c hc hlt
   have ec:∀j:Nat,Int.toNat (j:Int)=j:=λj=>rfl
   refine⟨λhl=>?_,λhl=>?_⟩
   ·obtain⟨x1,x2⟩:=ha.leaf hl
    obtain⟨y1,y2⟩:=hb.leaf (hab▸hl)
    have hck:c<(a.keys++b.keys).length:=by rw[List.length_append];omega
    have hlen1:(AG (a.keys++b.keys)).length=a.keys.length+b.keys.length:=by rw[Am,List.length_append]
    have hlen2:(AG (a.vals++b.vals)).length=a.keys.length+b.keys.length:=by rw[Am,List.length_append];omega
    refine⟨rfl,_,Wa a.vals b.vals (by omega),rfl,by omega,by omega,by omega,by rw[ec];omega,rfl,by omega,by omega,by omega,by rw[ec];omega,rfl,by omega,_,AZ hck,_,rfl,rfl,by omega,by omega,rfl,by omega,by omega,?_⟩
    rw[ec,List.take_of_length_le (l:=AG (a.keys++b.keys)) (Nat.le_refl _),List.take_of_length_le (l:=AG (a.vals++b.vals)) (Nat.le_refl _),List.drop_zero,List.drop_zero,Un,Un,KN,KN,KZ,hc]
    have ej:Aq a k b=⟨true,a.keys++b.keys,a.vals++b.vals,[]⟩:=by rw[Aq,if_pos hl]
    rw[ej,CC,Dc,Gt,if_pos rfl,if_pos rfl]
    dsimp only
    rw[gI hck]
    rfl
   ·obtain⟨x1,x2⟩:=ha.inner hl
    obtain⟨y1,y2⟩:=hb.inner (hab▸hl)
    have hck:c<(a.keys++([k]++b.keys)).length:=by simp only[List.length_append,List.length_singleton];omega
    have hlen1:(AG (a.keys++([k]++b.keys))).length=a.keys.length+b.keys.length+1:=by rw[Am];simp only[List.length_append,List.length_singleton];omega
    have hlen2:(il (a.kids++b.kids)).length=a.keys.length+b.keys.length+2:=by rw[Aw,List.length_append];omega
    refine⟨rfl,_,iK a.keys [k] b.keys (by simp only[List.length_singleton];omega),rfl,_,jZ a.kids b.kids (by omega),rfl,by omega,by omega,by omega,by rw[ec];omega,rfl,by omega,by omega,by omega,by rw[ec];omega,rfl,by omega,_,AZ hck,_,rfl,rfl,by omega,by omega,rfl,by omega,by omega,?_⟩
    rw[ec,ec,List.take_of_length_le (l:=AG (a.keys++([k]++b.keys))) (Nat.le_refl _),List.take_of_length_le (l:=il (a.kids++b.kids)) (Nat.le_refl _),List.drop_zero,List.drop_zero,Un,fS,KN,TU,KZ,hc]
    have ej:Aq a k b=⟨false,a.keys++k::b.keys,[],a.kids++b.kids⟩:=by rw[Aq,if_neg (by rw[hl];simp)]
    rw[ej,CC,Dc,Gt,if_neg (by simp),if_neg (by simp)]
    dsimp only
    rw[gI (l:=a.keys++k::b.keys) hck]
    rfl
 refine Ab (λh=>?_) (λh=>?_)
 ·have hc:AM a b=a.keys.length-1:=if_pos (by omega);obtain⟨t1,t2⟩:=tail _ hc (by omega);have e1:w6 ((a.keys.length:Int)-1)=((a.keys.length-1:Nat):Int):=by rw[Ad _ (by omega)];omega
  rw[e1,show w6 (((a.keys.length-1:Nat):Int)+1)=((a.keys.length-1+1:Nat):Int) by rw[Ad _ (by omega)];omega];exact Aa t1 t2
 ·have hc:AM a b=a.keys.length+1:=if_neg (by omega);obtain⟨t1,t2⟩:=tail _ hc (by omega);have e1:w6 ((a.keys.length:Int)+1)=((a.keys.length+1:Nat):Int):=by rw[Ad _ (by omega)];omega
  rw[e1,show w6 (((a.keys.length+1:Nat):Int)+1)=((a.keys.length+1+1:Nat):Int) by rw[Ad _ (by omega)];omega];exact Aa t1 t2
theorem Tp {α:Type}{l:List α}{i:Nat}{c:α}(h:i+1<l.length):De (l.set i c) (i+1)=l.take i++c::l.drop (i+2):=by rw[De,A3 (by rw[List.length_set];omega),List.getElem_set_self,List.take_set_of_le (Nat.le_refl _),List.drop_set_of_lt (by omega),List.append_assoc];rfl
theorem KO {α:Type}{l:List α}{i:Nat}{c s:α}(h:i+1<l.length):(l.set i c).set (i+1) s=l.take i++c::s::l.drop (i+2):=by rw[Ng (c:=c) (by rw[List.getElem?_set_self (by omega)]) (by rw[List.length_set];omega),List.take_set_of_le (Nat.le_refl _),List.drop_set_of_lt (by omega)]
theorem L7 {a b:Nd}(k:bA)(ha:Shp a)(hb:Shp b):Bt (Aq a k b)/\(Aq a k b).keys.length<=17/\(Aq a k b).vals.length<=16/\(Aq a k b).kids.length<=18:=by
 obtain⟨a1,a2,a3⟩:=ha.lens;obtain⟨b1,b2,b3⟩:=hb.lens;have key:(Aq a k b).keys.length<=17/\(Aq a k b).vals.length<=16/\(Aq a k b).kids.length<=18:=by
  unfold Aq;split;·refine⟨?_,?_,?_⟩<;>(dsimp only;simp only[List.length_append,List.length_cons,List.length_nil];omega)
  ·refine⟨?_,?_,?_⟩<;>(dsimp only;simp only[List.length_append,List.length_cons,List.length_nil];omega)
 exact⟨⟨by omega,by omega,by omega⟩,key⟩
theorem IV {n:Nd}(h:Bt n/\n.keys.length<=17/\n.vals.length<=16/\n.kids.length<=18)(c:Nat):Bt (CC n c)/\Bt (Dc n c):=by
 obtain⟨_,h1,h2,h3⟩:=h;unfold CC Dc;refine⟨?_,?_⟩;·split<;>refine⟨?_,?_,?_⟩<;>(dsimp only;simp only[List.length_take,List.length_nil];omega)
 ·split<;>refine⟨?_,?_,?_⟩<;>(dsimp only;simp only[List.length_drop,List.length_nil];omega)
def hP (key:bA)(e:Ed)(v:Nat):Heap:=(11600504,.box [.ptr 14800202 0,aS key])::hE e v
def hF (key:bA)(e:Ed)(v:Nat)(fz:Bool)(a b:Nat)(K C:List D):Heap:=(11600504,.box [.ptr 14800202 0,aS key])::(hE e v++[(15251502,.row fz false a 9 1 K),(15251505,.row fz false b 3 1 C)])
theorem ABr (key:bA)(e:Ed)(v:Nat):Runs Az 205 [.ptr 11600504 0] (hP key e v) (.tup []) (hP key (K4 e) v):=by
 refine D8 AAb rfl (by kernel_rfl) ?_;unfold hP hE ZM;rw[rP,(mO _ _ _ _ _ _ _ _ _).down];refine Aa (λh=>?_) (λh=>?_);·rw[K4,if_pos (by simpa using h)];exact⟨rfl,rfl⟩
 ·rw[K4,if_neg (by simpa using h)];exact⟨rfl,rfl⟩
end Go.Proofs.YtegndijbpiccgaaGreatDoor.M
