import Derived.Test.YtjmpnbbeplgchabGreatDoorR6EW
import Derived.Test.YtjmpnbbeplgchabGreatDoorR6ScanQ
namespace Go.Proofs.YtjmpnbbeplgchabGreatDoor.M
set_option linter.unusedVariables false
set_option linter.unusedSimpArgs false
open Go Go.Mir
def Ws (i:Int):Heap:=[(10100102,.box [aI i])]
theorem AEo (a:List Bool)(i:Int)(h0:0<=i):Runs Az 141 [aL (Bk a),.ptr 10100102 0] (Ws i) (aB (tr a i.toNat)) (Ws i):=by refine Ci (c:=c141) rfl rfl (by kernel_rfl) ?_;rewrite[Ws,nM,(tC _ _ _).down];exact⟨_,(ACy a i h0).up C5,rfl,rfl⟩
theorem gG:Az 174=some (.code c174):=rfl
theorem aU:Az 140=some (.code c140):=rfl
theorem ADt (L:List (List Bool))(hl:Small L.length)(i:Int)(h0:0<=i):∃r:Int,decide (r>=0)=L.any (λa=>tr a i.toNat)/\Runs Az 174 [aL (TX L),.fn 141 [.ptr 10100102 0]] (Ws i) (aI r) (Ws i):=by
 have key:∃r H',Runs Az 174 [.o (.sl 1 (TX L)),.fn 141 [.ptr 10100102 0]] (Ws i) r H'/\∃k:Int,r = .n (.int .i64 k)/\H'=Ws i/\decide (k>=0)=L.any (λa=>tr a i.toNat):=by
  refine DI (R:=λr H'=>∃k:Int,r = .n (.int .i64 k)/\H'=Ws i/\decide (k>=0)=L.any (λa=>tr a i.toNat)) gG rfl (by kernel_rfl) ?_;rw[Ws,nB,(kP _ _ _).down,Oq];refine⟨λk=>0<=k/\k<=L.length/\∀(j:Nat) (h:j<L.length),(j:Int)<k->tr L[j] i.toNat=false,λk=>(L.length-k).toNat,⟨rfl,by omega,by omega,λj _ hj=>by omega⟩,?_⟩;rintro k ⟨k0,k1,hok⟩ _;refine Ab (λh=>?_) (λh=>⟨-1,rfl,rfl,?_⟩)
  ·have hi:k.toNat<L.length:=by omega
   refine⟨rfl,k0,_,Sx hi,_,rfl,_,AEo _ i h0,Aa (λhb=>⟨k,rfl,rfl,?_⟩) (λhb=>?_)⟩;·rw[decide_eq_true k0];exact(JD (p:=λa:List Bool=>tr a i.toNat) hi hb).symm
   ·repeat (refine And.intro rfl ?_)
    rw[Ac _ (by omega)];exact⟨⟨by omega,by omega,G6 (p:=λa:List Bool=>tr a i.toNat) k0 hi hb hok⟩,by first|omega|(dsimp only;omega)⟩
  ·exact(Ju (p:=λa:List Bool=>tr a i.toNat) k0 h hok).symm
 obtain⟨r,H',hr,k,rfl,rfl,hk⟩:=key;exact⟨k,hk,hr⟩
theorem vU (L:List (List Bool))(hl:Small L.length)(i:Int)(h0:0<=i):Runs Az 140 [aL (TX L),.fn 141 [.ptr 10100102 0]] (Ws i) (aB (L.any λa=>tr a i.toNat)) (Ws i):=by refine Ci aU rfl (by kernel_rfl) ?_;rewrite[Ws,nE,(qE _ _ _).down];obtain⟨r,hr,h⟩:=ADt L hl i h0;exact⟨r,h,by rw[hr],rfl⟩
def Iv (L:List (List Bool))(r:Int):Prop:=
 (r = -1/\∀j,j<Be L->(L.any λa=>tr a j)=true)\/0<=r/\r.toNat<Be L/\(L.any λa=>tr a r.toNat)=false/\∀j,j<r.toNat->(L.any λa=>tr a j)=true
theorem AFX (L:List (List Bool))(hl:Small L.length)(hL:Be L<=2048):∃r,Iv L r/\Runs Az 101 [aI 0,aL (TX L)] [] (aI r) []:=by
 have key:∃r,Runs Az 101 [.n (.int .i64 0),.o (.sl 1 (TX L))] [] r []/\∃k:Int,r = .n (.int .i64 k)/\Iv L k:=by
  refine DG (R:=λr=>∃k:Int,r = .n (.int .i64 k)/\Iv L k) (c:=c101) rfl rfl ?_;rw[wM,ADg];refine⟨λ_ p=>0<=p.1/\p.1<=Be L/\∀j:Nat,(j:Int)<p.1->(L.any λa=>tr a j)=true,λ_ p=>(Be L-p.1).toNat,⟨rfl,by decide,by show Cs true 0 0<=_;simp[Cs],λj hj=>by simp[Cs]at hj;omega⟩,?_⟩;rintro _ ⟨i,_⟩ ⟨h0,h1,hok⟩ _;dsimp only at h0 h1 hok |-;refine⟨_,(ACj L hl).up C5,Ab (λh=>?_) (λh=>⟨-1,rfl,.inl ⟨rfl,λj hj=>hok j (by omega)⟩⟩)⟩;refine⟨_,vU L hl i h0,Aa (λhb=>⟨i,rfl,.inr ⟨h0,by omega,by simpa using hb,λj hj=>hok j (by omega)⟩⟩) (λhb=>?_)⟩;repeat (refine And.intro rfl ?_)
  rw[Ac _ (by omega)];refine⟨⟨by omega,by omega,λj hj=>?_⟩,by first|omega|(dsimp only;omega)⟩;by_cases e:(j:Int)<i;·exact hok j e
  ·obtain rfl:j=i.toNat:=by omega
   simpa using hb
 obtain⟨r,hr,k,rfl,hk⟩:=key;exact⟨k,hk,hr⟩
theorem AEA (l:List Bool)(b:Bool)(p:Nat)(hp:p<l.length)(hl:l.length<=2048):Runs Az 102 [aL (Bk l),aB b,aL [.int .i64 p]] [] (.tup [aL (Bk (l.set p b)),aI 0]) []:=by
 refine Ag (c:=c102) rfl rfl ?_;rw[ADd,(ACV _ _ _ _).down,AI];refine⟨_,_,AR YA (Bk l) (by rw[AI];omega),λi r=>(i=0/\r=(0,Bk l))\/(i=1/\r=(0,Bk (l.set p b))),λi _=>(1-i).toNat,⟨rfl,.inl ⟨rfl,rfl⟩⟩,?_⟩;rintro i ⟨v,els⟩ h _;rcases h with⟨rfl,h⟩|⟨rfl,h⟩
 ·obtain⟨rfl,rfl⟩:=Prod.mk.inj h;refine Ab (λ_=>?_) (λh=>absurd (by decide:(0:Int)<1) h);refine⟨rfl,by decide,_,rfl,_,rfl,Ab (λh=>by omega) (λ_=>Ab (λh=>by omega) (λ_=>?_))⟩;dsimp only;rw[AI,show Int.toNat (p:Int)=p from rfl,Ha];refine⟨⟨rfl,rfl⟩,by omega,by omega,⟨⟨⟨rfl,rfl⟩,rfl⟩,rfl⟩,hp,?_⟩;repeat (refine And.intro rfl ?_)
  rw[Ac _ (by omega)];exact⟨.inr ⟨rfl,rfl⟩,by decide⟩
 ·obtain⟨rfl,rfl⟩:=Prod.mk.inj h;exact Ab (λh=>absurd h (by simp)) (λ_=>⟨rfl,rfl⟩)
theorem J6 (a b:List Bool):Be [a,b]=max a.length b.length:=by simp[Be]
theorem cH (a b:List Bool)(j:Nat):([a,b].any λx=>tr x j)=(tr a j||tr b j):=by simp
theorem Zb {w:Wd}(hw:w.base.length=w.now.length){r:Int}(h:Iv [w.base,w.now] r):match firstFree w with
   | none=>r<0
   | some b=>r=b/\b<w.now.length:=by
 have hl:Be [w.base,w.now]=w.now.length:=by rw[J6,hw];exact Nat.max_self _
 have hf:∀j,AJ w j = !([w.base,w.now].any λx=>tr x j):=λj=>by rw[cH,AJ];cases tr w.base j<;>cases tr w.now j<;>rfl
 unfold Iv at h
 rw[hl]at h
 cases hx:firstFree w with
 | none=>
  have hn:=Hg hx
  rcases h with⟨h1,_⟩|⟨h0,h1,h2,_⟩
  ·dsimp only;omega
  ·have:=hn r.toNat h1
   rw[hf,h2]at this
   cases this
 | some b=>
  obtain⟨k1,k2,k3⟩:=DE hx
  refine⟨?_,k1⟩
  rcases h with⟨_,h2⟩|⟨h0,h1,h2,h3⟩
  ·have:=h2 b k1
   rw[hf,this]at k2
   cases k2
  ·rcases Nat.lt_trichotomy r.toNat b with h|h|h
   ·have:=k3 _ h
    rw[hf,h2]at this
    cases this
   ·omega
   ·have:=h3 _ h
    rw[hf,this]at k2
    cases k2
def uL:AV := .agg [aL [],aL []]
theorem p54 (w:Wd)(h:BJ w.base w.now):Runs Az 54 [G1 w.base w.now] [] (match firstFree w with
   | none => .tup [uL,aI 0,aI 60]
   | some b => .tup [G1 w.base (w.now.set b true),aI b,aI 0]) []:=by
 have h1:=h.1
 have h2:=h.2.2.1
 have g:=(p82 w.base w.now (by omega) (by omega)).up C5
 rw[decide_eq_true h]at g
 obtain⟨r,hr,g2⟩:=AFX [w.base,w.now] (by simp) (by rw[J6];omega)
 have hf:=Zb h1 hr
 refine Ag (c:=c54) rfl rfl ?_
 rw[G1,AEN,(AJI _ _ _).down]
 refine⟨_,g,Aa (λh=>by cases h) (λ_=>⟨rfl,_,g2,?_⟩)⟩
 cases hx:firstFree w with
 | none=>
  rw[hx]at hf
  exact Ab (λ_=>rfl) (λh=>absurd hf h)
 | some b=>
  rw[hx]at hf
  obtain⟨rfl,hb⟩:=hf
  exact Ab (λh=>by omega) (λ_=>⟨rfl,_,_,AEA w.now true b hb h2,rfl⟩)
theorem p92 (a b:List Bool)(h:BJ a b)(p:Int):Runs Az 92 [G1 a b,aL [.int .i64 p]] [] (if p<10\/p>=b.length\/tr b p.toNat=false then .tup [uL,aI 30] else .tup [G1 a (b.set p.toNat false),aI 0]) []:=by
 have h1:=h.1;have h2:=h.2.2.1;have g:=(p82 a b (by omega) (by omega)).up C5;rw[decide_eq_true h]at g;refine Ag (c:=c92) rfl rfl ?_;rw[G1,AIX,(AGw _ _ _ _).down];refine⟨_,g,Aa (λh=>by cases h) (λ_=>⟨_,_,AR YA (Bk b) (by rw[AI];omega),?_⟩)⟩;refine⟨λi _ r=>(i=0/\r=(0,Bk b))\/(i=1/\r=(0,Bk (b.set p.toNat false))/\¬(p<10\/p>=b.length\/tr b p.toNat=false)),λi _ _=>(1-i).toNat,⟨rfl,.inl ⟨rfl,rfl⟩⟩,?_⟩;rintro i _ ⟨v,els⟩ h _;rcases h with⟨rfl,h⟩|⟨rfl,h,hok⟩
 ·obtain⟨rfl,rfl⟩:=Prod.mk.inj h;refine Ab (λ_=>?_) (λh=>absurd (by decide:(0:Int)<1) h);refine⟨rfl,by decide,_,rfl,_,rfl,Ab (λh=>by rw[if_pos (.inl h)];rfl) (λk1=>⟨rfl,?_⟩)⟩;dsimp only;rw[AI];refine Ab (λh=>by rw[if_pos (.inr (.inl h))];rfl) (λk2=>?_);have hp:p.toNat<b.length:=by omega
  refine⟨⟨rfl,rfl⟩,by omega,by omega,⟨rfl,rfl⟩,_,BU hp,_,rfl,?_⟩;rw[<-Dl hp];refine Aa (λh=>by rw[if_pos (.inr (.inr (by simpa using h)))];rfl) (λk3=>?_);rw[Ha];refine⟨⟨rfl,rfl⟩,by omega,by omega,⟨⟨⟨rfl,rfl⟩,rfl⟩,rfl⟩,hp,?_⟩;repeat (refine And.intro rfl ?_)
  rw[Ac _ (by omega)];exact⟨.inr ⟨rfl,rfl,by
   rintro(h|h|h);·exact k1 h
   ·exact k2 h
   ·rw[h]at k3;cases k3⟩,by decide⟩
 ·obtain⟨rfl,rfl⟩:=Prod.mk.inj h;rw[if_neg hok];exact Ab (λh=>absurd h (by simp)) (λ_=>⟨rfl,rfl⟩)
theorem Rz (n:Int)(s:Nat):BZ (be n s)=NL (Cj n s):=by rw[BZ,DO,NL]
theorem Tn (A:List UInt8)(t:bA):Mc [NL A,t]=NL (A++t.data.toList):=AE (by rw[El,Fo];simp[NL])
theorem Nz (a b:bA):Da [a,b]=a.size+b.size:=by simp[Da]
def qB (A:List UInt8):Heap:=[(12500307,.box [aS (NL A)])]
theorem rO (A:List UInt8)(s:bA)(hs:s.size<=65535)(hA:A.length<=1000000):Runs Az 159 [aS s,.ptr 12500307 0] (qB A) (.tup []) (qB (A++MG s)):=by have g:=((bQ s).up Ea).up C5;rw[PY hs]at g;refine De vG rfl (by kernel_rfl) ?_;rw[qB,rR,iD];have g2:=((MT [NL A,BR s] (by simp) (by rw[Nz,Fu,CE];omega)).up Ea).up C5;refine⟨_,_,g,rfl,_,g2,rfl,?_⟩;rw[Tn,CB];rfl
theorem Rg:∀(ks vs:List bA) (k v:bA),vs.length=ks.length->Mw (ks++[k]) (vs++[v])=Mw ks vs++(MG k++MG v)
 | [],[],k,v,_=>by simp[Mw]
 | [],_::_,_,_,h=>by simp at h
 | _::_,[],_,_,h=>by simp at h
 | a::ks,b::vs,k,v,h=>by have:=Rg ks vs k v (by simpa using h);simp only[List.cons_append,Mw,this,List.append_assoc]
theorem Qa:∀(bs:List Int) (ks:List bA) (b:Int) (k:bA),bs.length=ks.length->JS (bs++[b]) (ks++[k])=JS bs ks++(Cj b 2++MG k)
 | [],[],b,k,_=>by simp[JS]
 | [],_::_,_,_,h=>by simp at h
 | _::_,[],_,_,h=>by simp at h
 | a::bs,c::ks,b,k,h=>by have:=Qa bs ks b k (by simpa using h);simp only[List.cons_append,JS,this,List.append_assoc]
theorem Rb:∀(bs:List Int) (ks:List bA) (b:Int),bs.length=ks.length->JS (bs++[b]) ks=JS bs ks++Cj b 2
 | [],[],b,_=>by simp[JS]
 | [],_::_,_,h=>by simp at h
 | _::_,[],_,h=>by simp at h
 | a::bs,c::ks,b,h=>by have:=Rb bs ks b (by simpa using h);simp only[List.cons_append,JS,this,List.append_assoc]
theorem VL {ks vs:List bA}(i:Nat)(hk:∀k∈ks,k.size<=32)(hv:∀v∈vs,v.size<=200)(h:i<=9):(Mw (ks.take i) (vs.take i)).length<=2124:=by
 have:=OV (ks.take i) (vs.take i) (λx hx=>hk x (List.mem_of_mem_take hx)) (λx hx=>hv x (List.mem_of_mem_take hx));have h2:(ks.take i).length<=9:=by rw[List.length_take];omega
 omega
theorem VO {bs:List Int}{ks:List bA}(i:Nat)(hk:∀k∈ks,k.size<=32)(h:ks.length<=9):(JS (bs.take i) (ks.take i)).length<=326:=by
 have:=OZ (bs.take i) (ks.take i) (λx hx=>hk x (List.mem_of_mem_take hx));have h2:(ks.take i).length<=9:=by rw[List.length_take];omega
 omega
noncomputable def Qk (n:Nd):AV:=if NdOK n true then .tup [aS (Du n),aI 0] else .tup [aS (ByteArray.mk (List.toArray [])),aI 1]
theorem AH5 (n:Nd)(hf:Bp n):Runs Az 125 [CO n] [] (Qk n) []:=by
 have g:=(UB n true hf).up C5;refine Ag (c:=c125) rfl rfl ?_;rw[CO,wJ,(AAZ _ _ _ _ _).down,Al,Au];refine⟨_,g,?_⟩;by_cases hok:NdOK n true
 ·rw[decide_eq_true hok,Qk,if_pos hok];obtain⟨hs,h8,_⟩:=hok;have hks:=Io hs.2.1;have g1:=((Cr (n.keys.length:Int) 1 (by omega) (by omega) (by omega) (by rw[show(256:Int) ^ (1:Int).toNat=256 by decide];omega)).up Ea).up C5;rw[lU,show(1:Int).toNat=1 from rfl,Rz]at g1;have hb1:(Cj (n.keys.length:Int) 1).length=1:=Ap _ _;refine Aa (λh=>by cases h) (λ_=>⟨_,_,g1,?_⟩);refine Aa (λhl=>?_) (λhl=>?_)
  ·have hv:n.vals.length=n.keys.length/\∀v∈n.vals,v.size<=200:=by
    rcases hs.2.2 with⟨_,_,h2,h3⟩|⟨h,_⟩
    ·exact⟨h2,h3⟩
    ·rw[hl]at h;cases h
   refine⟨λi p=>0<=i/\i<=n.keys.length/\p.1=NL (Cj (n.keys.length:Int) 1++Mw (n.keys.take i.toNat) (n.vals.take i.toNat)),λi _=>(n.keys.length-i).toNat,⟨rfl,by omega,by omega,by simp[Mw]⟩,?_⟩;rintro i ⟨o,_⟩ ⟨h0,h1,rfl⟩ _;dsimp only;refine Ab (λhlt=>?_) (λhge=>?_)
   ·have hi:i.toNat<n.keys.length:=by omega
    have hj:i.toNat<n.vals.length:=by omega
    have hsm:=VL (ks:=n.keys) (vs:=n.vals) i.toNat (λk hk=>(hks k hk).2) hv.2 (by omega);have hk1:=(hks _ (List.getElem_mem hi)).2;have hv1:=hv.2 _ (List.getElem_mem hj);have c1:=rO (Cj (n.keys.length:Int) 1++Mw (n.keys.take i.toNat) (n.vals.take i.toNat)) n.keys[i.toNat] (by omega) (by rw[List.length_append];omega);have c2:=rO (Cj (n.keys.length:Int) 1++Mw (n.keys.take i.toNat) (n.vals.take i.toNat)++MG n.keys[i.toNat]) n.vals[i.toNat] (by omega) (by simp only[List.length_append,MG,Ap,Aj];omega);refine⟨rfl,h0,_,A0 hi,_,rfl,_,c1,rfl,h0,_,A0 hj,_,rfl,_,c2,?_⟩;repeat (refine And.intro rfl ?_)
    rw[Ac _ (by omega)];refine⟨⟨by omega,by omega,?_⟩,by first|omega|(dsimp only;omega)⟩;rw[show(i+1).toNat=i.toNat+1 by omega,BF hi,BF hj,Rg _ _ _ _ (by rw[List.length_take,List.length_take];omega)];simp only[List.append_assoc]
   ·rw[List.take_of_length_le (by omega),List.take_of_length_le (by omega),Du,F3,hl];rfl
  ·have hv:n.kids.length=n.keys.length+1/\∀b∈n.kids,10<=b/\b<2048:=by
    rcases hs.2.2 with⟨h,_⟩|⟨_,_,_,h2,h3⟩
    ·rw[hl]at h;cases h
    ·exact⟨h2,h3⟩
   refine⟨λi p=>0<=i/\i<=n.kids.length/\p.1=NL (Cj (n.keys.length:Int) 1++JS (n.kids.take i.toNat) (n.keys.take i.toNat)),λi _=>(n.kids.length-i).toNat,⟨rfl,by omega,by omega,by simp[JS]⟩,?_⟩;rintro i ⟨o,_⟩ ⟨h0,h1,rfl⟩ _;dsimp only;refine Ab (λhlt=>?_) (λhge=>?_)
   ·have hi:i.toNat<n.kids.length:=by omega
    have hb:=hv.2 _ (List.getElem_mem hi);have hsm:=VO (bs:=n.kids) (ks:=n.keys) i.toNat (λk hk=>(hks k hk).2) (by omega);have c1:=((Cr n.kids[i.toNat] 2 (by omega) (by omega) (by omega) (by rw[show(256:Int) ^ (2:Int).toNat=65536 by decide];omega)).up Ea).up C5;rw[lU,show(2:Int).toNat=2 from rfl,Rz]at c1;have c2:=((MT [NL (Cj (n.keys.length:Int) 1++JS (n.kids.take i.toNat) (n.keys.take i.toNat)),NL (Cj n.kids[i.toNat] 2)] (by simp) (by rw[Nz,Fu,Fu,List.length_append,Ap,Ap];omega)).up Ea).up C5;rw[Tn,Fo]at c2;refine⟨rfl,h0,_,D1 hi,_,rfl,_,_,c1,rfl,_,c2,Ab (λhk=>?_) (λhk=>?_)⟩
    ·have hj:i.toNat<n.keys.length:=by omega
     have hk1:=(hks _ (List.getElem_mem hj)).2;have c3:=rO (Cj (n.keys.length:Int) 1++JS (n.kids.take i.toNat) (n.keys.take i.toNat)++Cj n.kids[i.toNat] 2) n.keys[i.toNat] (by omega) (by simp only[List.length_append,Ap];omega);refine⟨rfl,h0,_,A0 hj,_,rfl,_,c3,?_⟩;repeat (refine And.intro rfl ?_)
     rw[Ac _ (by omega)];refine⟨⟨by omega,by omega,?_⟩,by first|omega|(dsimp only;omega)⟩;rw[show(i+1).toNat=i.toNat+1 by omega,BF hi,BF hj,Qa _ _ _ _ (by rw[List.length_take,List.length_take];omega)];simp only[List.append_assoc]
    ·repeat (refine And.intro rfl ?_)
     rw[Ac _ (by omega)];refine⟨⟨by omega,by omega,?_⟩,by first|omega|(dsimp only;omega)⟩;have e1:n.keys.take i.toNat=n.keys:=List.take_of_length_le (by omega);have e2:n.keys.take (i.toNat+1)=n.keys:=List.take_of_length_le (by omega);rw[show(i+1).toNat=i.toNat+1 by omega,BF hi,e2,Rb _ _ _ (by rw[List.length_take];omega),e1];simp only[List.append_assoc]
   ·rw[List.take_of_length_le (by omega),List.take_of_length_le (by omega),Du,F3,hl];rfl
 ·rw[decide_eq_false hok,Qk,if_neg hok];exact Aa (λ_=>rfl) (λh=>by cases h)
def fl (L:List (List D)):List D:=L.flatten
theorem Kz {L:List (List D)}{i:Nat}(h:i<L.length):(L.take (i+1)).flatten=(L.take i).flatten++L[i]:=by rw[BF h,List.flatten_append,List.flatten_cons,List.flatten_nil,List.append_nil]
theorem Kb {L:List (List D)}(i:Nat):(L.take i).flatten.length<=L.flatten.length:=by
 have:L.flatten=(L.take i).flatten++(L.drop i).flatten:=by rw[<-List.flatten_append,List.take_append_drop]
 rw[this,List.length_append];omega
theorem jH (L:List (List D))(h1:L.length<=100)(h2:L.flatten.length<=100000):Runs Az 202 [aL (L.map (D.sl 1))] [] (aL L.flatten) []:=by
 have hat:∀ {i:Nat} (h:i<L.length),(L.map (D.sl 1))[i]?=some (.sl 1 L[i]):=λ{i} h=>by simp[h]
 have hlen:(L.map (D.sl 1)).length=L.length:=by simp
 refine Ag (c:=c202) rfl rfl ?_;rw[ACo,(yH _ _).down,hlen];refine⟨λs i=>0<=i/\i<=L.length/\s=((L.take i.toNat).flatten.length:Nat),λ_ i=>(L.length-i).toNat,⟨rfl,by omega,by omega,rfl⟩,?_⟩;rintro s i ⟨h0,hi,rfl⟩ _;have hle:=Kb (L:=L) i.toNat;refine Ab (λhlt=>?_) (λhge=>?_)
 ·have hi':i.toNat<L.length:=by omega
  have hle':=Kb (L:=L) (i.toNat+1);have e:=Kz hi';have e':(L.take (i.toNat+1)).flatten.length=(L.take i.toNat).flatten.length+L[i.toNat].length:=by rw[e,List.length_append]
  refine⟨rfl,h0,_,hat hi',_,rfl,?_⟩;rw[Ac _ (by omega),Ac _ (by omega)];refine Ab (λh=>by omega) (λ_=>?_);repeat (refine And.intro rfl ?_)
  refine⟨⟨by omega,by omega,?_⟩,by first|omega|(dsimp only;omega)⟩;rw[show(i+1).toNat=i.toNat+1 by omega,e'];omega
 ·refine⟨_,_,Ng ACX _ (by omega),λv i r=>0<=i/\i<=L.length/\r.1=v/\r.2=(L.take i.toNat).flatten,λ_ i _=>(L.length-i).toNat,⟨rfl,by omega,by omega,rfl,rfl⟩,?_⟩;rintro v i ⟨v',els⟩ ⟨h0,hi,rfl,rfl⟩ _;dsimp only;have hle:=Kb (L:=L) i.toNat;refine Ab (λhlt=>?_) (λhge=>?_)
  ·have hi':i.toNat<L.length:=by omega
   have hle':=Kb (L:=L) (i.toNat+1);have e:=Kz hi';have e':(L.take (i.toNat+1)).flatten.length=(L.take i.toNat).flatten.length+L[i.toNat].length:=by rw[e,List.length_append]
   refine⟨rfl,h0,_,hat hi',_,rfl,.inl rfl,⟨⟨rfl,rfl⟩,rfl⟩,by omega,?_⟩;repeat (refine And.intro rfl ?_)
   rw[Ac _ (by omega)];refine⟨⟨by omega,by omega,rfl,?_⟩,by first|omega|(dsimp only;omega)⟩;rw[show(i+1).toNat=i.toNat+1 by omega,e]
  ·refine⟨rfl,?_⟩;rw[List.take_of_length_le (by omega)]
theorem AA2 (L:List (List D))(h1:L.length<=100)(h2:L.flatten.length<=100000):Runs Az 203 [aL (L.map (D.sl 1))] [] (aL L.flatten) []:=by
 have hat:∀ {i:Nat} (h:i<L.length),(L.map (D.sl 1))[i]?=some (.sl 1 L[i]):=λ{i} h=>by simp[h]
 have hlen:(L.map (D.sl 1)).length=L.length:=by simp
 refine Ag (c:=c203) rfl rfl ?_;rw[ADf,(AAh _ _).down,hlen];refine⟨λs i=>0<=i/\i<=L.length/\s=((L.take i.toNat).flatten.length:Nat),λ_ i=>(L.length-i).toNat,⟨rfl,by omega,by omega,rfl⟩,?_⟩;rintro s i ⟨h0,hi,rfl⟩ _;have hle:=Kb (L:=L) i.toNat;refine Ab (λhlt=>?_) (λhge=>?_)
 ·have hi':i.toNat<L.length:=by omega
  have hle':=Kb (L:=L) (i.toNat+1);have e:=Kz hi';have e':(L.take (i.toNat+1)).flatten.length=(L.take i.toNat).flatten.length+L[i.toNat].length:=by rw[e,List.length_append]
  refine⟨rfl,h0,_,hat hi',_,rfl,?_⟩;rw[Ac _ (by omega),Ac _ (by omega)];refine Ab (λh=>by omega) (λ_=>?_);repeat (refine And.intro rfl ?_)
  refine⟨⟨by omega,by omega,?_⟩,by first|omega|(dsimp only;omega)⟩;rw[show(i+1).toNat=i.toNat+1 by omega,e'];omega
 ·refine⟨_,_,Ng AAy _ (by omega),λv i r=>0<=i/\i<=L.length/\r.1=v/\r.2=(L.take i.toNat).flatten,λ_ i _=>(L.length-i).toNat,⟨rfl,by omega,by omega,rfl,rfl⟩,?_⟩;rintro v i ⟨v',els⟩ ⟨h0,hi,rfl,rfl⟩ _;dsimp only;have hle:=Kb (L:=L) i.toNat;refine Ab (λhlt=>?_) (λhge=>?_)
  ·have hi':i.toNat<L.length:=by omega
   have hle':=Kb (L:=L) (i.toNat+1);have e:=Kz hi';have e':(L.take (i.toNat+1)).flatten.length=(L.take i.toNat).flatten.length+L[i.toNat].length:=by rw[e,List.length_append]
   refine⟨rfl,h0,_,hat hi',_,rfl,.inl rfl,⟨⟨rfl,rfl⟩,rfl⟩,by omega,?_⟩;repeat (refine And.intro rfl ?_)
   rw[Ac _ (by omega)];refine⟨⟨by omega,by omega,rfl,?_⟩,by first|omega|(dsimp only;omega)⟩;rw[show(i+1).toNat=i.toNat+1 by omega,e]
  ·refine⟨rfl,?_⟩;rw[List.take_of_length_le (by omega)]
theorem jR (L:List (List D))(h1:L.length<=100)(h2:L.flatten.length<=100000):Runs Az 198 [aL (L.map (D.sl 1))] [] (aL L.flatten) []:=by refine Ag (c:=c198) rfl rfl ?_;rw[ADy,AB7];exact⟨_,jH L h1 h2,rfl⟩
theorem ADl (L:List (List D))(h1:L.length<=100)(h2:L.flatten.length<=100000):Runs Az 199 [aL (L.map (D.sl 1))] [] (aL L.flatten) []:=by refine Ag (c:=c199) rfl rfl ?_;rw[wL,wC];exact⟨_,AA2 L h1 h2,rfl⟩
theorem O7 (a b:List bA):AK (a++b)=AK a++AK b:=by simp[AK]
theorem Yl (a b:List Int):il (a++b)=il a++il b:=by simp[il]
theorem Ku (l:List bA)(n:Nat):(AK l).drop n=AK (l.drop n):=by simp[AK,List.map_drop]
theorem Ul (l:List Int)(n:Nat):(il l).drop n=il (l.drop n):=by simp[il,List.map_drop]
theorem TV (l:List bA)(n:Nat):(AK l).take n=AK (l.take n):=by simp[AK,List.map_take]
theorem gS (l:List Int)(n:Nat):(il l).take n=il (l.take n):=by simp[il,List.map_take]
theorem JC (a:List bA)(h:a.length<=1000):Runs Az 198 [aL [.sl 1 (AK a)]] [] (aL (AK a)) []:=by have:=jR [AK a] (by simp) (by simp[Al];omega);simpa using this
theorem Zl (a:List Int)(h:a.length<=1000):Runs Az 199 [aL [.sl 1 (il a)]] [] (aL (il a)) []:=by have:=ADl [il a] (by simp) (by simp[Au];omega);simpa using this
theorem WZ (a b:List bA)(h:a.length+b.length<=1000):Runs Az 198 [aL [.sl 1 (AK a),.sl 1 (AK b)]] [] (aL (AK (a++b))) []:=by have:=jR [AK a,AK b] (by simp) (by simp[Al];omega);simpa[O7] using this
theorem qM (a b:List Int)(h:a.length+b.length<=1000):Runs Az 199 [aL [.sl 1 (il a),.sl 1 (il b)]] [] (aL (il (a++b))) []:=by have:=ADl [il a,il b] (by simp) (by simp[Au];omega);simpa[Yl] using this
theorem mQ (a b c:List bA)(h:a.length+b.length+c.length<=1000):Runs Az 198 [aL [.sl 1 (AK a),.sl 1 (AK b),.sl 1 (AK c)]] [] (aL (AK (a++(b++c)))) []:=by have:=jR [AK a,AK b,AK c] (by simp) (by simp[Al];omega);simpa[O7] using this
noncomputable def VJ (n:Nd):AV:=if Ay n/\n.keys.length=9 then .tup [CO (K9 n),aS (cC n),CO (OM n),aI 0] else .tup [CO GC,aS (ByteArray.mk (List.toArray [])),CO GC,aI 1]
theorem ADL (n:Nd)(hf:Bp n):Runs Az 162 [CO n] [] (VJ n) []:=by
 have g:=(Se n hf).up C5;refine Ag (c:=c162) rfl rfl ?_;rw[CO,zJ,(ACT _ _ _ _ _).down,Al,Al,Au];refine⟨_,g,?_⟩;by_cases hs:Ay n
 ·rw[decide_eq_true hs];refine Aa (λh=>by cases h) (λ_=>Aa (λh=>?_) (λh=>?_))
  ·rw[VJ,if_neg];·rfl
   ·rintro⟨_,h9⟩;rw[h9]at h;simp at h
  ·have h9:n.keys.length=9:=by
    have:(n.keys.length:Int)=9:=by simpa using h
    omega
   rw[VJ,if_pos ⟨hs,h9⟩];have hk4:4<n.keys.length:=by omega
   have ek:cC n=n.keys[4]:=by rw[cC,gI hk4];rfl
   refine⟨rfl,by decide,_,A0 hk4,_,rfl,?_⟩;rw[show Int.toNat 4=4 from rfl,show Int.toNat 5=5 from rfl];simp only[List.drop_zero,List.take_length,TV,Ku,gS,Ul];refine Aa (λhl=>?_) (λhl=>?_)
   ·have hv:n.vals.length=9:=by
     rcases hs.2.2 with⟨_,_,h2,_⟩|⟨h,_⟩
     ·omega
     ·rw[hl]at h;cases h
    refine⟨trivial,by decide,by omega,trivial,_,JC _ (by rw[List.length_take];omega),trivial,by decide,by omega,trivial,_,JC _ (by rw[List.length_take];omega),trivial,by decide,by omega,trivial,_,JC _ (by rw[List.length_drop];omega),trivial,by decide,by omega,trivial,_,JC _ (by rw[List.length_drop];omega),?_⟩;rw[ek,K9,OM,hl];rfl
   ·have hv:n.kids.length=10:=by
     rcases hs.2.2 with⟨h,_⟩|⟨_,_,_,h2,_⟩
     ·rw[hl]at h;cases h
     ·omega
    refine⟨trivial,by decide,by omega,trivial,_,JC _ (by rw[List.length_take];omega),trivial,by decide,by omega,trivial,_,Zl _ (by rw[List.length_take];omega),trivial,by decide,by omega,trivial,_,JC _ (by rw[List.length_drop];omega),trivial,by decide,by omega,trivial,_,Zl _ (by rw[List.length_drop];omega),?_⟩;rw[ek,K9,OM,hl];rfl
 ·rw[decide_eq_false hs,VJ,if_neg λh=>hs h.1];exact Aa (λ_=>rfl) (λh=>by cases h)
noncomputable def I6 (a:Nd)(k:bA)(b:Nd):AV:=
 if Ay a/\Ay b/\a.leaf=b.leaf/\Ay (Av a k b) then .tup [CO (Av a k b),aI 0] else .tup [CO GC,aI 1]
theorem FT {n:Nd}(hs:Ay n)(hl:n.leaf=true):n.kids=[]/\n.vals.length=n.keys.length:=by
 rcases hs.2.2 with⟨_,h1,h2,_⟩|⟨h,_⟩
 ·exact⟨h1,h2⟩
 ·rw[hl]at h;cases h
theorem Em {n:Nd}(hs:Ay n)(hl:n.leaf=false):n.vals=[]/\n.kids.length=n.keys.length+1:=by
 rcases hs.2.2 with⟨h,_⟩|⟨_,h1,_,h2,_⟩
 ·rw[hl]at h;cases h
 ·exact⟨h1,h2⟩
theorem Hb {n:Nd}(hs:Ay n):n.keys.length<=9/\n.vals.length<=9/\n.kids.length<=10:=by
 have h9:=hs.1
 cases hl:n.leaf with
 | true=> obtain⟨h1,h2⟩:=FT hs hl;rw[h1];exact⟨by omega,by omega,by simp⟩
 | false=> obtain⟨h1,h2⟩:=Em hs hl;rw[h1];exact⟨by omega,by simp,by omega⟩
theorem AB0 (a:Nd)(k:bA)(b:Nd)(hfa:Bp a)(hfb:Bp b):Runs Az 169 [CO a,aS k,CO b] [] (I6 a k b) []:=by
 have ga:=(Se a hfa).up C5;have gb:=(Se b hfb).up C5;refine Ag (c:=c169) rfl rfl ?_;rw[CO,CO,xT,(AAc _ _ _ _ _ _ _ _ _ _).down];have no:¬(Ay a/\Ay b/\a.leaf=b.leaf/\Ay (Av a k b))->(.tup [.agg [.n (.bool false),.o (.sl 1 []),.o (.sl 1 []),.o (.sl 1 [])],.n (.int .i64 1)]:AV)=I6 a k b:=λh=>by rw[I6,if_neg h];rfl
 refine⟨_,ga,?_⟩;by_cases ha:Ay a
 ·rw[decide_eq_true ha];refine Aa (λh=>by cases h) (λ_=>⟨_,gb,?_⟩);by_cases hb:Ay b
  ·rw[decide_eq_true hb];refine Aa (λh=>by cases h) (λ_=>Aa (λh=>no λh2=>?_) (λh=>?_));·rw[h2.2.2.1]at h;simp at h
   ·have hab:a.leaf=b.leaf:=by simpa using h
    obtain⟨a1,a2,a3⟩:=Hb ha;obtain⟨b1,b2,b3⟩:=Hb hb;have c1:=WZ a.keys b.keys (by omega);have c2:=WZ a.vals b.vals (by omega);have c3:=qM a.kids b.kids (by omega);refine⟨rfl,_,c1,rfl,_,c2,rfl,_,c3,Aa (λhl=>?_) (λhl=>?_)⟩
    ·have hl:a.leaf=false:=by simpa using hl
     obtain⟨x1,x2⟩:=Em ha hl;obtain⟨y1,y2⟩:=Em hb (hab▸hl);have c4:=mQ a.keys [k] b.keys (by simp;omega);have ej:Av a k b=⟨a.leaf,a.keys++([k]++b.keys),a.vals++b.vals,a.kids++b.kids⟩:=by rw[Av,if_neg (by rw[hl];simp),x1,y1,hl];rfl
     have gj:=(Se (Av a k b) (by rw[ej];exact⟨by simp;omega,by simp;omega,by simp;omega⟩)).up C5;rw[ej,CO]at gj;refine⟨rfl,_,c4,_,gj,?_⟩;by_cases hj:Ay (Av a k b);·rw[<-ej,decide_eq_true hj];refine Aa (λh=>by cases h) (λ_=>?_);rw[I6,if_pos ⟨ha,hb,hab,hj⟩,ej];rfl
     ·rw[<-ej,decide_eq_false hj];exact Aa (λ_=>no λh=>hj h.2.2.2) (λh=>by cases h)
    ·have hl:a.leaf=true:=by simpa using hl
     obtain⟨x1,x2⟩:=FT ha hl;obtain⟨y1,y2⟩:=FT hb (hab▸hl);have ej:Av a k b=⟨a.leaf,a.keys++b.keys,a.vals++b.vals,a.kids++b.kids⟩:=by rw[Av,if_pos hl,x1,y1,hl];rfl
     have gj:=(Se (Av a k b) (by rw[ej];exact⟨by simp;omega,by simp;omega,by simp;omega⟩)).up C5;rw[ej,CO]at gj;refine⟨_,gj,?_⟩;by_cases hj:Ay (Av a k b);·rw[<-ej,decide_eq_true hj];refine Aa (λh=>by cases h) (λ_=>?_);rw[I6,if_pos ⟨ha,hb,hab,hj⟩,ej];rfl
     ·rw[<-ej,decide_eq_false hj];exact Aa (λ_=>no λh=>hj h.2.2.2) (λh=>by cases h)
  ·rw[decide_eq_false hb];exact Aa (λ_=>no λh=>hb h.2.1) (λh=>by cases h)
 ·rw[decide_eq_false ha];exact Aa (λ_=>no λh=>ha h.1) (λh=>by cases h)
theorem D8 {w:Wd}(h:WRight w):WFits w:=by obtain⟨⟨h1,_,h2,_⟩,h3,_,_,_,h4⟩:=h;exact⟨by omega,by omega,by omega,λx hx=>by have:=h4 x hx;omega⟩
def W5 (x:Wd×Int):AV := .tup [Dp x.1,aI x.2]
def Z6 (e:Ed)(v:Nat)(fz:Bool):Heap:=[(8600202,.box [aL (Bk e.w.base),aL (Bk e.w.now),.row 8650102 v,aI e.w.root,aI e.w.gen,aI e.bad]),(8650102,.row fz false v 9 1 (AK e.w.pages))]
def hE (e:Ed)(v:Nat):Heap:=Z6 e v false
theorem p86 (w:Wd)(hp:w.pages.length<=100000):Runs Az 86 [Dp w] [] (.ptr 8600202 0) (hE ⟨w,0⟩ 0):=by
 have key:∃r H',Runs Az 86 [Dp w] [] r H'/\r = .ptr 8600202 0/\H'=hE ⟨w,0⟩ 0:=by refine OK (R:=λr H'=>r = .ptr 8600202 0/\H'=hE ⟨w,0⟩ 0) (c:=c86) rfl rfl ?_;rw[Dp,zW,(AAX _ _ _ _ _ _).down];exact⟨_,_,(((AR HB (AK w.pages) (by rw[Al];omega)).up Ea).up C5),rfl,rfl⟩
 obtain⟨r,H',h,rfl,rfl⟩:=key;exact h
theorem dT (e:Ed)(v:Nat)(hw:WRight e.w)(b d:Int):Runs Az 126 [.ptr 8600202 0,aI b,aI d] (hE e v) (ndN (AN e b d).1) (hE (AN e b d).2 v):=by
 have g:=(ADx e.w (D8 hw) b (d==1)).up C5;rw[PW,if_pos hw]at g;refine De ABl rfl (by kernel_rfl) ?_;unfold hE Z6;rw[kQ,(rY _ _ _ _ _ _ _ _ _ _).down];refine Aa (λh=>?_) (λh=>⟨rfl,?_⟩);·rw[AN,if_pos (by simpa using h)];exact⟨rfl,rfl⟩
 ·have hb:¬(e.bad≠0):=by simpa using h
  rw[AN,if_neg hb]
  cases hh:Ax e.w b (d==1) with
  | none=> rw[hh]at g;exact⟨_,_,_,_,_,g,Aa (λ_=>⟨rfl,rfl⟩) (λh=>by simp at h)⟩
  | some n=>
   rw[hh]at g;refine⟨_,_,_,_,_,g,Aa (λh=>by simp at h) (λ_=>Ab (λh=>?_) (λh=>?_))⟩;·dsimp only;rw[if_pos h];exact⟨rfl,rfl⟩
   ·dsimp only;rw[if_neg h];exact⟨rfl,rfl⟩
theorem eW (e:Ed)(v:Nat)(hw:WRight e.w)(b:Int):Runs Az 127 [.ptr 8600202 0,aI b] (hE e v) (.tup []) (hE (CP e b) v):=by
 have g:=p92 e.w.base e.w.now hw.1 b;refine De AAe rfl (by kernel_rfl) ?_;unfold hE Z6;rw[rN,(qT _ _ _ _ _ _ _ _ _).down];refine Aa (λh=>?_) (λh=>⟨rfl,?_⟩);·rw[CP,if_pos (by simpa using h)];exact⟨rfl,rfl⟩
 ·rw[CP,if_neg (by simpa using h)];by_cases hc:b<10\/b>=e.w.now.length\/tr e.w.now b.toNat=false;·rw[if_pos hc]at g |-;exact⟨_,_,_,g,Aa (λ_=>⟨rfl,rfl⟩) (λh=>by simp at h)⟩
  ·rw[if_neg hc]at g |-;exact⟨_,_,_,g,Aa (λh=>by simp at h) (λ_=>⟨rfl,rfl⟩)⟩
theorem EU (l:List bA)(i:Nat)(x:bA):(AK l).set i (.str x)=AK (l.set i x):=by simp[AK,List.map_set]
theorem DX (l:List Int)(i:Nat)(x:Int):(il l).set i (.int .i64 x)=il (l.set i x):=by simp[il,List.map_set]
theorem Vo (e:Ed)(v:Nat)(hw0:e.bad=0->WRight e.w)(n:Nd)(hf:Bp n):Runs Az 87 [.ptr 8600202 0,CO n] (hE e v) (aI (Ao e n).1) (hE (Ao e n).2 v):=by
 have g1:=AH5 n hf;refine De AFq rfl (by kernel_rfl) ?_;unfold hE Z6;rw[CO,xW,(yT _ _ _ _ _ _ _ _ _ _ _ _).down,Al];refine Aa (λh=>?_) (λh=>?_);·rw[Ao,if_pos (by simpa using h)];exact⟨rfl,rfl⟩
 ·have hb:¬(e.bad≠0):=by simpa using h
  rw[Ao,if_neg hb];have hw:=hw0 (by simpa using hb);have g3:=p54 e.w hw.1;have hgen:1<=e.w.gen/\e.w.gen<=1099511627776:=⟨hw.2.2.1,hw.2.2.2.1⟩
  by_cases hok:NdOK n true
  ·rw[if_neg (by simpa using hok)];rw[Qk,if_pos hok]at g1;have g2:Runs Az 56 [pg (C6 n) e.w.gen (Du n)] [] (.tup [.n (.str (pageB e.w.gen n)),.n (.int .i64 0)]) []:=by have:=((p56 (C6 n) e.w.gen (Du n)).up Ea).up C5;rw[J8,if_pos (OA hok (by omega) (by omega))]at this;exact this
   have hlen:=hw.2.1;have fin:Ae (((0:Int)) != 0) False True:=trivial
   cases hx:firstFree e.w with
   | none=>
    rw[hx]at g3;dsimp only at g3 |-;refine Aa (λhl=>?_) (λhl=>?_);all_goals
     rw[C6,hl]at g2
     exact⟨_,_,g1,Aa (λh=>by simp at h) (λ_=>⟨_,_,g2,Aa (λh=>by simp at h) (λ_=>⟨_,_,_,_,g3,Aa (λ_=>⟨rfl,rfl⟩) (λh=>by simp at h)⟩)⟩)⟩
   | some k=>
    have hk:=(DE hx).1;rw[hx]at g3;dsimp only at g3 |-;refine Aa (λhl=>?_) (λhl=>?_);all_goals
     rw[C6,hl]at g2
     refine⟨_,_,g1,Aa (λh=>by simp at h) (λ_=>⟨_,_,g2,Aa (λh=>by simp at h) (λ_=>⟨_,_,_,_,g3,Aa (λh=>by simp at h) (λ_=>?_)⟩)⟩)⟩
     rw[show Int.toNat ((k:Nat):Int)=k from rfl,EU]
     exact⟨⟨rfl,rfl⟩,by omega,by omega,⟨⟨⟨rfl,rfl⟩,rfl⟩,rfl⟩,by omega,rfl,rfl⟩
  ·rw[if_pos (by simpa using hok)];rw[Qk,if_neg hok]at g1;exact Aa (λhl=>⟨_,_,g1,Aa (λ_=>⟨rfl,rfl⟩) (λh=>by simp at h)⟩) (λhl=>⟨_,_,g1,Aa (λ_=>⟨rfl,rfl⟩) (λh=>by simp at h)⟩)
theorem uT (e:Ed)(v:Nat):Runs Az 88 [.ptr 8600202 0] (hE e v) (W5 (MR e)) (Z6 e v (decide (e.bad=0))):=by
 refine De AIo rfl (by kernel_rfl) ?_;unfold hE Z6;rw[wK,(ACN _ _ _ _ _ _ _ _).down];refine Aa (λh=>?_) (λh=>⟨rfl,?_⟩)
 ·have hb:e.bad≠0:=by simpa using h
  rw[MR,if_pos hb,decide_eq_false hb];exact⟨rfl,rfl⟩
 ·have hb:e.bad=0:=by simpa using h
  rw[MR,if_neg (by simpa using hb),decide_eq_true hb];exact⟨rfl,rfl⟩
def vZ (s:Spl):AV := .agg [aI s.left,aI s.right,aS s.key,aB s.two]
def hG (key val:bA)(e:Ed)(v:Nat):Heap:=(4700305,.box [.ptr 8600202 0,aS key,aS val])::hE e v
theorem cG {w0:Wd}(key val:bA)(e:Ed)(v:Nat)(h:Inv w0 e)(n:Nd)(hf:Bp n):Runs Az 129 [.ptr 4700305 0,CO n] (hG key val e v) (vZ (F8 e n).1) (hG key val (F8 e n).2 v):=by
 have g:=ADL n hf;have s1:=Vo e v (λ_=>h.right) n hf;refine De zM rfl (by kernel_rfl) ?_;unfold hG hE Z6;rw[CO,oJ,(jW _ _ _ _ _ _ _ _ _ _ _ _ _ _).down,Al];refine Ab (λh8=>?_) (λh8=>?_);·rw[F8,if_pos (by omega)];exact⟨_,_,_,_,_,_,_,_,_,s1,rfl,rfl⟩
 ·rw[F8,if_neg (by omega)];by_cases hc:Ay n/\n.keys.length=9
  ·rw[if_neg (by simpa using hc)];rw[VJ,if_pos hc]at g;obtain⟨l1,l2,l3⟩:=Hb hc.1;have fL:Bp (K9 n):=by unfold K9;split<;>refine⟨?_,?_,?_⟩<;>(dsimp only;simp only[List.length_take,List.length_nil];omega)
   have fR:Bp (OM n):=by unfold OM;split<;>refine⟨?_,?_,?_⟩<;>(dsimp only;simp only[List.length_drop,List.length_nil];omega)
   have c1:=Vo e v (λ_=>h.right) (K9 n) fL;have c2:=Vo (Ao e (K9 n)).2 v (λ_=>(BG h).1.right) (OM n) fR;refine⟨_,_,_,_,_,_,_,_,_,_,g,Aa (λh=>by simp at h) (λ_=>?_)⟩;exact⟨_,_,_,_,_,_,_,_,_,c1,_,_,_,_,_,_,_,_,_,c2,rfl,rfl⟩
  ·rw[if_pos hc];rw[VJ,if_neg hc]at g;exact⟨_,_,_,_,_,_,_,_,_,_,g,Aa (λ_=>⟨rfl,rfl⟩) (λh=>by simp at h)⟩
theorem Ua {n:Nd}(hs:Ay n):Bp n:=by obtain⟨h1,h2,h3⟩:=Hb hs;exact⟨by omega,by omega,by omega⟩
theorem pP (l:List bA)(i:Nat)(x:bA):(AK l).take i++D.str x::(AK l).drop i=AK (EI l i x):=by simp[AK,EI,List.map_take,List.map_drop]
theorem oS (l:List Int)(i:Nat)(x:Int):(il l).take i++D.int .i64 x::(il l).drop i=il (EI l i x):=by simp[il,EI,List.map_take,List.map_drop]
theorem Xq {i1 i2:Nat}(h12:i1≠i2)(l:List bA)(x:bA)(k:Nat)(hk:k<=l.length)(hl:l.length<=1000){H:Heap}(h1:H.get i1=some (.row false false 0 9 1 (AK l)))(h2:H.get i2=some (.row false false 0 9 1 [.str x])):
  Runs Az 130 [.row i1 0,aI k,.row i2 0] H (.row i1 1) (H.ins i1 (.row false false 1 9 1 (AK (EI l k x)))):=by
 have:=Iq vC h1 (els':=AK (EI l k x)) (r:=[.n (.int .i64 k),.row i2 0]) (by simp only[MU,h2];rw[if_pos ⟨h12,trivial,by omega,by rw[Al];omega,by rw[Al];omega⟩,show Int.toNat (k:Int)=k from rfl,pP])
 exact this
theorem vN {i1 i2 v:Nat}(h12:i1≠i2)(l:List Int)(x:Int)(k:Nat)(hk:k<=l.length)(hl:l.length<=1000){H:Heap}(h1:H.get i1=some (.row false false v 3 1 (il l)))(h2:H.get i2=some (.row false false 0 3 1 [.int .i64 x])):
  Runs Az 133 [.row i1 v,aI k,.row i2 0] H (.row i1 (v+1)) (H.ins i1 (.row false false (v+1) 3 1 (il (EI l k x)))):=by
 have:=Iq zL h1 (els':=il (EI l k x)) (r:=[.n (.int .i64 k),.row i2 0]) (by simp only[MU,h2];rw[if_pos ⟨h12,trivial,by omega,by rw[Au];omega,by rw[Au];omega⟩,show Int.toNat (k:Int)=k from rfl,oS])
 exact this
set_option maxHeartbeats 4000000 in
theorem p89 {w0:Wd}(key val:bA):∀(f:Nat) (e:Ed) (v:Nat) (b d:Int),d+f=10->1<=d->1<=f->Inv w0 e ->
   Runs Az 89 [.ptr 4700305 0,aI b,aI d] (hG key val e v) (vZ (FP key val f e b d).1) (hG key val (FP key val f e b d).2 v)
 | 0,e,v,b,d,_,_,h,_=>absurd h (by omega)
 | f+1,e,v,b,d,hd,h1,_,hI=>by
  have c1:=dT e v hI.right b d;obtain⟨l1,l2⟩:=DS (b:=b) (d:=d) hI;refine De AIY rfl (by kernel_rfl) ?_;unfold hG hE Z6;rw[AA6,(yF _ _ _ _ _ _ _ _ _ _ _ _).down];refine⟨_,_,_,_,_,_,_,_,_,_,_,_,c1,Aa (λh=>?_) (λh=>?_)⟩
  ·have hb:(AN e b d).2.bad≠0:=by simpa using h
   rw[FP];dsimp only;rw[if_pos hb];exact⟨rfl,rfl⟩
  ·have hb:(AN e b d).2.bad=0:=by simpa using h
   obtain⟨l3,l4,l5,l6⟩:=l2 hb;have hok:=D7 l5;have hs:=hok.1;have hfit:=Ua hs;obtain⟨k1,k2,k3⟩:=Hb hs;obtain⟨d1,d2⟩:=En l1 hb (by rw[l4];exact l5);rw[FP];dsimp only;rw[if_neg (by simpa using hb)];have c2:=eW (AN e b d).2 v l1.right b;generalize (AN e b d).1=n at l5 hok hs hfit k1 k2 k3 |-;generalize (AN e b d).2=e1 at l1 hb d1 d2 c2 |-;refine⟨_,_,_,_,_,_,_,_,c2,?_⟩;generalize CP e1 b=e2 at d1 d2 |-;refine Aa (λhl=>?_) (λhl=>?_)
   ·rw[if_pos hl];obtain⟨v1,v2⟩:=FT hs hl;have hsr:=G9 n.keys key;refine⟨_,_,(lQ n key hfit hs).up C5,Aa (λha=>?_) (λha=>?_)⟩;·have hsl:=iC ha;have c3:=cG key val e2 v d1 (D6 n key val) (by rw[D6,if_pos ha];exact⟨by dsimp only;omega,by dsimp only;rw[List.length_set];omega,by dsimp only;omega⟩);rw[D6,if_pos ha,CO]at c3;refine⟨_,_,(((AR HB (AK n.vals) (by rw[Al];omega)).up Ea).up C5),⟨rfl,rfl⟩,by omega,by rw[Al];omega,⟨⟨⟨rfl,rfl⟩,rfl⟩,rfl⟩,by rw[Al];omega,rfl,?_⟩;rw[show Int.toNat ((CC n.keys key:Nat):Int)=CC n.keys key from rfl,EU,D6,if_pos ha];exact⟨_,_,_,_,_,_,_,_,_,_,_,_,_,_,c3,rfl,rfl⟩
    ·have c3:=cG key val e2 v d1 (D6 n key val) (by rw[D6,if_neg (by rw[ha];simp)];exact⟨by dsimp only;rw[G8 _ hsr];omega,by dsimp only;rw[G8 _ (by omega)];omega,by dsimp only;omega⟩);rw[D6,if_neg (by rw[ha];simp),CO]at c3;rw[D6,if_neg (by rw[ha];simp)];refine⟨_,_,(((AR HB (AK n.keys) (by rw[Al];omega)).up Ea).up C5),_,Xq (by decide) n.keys key (CC n.keys key) hsr (by omega) rfl rfl,_,_,(((AR HB (AK n.vals) (by rw[Al];omega)).up Ea).up C5),_,Xq (by decide) n.vals val (CC n.keys key) (by omega) (by omega) rfl rfl,rfl,rfl,?_⟩;exact⟨_,_,_,_,_,_,_,_,_,_,_,_,_,_,c3,rfl,rfl⟩
   ·rw[if_neg (by rw[hl];simp)];obtain⟨v1,v2⟩:=Em hs hl;have hk:=Xf hs hl key;have hki:=Tl hs.2.1 key;have hkle:=LX n.keys key;rw[hki]at hk;have c3:=(gZ n key hfit hs hl).up C5;rw[hki]at c3;have hd9:d<=8:=l6;have ih:=p89 key val f e2 v ((n.kids[Bl n.keys key]?).getD 0) (d+1) (by omega) (by omega) (by omega) d1;have pi:=(KI (key:=key) (val:=val) f e2 ((n.kids[Bl n.keys key]?).getD 0) (d+1) d1).1;generalize hrr:FP key val f e2 ((n.kids[Bl n.keys key]?).getD 0) (d+1)=r at ih pi |-;rw[gI hk]at ih;obtain⟨s,e3⟩:=r;dsimp only at ih pi |-;rw[Ac (d+1) (by omega)];refine⟨_,c3,rfl,by omega,_,D1 hk,_,rfl,_,_,_,_,_,_,_,_,_,_,_,_,_,_,ih,Aa (λhb3=>?_) (λhb3=>?_)⟩;·rw[if_pos (by simpa using hb3)];exact⟨rfl,rfl⟩
    ·rw[if_neg (by simpa using hb3)];refine⟨_,_,AR XW (il n.kids) (by rw[Au];omega),⟨rfl,rfl⟩,by omega,by rw[Au];omega,⟨⟨⟨rfl,rfl⟩,rfl⟩,rfl⟩,by rw[Au];exact hk,?_⟩;rw[show Int.toNat ((Bl n.keys key:Nat):Int)=Bl n.keys key from rfl,DX];refine Aa (λht=>?_) (λht=>?_);·have c4:=cG key val e3 v pi (Di n (Bl n.keys key) s) (by rw[Di,if_pos ht];exact⟨by dsimp only;rw[G8 _ hkle];omega,by dsimp only;omega,by dsimp only;rw[G8 _ (by rw[List.length_set];omega),List.length_set];omega⟩);rw[Di,if_pos ht,CO]at c4;rw[Di,if_pos ht];rw[Ac _ (by omega)];refine⟨_,_,(((AR HB (AK n.keys) (by rw[Al];omega)).up Ea).up C5),_,Xq (by decide) n.keys s.key (Bl n.keys key) hkle (by omega) rfl rfl,_,vN (v:=0) (by decide) (n.kids.set (Bl n.keys key) s.left) s.right (Bl n.keys key+1) (by rw[List.length_set];omega) (by rw[List.length_set];omega) rfl rfl,rfl,rfl,?_⟩;exact⟨_,_,_,_,_,_,_,_,_,_,_,_,_,_,c4,rfl,rfl⟩
     ·have c4:=cG key val e3 v pi (Di n (Bl n.keys key) s) (by rw[Di,if_neg (by rw[ht];simp)];exact⟨by dsimp only;omega,by dsimp only;omega,by dsimp only;rw[List.length_set];omega⟩);rw[Di,if_neg (by rw[ht];simp),CO]at c4;rw[Di,if_neg (by rw[ht];simp)];exact⟨rfl,_,_,_,_,_,_,_,_,_,_,_,_,_,_,c4,rfl,rfl⟩
theorem p85 (key val:bA):Runs Az 85 [.n (.str key),.n (.str val)] [] (.n (.bool (decide (isPair key val)))) []:=by
 refine Ag (c:=c85) rfl rfl ?_;rw[AHz,(AJM _ _ _).down];refine Ab (λh1=>Ab (λh2=>?_) (λh2=>?_)) (λh1=>?_);·congr 2;rw[decide_eq_decide,isPair];omega
 ·rw[decide_eq_false (by unfold isPair;omega)]
 ·rw[decide_eq_false (by unfold isPair;omega)]
theorem bP (w:Wd)(r:Int)(i:Nat):DU { w with root:=r } i=DU w i:=by
 induction i with
 | zero=>rfl
 | succ i ih=> simp only[DU,ih];rfl
theorem R4 (e:Ed)(r:Int)(n:Nd):Ao { e with w := { e.w with root:=r } } n=((Ao e n).1,{ (Ao e n).2 with w := { (Ao e n).2.w with root:=r } }):=by
 unfold Ao;dsimp only;split;·rfl
 ·split;·rfl
  ·rw[show firstFree { e.w with root:=r } = firstFree e.w from bP e.w r _];cases firstFree e.w<;>rfl
theorem eR {w:Wd}{r:Int}(h:WRight w)(hr:r=0\/(10<=r/\r<w.now.length)):WRight { w with root:=r }:=⟨h.1,h.2.1,h.2.2.1,h.2.2.2.1,hr,h.2.2.2.2.2⟩
theorem p47 (w:Wd)(hf:WFits w)(key val:bA):Runs Az 47 [Dp w,aS key,aS val] [] (W5 (GW w key val)) []:=by
 have g1:=(uN w hf).up C5;have g2:=p85 key val;refine Ag (c:=c47) rfl rfl ?_;rw[Dp,AEB,(AD6 _ _ _ _ _ _ _ _).down];refine⟨_,g1,?_⟩;by_cases hr:WRight w
 ·rw[decide_eq_true hr];refine Aa (λh=>by cases h) (λ_=>⟨_,g2,?_⟩);by_cases hp:isPair key val
  ·rw[decide_eq_true hp];refine Aa (λh=>by cases h) (λ_=>?_);have hlen:w.pages.length<=100000:=by have:=hr.2.1;have:=hr.1.2.2.1;omega
   have hI:=Inv.start hr;rw[GW,if_neg (by simpa using⟨hr,hp⟩)];refine⟨(),_,_,_,_,_,_,_,_,p86 w hlen,Aa (λh0=>?_) (λh0=>?_)⟩
   ·have h0:w.root=0:=by simpa using h0
    rw[Qr,if_pos h0];have c1:=Vo ⟨w,0⟩ 0 (λ_=>hr) ⟨true,[key],[val],[]⟩ ⟨by simp,by simp,by simp⟩;have c2:=uT (BP (Ao ⟨w,0⟩ ⟨true,[key],[val],[]⟩)) 0;exact⟨rfl,rfl,_,_,_,_,_,_,_,_,_,c1,_,_,_,_,_,_,_,_,_,_,_,_,_,_,_,c2,rfl⟩
   ·have h0:w.root≠0:=by simpa using h0
    have c1:=p89 key val 9 ⟨w,0⟩ 0 w.root 1 (by omega) (by omega) (by omega) hI;obtain⟨q1,q2⟩:=KI (key:=key) (val:=val) 9 ⟨w,0⟩ w.root 1 hI;rw[Qr,if_neg h0];dsimp only;generalize FP key val 9 ⟨w,0⟩ w.root 1=r at c1 q1 q2 |-;obtain⟨s,e1⟩:=r;dsimp only at c1 q1 q2 |-;refine⟨_,_,_,_,_,_,_,_,_,_,_,_,_,_,c1,Aa (λht=>?_) (λht=>?_)⟩;·rw[if_pos ht];have hl:(BP (s.left,e1)).bad=0->WRight (BP (s.left,e1)).w:=λhb=>eR q1.right (.inr (by have:=(q2 hb).1;have h2:=q1.nlen;unfold gK at this;show 10<=s.left/\s.left<(e1.w.now.length:Int);omega));have c2:=Vo (BP (s.left,e1)) 0 hl ⟨false,[s.key],[],[s.left,s.right]⟩ ⟨by simp,by simp,by simp⟩;have e3:Ao (BP (s.left,e1)) ⟨false,[s.key],[],[s.left,s.right]⟩=_:=R4 e1 s.left ⟨false,[s.key],[],[s.left,s.right]⟩;rw[e3]at c2;have c3:=uT (BP (Ao e1 ⟨false,[s.key],[],[s.left,s.right]⟩)) 0;exact⟨rfl,rfl,_,_,_,_,_,_,_,_,_,c2,_,_,_,_,_,_,_,_,_,_,_,_,_,_,_,c3,rfl⟩
    ·rw[if_neg (by rw[ht];simp)];have c3:=uT (BP (s.left,e1)) 0;exact⟨_,_,_,_,_,_,_,_,_,_,_,_,_,_,_,c3,rfl⟩
  ·rw[decide_eq_false hp];refine Aa (λ_=>?_) (λh=>by cases h);rw[GW,if_pos (λh=>hp h.2)];rfl
 ·rw[decide_eq_false hr];refine Aa (λ_=>?_) (λh=>by cases h);rw[GW,if_pos (λh=>hr h.1)];rfl
theorem nV (l:List bA)(a b:Nat):(AK l).take a++(AK l).drop b=AK (l.take a++l.drop b):=by simp[AK,List.map_take,List.map_drop]
theorem kJ (l:List Int)(a b:Nat):(il l).take a++(il l).drop b=il (l.take a++l.drop b):=by simp[il,List.map_take,List.map_drop]
theorem Uw {i1 v:Nat}(l:List bA)(k:Nat)(hk:k<l.length){H:Heap}(h1:H.get i1=some (.row false false v 9 1 (AK l))):
  Runs Az 167 [.row i1 v,aI k,aI (k+1:Nat)] H (.row i1 (v+1)) (H.ins i1 (.row false false (v+1) 9 1 (AK (GJ l k)))):=by
 refine Iq zC h1 (els':=AK (GJ l k)) (r:=[.n (.int .i64 k),.n (.int .i64 (k+1:Nat))]) ?_
 simp only[Pc]
 rw[if_pos ⟨by omega,by omega,by rw[Al];omega,by intro h;have:=congrArg List.length h;rw[Al]at this;have h0:l.length=0:=this;omega⟩,show Int.toNat (k:Int)=k from rfl,show Int.toNat ((k+1:Nat):Int)=k+1 from rfl,nV,GJ]
theorem iJ {i1 v:Nat}(l:List Int)(k:Nat)(hk:k<l.length){H:Heap}(h1:H.get i1=some (.row false false v 3 1 (il l))):
  Runs Az 170 [.row i1 v,aI k,aI (k+1:Nat)] H (.row i1 (v+1)) (H.ins i1 (.row false false (v+1) 3 1 (il (GJ l k)))):=by
 refine Iq ACR h1 (els':=il (GJ l k)) (r:=[.n (.int .i64 k),.n (.int .i64 (k+1:Nat))]) ?_
 simp only[Pc]
 rw[if_pos ⟨by omega,by omega,by rw[Au];omega,by intro h;have:=congrArg List.length h;rw[Au]at this;have h0:l.length=0:=this;omega⟩,show Int.toNat (k:Int)=k from rfl,show Int.toNat ((k+1:Nat):Int)=k+1 from rfl,kJ,GJ]
def Shp (n:Nd):Prop:=n.keys.length<=8/\(n.leaf=true/\n.vals.length=n.keys.length/\n.kids=[]\/n.leaf=false/\n.vals=[]/\n.kids.length=n.keys.length+1)
theorem SS {n:Nd}(hs:Ay n)(h8:n.keys.length<=8):Shp n:=by
 refine⟨h8,?_⟩
 cases hl:n.leaf with
 | true=>exact .inl ⟨rfl,(FT hs hl).2,(FT hs hl).1⟩
 | false=>exact .inr ⟨rfl,(Em hs hl).1,(Em hs hl).2⟩
theorem Shp.lens {n:Nd}(h:Shp n):n.keys.length<=8/\n.vals.length<=8/\n.kids.length<=9:=by
 obtain⟨h8,⟨_,h1,h2⟩|⟨_,h1,h2⟩⟩:=h;·rw[h2];exact⟨h8,by omega,by simp⟩
 ·rw[h1];exact⟨h8,by simp,by omega⟩
theorem Shp.fits {n:Nd}(h:Shp n):Bp n:=by obtain⟨h1,h2,h3⟩:=h.lens;exact⟨by omega,by omega,by omega⟩
theorem Shp.leaf {n:Nd}(h:Shp n)(hl:n.leaf=true):n.vals.length=n.keys.length/\n.kids=[]:=by
 rcases h.2 with⟨_,h1,h2⟩|⟨h0,_⟩
 ·exact⟨h1,h2⟩
 ·rw[hl]at h0;cases h0
theorem Shp.inner {n:Nd}(h:Shp n)(hl:n.leaf=false):n.vals=[]/\n.kids.length=n.keys.length+1:=by
 rcases h.2 with⟨h0,_⟩|⟨_,h1,h2⟩
 ·rw[hl]at h0;cases h0
 ·exact⟨h1,h2⟩
theorem AFE (n:Nd)(i:Nat)(hi:i<n.keys.length)(hv:n.vals.length=n.keys.length)(hl:n.keys.length<=1000):Runs Az 134 [CO n,aI i] [] (CO (fO n i)) []:=by refine Ag (c:=c134) rfl rfl ?_;rw[CO,ACd,(ABU _ _ _ _ _ _).down,Ac ((i:Int)+1) (by omega)];refine⟨_,_,(((AR HB (AK n.keys) (by rw[Al];omega)).up Ea).up C5),_,Uw n.keys i hi rfl,_,_,(((AR HB (AK n.vals) (by rw[Al];omega)).up Ea).up C5),_,Uw n.vals i (by omega) rfl,rfl,rfl,?_⟩;rfl
theorem ZW (a b:List bA)(h:a.length+b.length<=1000):Runs Az 202 [aL [.sl 1 (AK a),.sl 1 (AK b)]] [] (aL (AK (a++b))) []:=by have:=jH [AK a,AK b] (by simp) (by simp[Al];omega);simpa[O7] using this
theorem pL (a b:List Int)(h:a.length+b.length<=1000):Runs Az 203 [aL [.sl 1 (il a),.sl 1 (il b)]] [] (aL (il (a++b))) []:=by have:=AA2 [il a,il b] (by simp) (by simp[Au];omega);simpa[Yl] using this
theorem pF (a b c:List bA)(h:a.length+b.length+c.length<=1000):Runs Az 202 [aL [.sl 1 (AK a),.sl 1 (AK b),.sl 1 (AK c)]] [] (aL (AK (a++(b++c)))) []:=by have:=jH [AK a,AK b,AK c] (by simp) (by simp[Al];omega);simpa[O7] using this
def KT (a:Nd)(k:bA)(b:Nd):AV := .tup [CO (Et (Av a k b) (A3 a b)),aS (U0 (Av a k b) (A3 a b)),CO (Gh (Av a k b) (A3 a b))]
theorem ACE (a:Nd)(k:bA)(b:Nd)(ha:Shp a)(hb:Shp b)(hab:a.leaf=b.leaf)(hx:b.keys.length<a.keys.length\/2<=b.keys.length):Runs Az 171 [CO a,aS k,CO b] [] (KT a k b) []:=by
 obtain⟨a1,a2,a3⟩:=ha.lens;obtain⟨b1,b2,b3⟩:=hb.lens;refine Ag (c:=c171) rfl rfl ?_;rw[CO,CO,AAw,(ADw _ _ _ _ _ _ _ _ _ _).down,Al,Al];refine⟨rfl,_,ZW a.keys b.keys (by omega),?_⟩;have tail:∀c:Nat,A3 a b=c->c<a.keys.length+b.keys.length ->
     (a.leaf=true->((0=0)/\(∃x1:LD,Runs Az 202 [aL [.sl 1 (AK a.vals),.sl 1 (AK b.vals)]] [] (aL x1) []/\(rn 1)/\((0:Int)<=c)/\((c:Int)<=((AK (a.keys++b.keys)).length:Int))/\((0:Int)<=c)/\((c:Int)<=((Int.toNat (c:Int):Nat):Int))/\(rn 1)/\((0:Int)<=c)/\((c:Int)<=(x1.length:Int))/\((0:Int)<=c)/\((c:Int)<=((Int.toNat (c:Int):Nat):Int))/\(rn 1)/\((0:Int)<=c) /\
       (∃x2:Mir.D,((AK (a.keys++b.keys))[Int.toNat (c:Int)]?=some x2)/\(∃x3:bA,((D.cells x2)[0]?=some (Mir.D.str x3))/\(rn 1)/\((0:Int)<=c)/\((c:Int)<=((AK (a.keys++b.keys)).length:Int))/\(rn 1)/\((0:Int)<=c)/\((c:Int)<=(x1.length:Int)) /\
         (.tup [(.agg [(.n (.bool true)),(.o (.sl 1 (List.drop 0 (List.take (Int.toNat (c:Int)) (AK (a.keys++b.keys)))))),(.o (.sl 1 (List.drop 0 (List.take (Int.toNat (c:Int)) x1)))),(.o (.sl 1 []))]),(.n (.str x3)),(.agg [(.n (.bool true)),(.o (.sl 1 (List.drop (Int.toNat (c:Int)) (List.take (List.length (AK (a.keys++b.keys))) (AK (a.keys++b.keys)))))),(.o (.sl 1 (List.drop (Int.toNat (c:Int)) (List.take (List.length x1) x1)))),(.o (.sl 1 []))])]:AV)=KT a k b))))) /\
     (a.leaf=false->((0=0)/\(∃x4:LD,Runs Az 202 [aL [.sl 1 (AK a.keys),.sl 1 [.str k],.sl 1 (AK b.keys)]] [] (aL x4) []/\(0=0)/\(∃x5:LD,Runs Az 203 [aL [.sl 1 (il a.kids),.sl 1 (il b.kids)]] [] (aL x5) []/\(rn 1)/\((0:Int)<=c)/\((c:Int)<=(x4.length:Int))/\((0:Int)<=c)/\((c:Int)<=((Int.toNat (c:Int):Nat):Int))/\(rn 1)/\((0:Int)<=((c+1:Nat):Int))/\(((c+1:Nat):Int)<=(x5.length:Int))/\((0:Int)<=((c+1:Nat):Int))/\(((c+1:Nat):Int)<=((Int.toNat ((c+1:Nat):Int):Nat):Int))/\(rn 1)/\((0:Int)<=c) /\
       (∃x6:Mir.D,(x4[Int.toNat (c:Int)]?=some x6)/\(∃x7:bA,((D.cells x6)[0]?=some (Mir.D.str x7))/\(rn 1)/\((0:Int)<=((c+1:Nat):Int))/\(((c+1:Nat):Int)<=(x4.length:Int))/\(rn 1)/\((0:Int)<=((c+1:Nat):Int))/\(((c+1:Nat):Int)<=(x5.length:Int)) /\
         (.tup [(.agg [(.n (.bool false)),(.o (.sl 1 (List.drop 0 (List.take (Int.toNat (c:Int)) x4)))),(.o (.sl 1 [])),(.o (.sl 1 (List.drop 0 (List.take (Int.toNat ((c+1:Nat):Int)) x5))))]),(.n (.str x7)),(.agg [(.n (.bool false)),(.o (.sl 1 (List.drop (Int.toNat ((c+1:Nat):Int)) (List.take (List.length x4) x4)))),(.o (.sl 1 [])),(.o (.sl 1 (List.drop (Int.toNat ((c+1:Nat):Int)) (List.take (List.length x5) x5))))])]:AV)=KT a k b)))))):=by
   intro c hc hlt
   have ec:∀j:Nat,Int.toNat (j:Int)=j:=λj=>rfl
   refine⟨λhl=>?_,λhl=>?_⟩
   ·obtain⟨x1,x2⟩:=ha.leaf hl
    obtain⟨y1,y2⟩:=hb.leaf (hab▸hl)
    have hck:c<(a.keys++b.keys).length:=by rw[List.length_append];omega
    have hlen1:(AK (a.keys++b.keys)).length=a.keys.length+b.keys.length:=by rw[Al,List.length_append]
    have hlen2:(AK (a.vals++b.vals)).length=a.keys.length+b.keys.length:=by rw[Al,List.length_append];omega
    refine⟨rfl,_,ZW a.vals b.vals (by omega),rfl,by omega,by omega,by omega,by rw[ec];omega,rfl,by omega,by omega,by omega,by rw[ec];omega,rfl,by omega,_,A0 hck,_,rfl,rfl,by omega,by omega,rfl,by omega,by omega,?_⟩
    rw[ec,List.take_of_length_le (l:=AK (a.keys++b.keys)) (Nat.le_refl _),List.take_of_length_le (l:=AK (a.vals++b.vals)) (Nat.le_refl _),List.drop_zero,List.drop_zero,TV,TV,Ku,Ku,KT,hc]
    have ej:Av a k b=⟨true,a.keys++b.keys,a.vals++b.vals,[]⟩:=by rw[Av,if_pos hl]
    rw[ej,Et,Gh,U0,if_pos rfl,if_pos rfl]
    dsimp only
    rw[gI hck]
    rfl
   ·obtain⟨x1,x2⟩:=ha.inner hl
    obtain⟨y1,y2⟩:=hb.inner (hab▸hl)
    have hck:c<(a.keys++([k]++b.keys)).length:=by simp only[List.length_append,List.length_singleton];omega
    have hlen1:(AK (a.keys++([k]++b.keys))).length=a.keys.length+b.keys.length+1:=by rw[Al];simp only[List.length_append,List.length_singleton];omega
    have hlen2:(il (a.kids++b.kids)).length=a.keys.length+b.keys.length+2:=by rw[Au,List.length_append];omega
    refine⟨rfl,_,pF a.keys [k] b.keys (by simp only[List.length_singleton];omega),rfl,_,pL a.kids b.kids (by omega),rfl,by omega,by omega,by omega,by rw[ec];omega,rfl,by omega,by omega,by omega,by rw[ec];omega,rfl,by omega,_,A0 hck,_,rfl,rfl,by omega,by omega,rfl,by omega,by omega,?_⟩
    rw[ec,ec,List.take_of_length_le (l:=AK (a.keys++([k]++b.keys))) (Nat.le_refl _),List.take_of_length_le (l:=il (a.kids++b.kids)) (Nat.le_refl _),List.drop_zero,List.drop_zero,TV,gS,Ku,Ul,KT,hc]
    have ej:Av a k b=⟨false,a.keys++k::b.keys,[],a.kids++b.kids⟩:=by rw[Av,if_neg (by rw[hl];simp)]
    rw[ej,Et,Gh,U0,if_neg (by simp),if_neg (by simp)]
    dsimp only
    rw[gI (l:=a.keys++k::b.keys) hck]
    rfl
 refine Ab (λh=>?_) (λh=>?_)
 ·have hc:A3 a b=a.keys.length-1:=if_pos (by omega);obtain⟨t1,t2⟩:=tail _ hc (by omega);have e1:wI ((a.keys.length:Int)-1)=((a.keys.length-1:Nat):Int):=by rw[Ac _ (by omega)];omega
  rw[e1,show wI (((a.keys.length-1:Nat):Int)+1)=((a.keys.length-1+1:Nat):Int) by rw[Ac _ (by omega)];omega];exact Aa t1 t2
 ·have hc:A3 a b=a.keys.length+1:=if_neg (by omega);obtain⟨t1,t2⟩:=tail _ hc (by omega);have e1:wI ((a.keys.length:Int)+1)=((a.keys.length+1:Nat):Int):=by rw[Ac _ (by omega)];omega
  rw[e1,show wI (((a.keys.length+1:Nat):Int)+1)=((a.keys.length+1+1:Nat):Int) by rw[Ac _ (by omega)];omega];exact Aa t1 t2
theorem Tb {α:Type}{l:List α}{i:Nat}{c:α}(h:i+1<l.length):GJ (l.set i c) (i+1)=l.take i++c::l.drop (i+2):=by rw[GJ,BF (by rw[List.length_set];omega),List.getElem_set_self,List.take_set_of_le (Nat.le_refl _),List.drop_set_of_lt (by omega),List.append_assoc];rfl
theorem KN {α:Type}{l:List α}{i:Nat}{c s:α}(h:i+1<l.length):(l.set i c).set (i+1) s=l.take i++c::s::l.drop (i+2):=by rw[UY (c:=c) (by rw[List.getElem?_set_self (by omega)]) (by rw[List.length_set];omega),List.take_set_of_le (Nat.le_refl _),List.drop_set_of_lt (by omega)]
theorem Mz {a b:Nd}(k:bA)(ha:Shp a)(hb:Shp b):Bp (Av a k b)/\(Av a k b).keys.length<=17/\(Av a k b).vals.length<=16/\(Av a k b).kids.length<=18:=by
 obtain⟨a1,a2,a3⟩:=ha.lens;obtain⟨b1,b2,b3⟩:=hb.lens;have key:(Av a k b).keys.length<=17/\(Av a k b).vals.length<=16/\(Av a k b).kids.length<=18:=by
  unfold Av;split;·refine⟨?_,?_,?_⟩<;>(dsimp only;simp only[List.length_append,List.length_cons,List.length_nil];omega)
  ·refine⟨?_,?_,?_⟩<;>(dsimp only;simp only[List.length_append,List.length_cons,List.length_nil];omega)
 exact⟨⟨by omega,by omega,by omega⟩,key⟩
theorem IH {n:Nd}(h:Bp n/\n.keys.length<=17/\n.vals.length<=16/\n.kids.length<=18)(c:Nat):Bp (Et n c)/\Bp (Gh n c):=by
 obtain⟨_,h1,h2,h3⟩:=h;unfold Et Gh;refine⟨?_,?_⟩;·split<;>refine⟨?_,?_,?_⟩<;>(dsimp only;simp only[List.length_take,List.length_nil];omega)
 ·split<;>refine⟨?_,?_,?_⟩<;>(dsimp only;simp only[List.length_drop,List.length_nil];omega)
def hP (key:bA)(e:Ed)(v:Nat):Heap:=(4900504,.box [.ptr 8600202 0,aS key])::hE e v
def hF (key:bA)(e:Ed)(v:Nat)(fz:Bool)(a b:Nat)(K C:List D):Heap:=(4900504,.box [.ptr 8600202 0,aS key])::(hE e v++[(9051502,.row fz false a 9 1 K),(9051505,.row fz false b 3 1 C)])
theorem AA5 (key:bA)(e:Ed)(v:Nat):Runs Az 168 [.ptr 4900504 0] (hP key e v) (.tup []) (hP key (LZ e) v):=by
 refine De ACa rfl (by kernel_rfl) ?_;unfold hP hE Z6;rw[qJ,(kM _ _ _ _ _ _ _ _ _).down];refine Aa (λh=>?_) (λh=>?_);·rw[LZ,if_pos (by simpa using h)];exact⟨rfl,rfl⟩
 ·rw[LZ,if_neg (by simpa using h)];exact⟨rfl,rfl⟩
end Go.Proofs.YtjmpnbbeplgchabGreatDoor.M
