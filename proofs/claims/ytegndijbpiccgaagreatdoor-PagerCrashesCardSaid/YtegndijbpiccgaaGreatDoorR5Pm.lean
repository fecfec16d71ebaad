import Derived.Test.YtegndijbpiccgaaGreatDoorR5Bp
import Derived.Test.YtegndijbpiccgaaGreatDoorR5Call
import Derived.Test.YtegndijbpiccgaaGreatDoorR5Scan
namespace Go.Proofs.YtegndijbpiccgaaGreatDoor.M
set_option linter.unusedVariables false
set_option linter.unusedSimpArgs false
open Go Go.Mir
structure Fnd where
 su:Su
 slot:Int
 wd:Wd
 ring:List bA
def fd0:Fnd:=⟨L9,0,O2,[]⟩
structure Pw where
 b:List bA
 p:List Wr
 left:Int
def Tz:Pw:=⟨[],[],0⟩
def EG (s:Pw):AV := .agg [aL (bk s.b),.o (.sl 2 (pk s.p)),aI s.left]
def Db (f:Fnd):AV := .agg [aI f.su.g,aI f.su.r,aI f.su.m,aI f.su.z,aI f.slot,aL (Bg f.wd.base),aL (Bg f.wd.now),aL (AG f.wd.pages),aI f.wd.root,aI f.wd.gen,aL (AG f.ring)]
def blk (b:List bA)(i:Int):bA:=(b[i.toNat]?).getD empS
theorem RY {b:List bA}{i:Int}(h0:0<=i)(h:i<b.length):b[i.toNat]?=some (blk b i):=by rw[blk,gI (by omega)];rfl
def Cz (g:Int)(now:List Bool):bA:=C6 3 g (packS now)
theorem Ky {g:Int}{now:List Bool}(h0:0<=g)(h1:g<=1099511627776)(hn:now.length<=2048):pgOK 3 g (packS now):=by have:=MB now;exact⟨by decide,by decide,h0,h1,by omega⟩
theorem Hy {g:Int}{now:List Bool}(h0:0<=g)(h1:g<=1099511627776)(hn:now.length<=2048):(Cz g now).size<=4013:=Il _ _ _ (Ky h0 h1 hn)
def HY (x y:bA):Su×Int:=
 if (SGet x).2=0/\((SGet y).2≠0\/(SGet y).1.g<=(SGet x).1.g) then ((SGet x).1,0) else if (SGet y).2=0 then ((SGet y).1,1) else (L9,-1)
theorem Yj (x y:bA):Ko [x,y] 0 2 (HY x y).1 (HY x y).2:=by
 have ex:Rx [x,y] 0=SGet x:=rfl;have ey:Rx [x,y] 1=SGet y:=rfl;have two:∀j,j<2->j=0\/j=1:=λj h=>by omega
 unfold HY;split
 ·rename_i h;refine .inr ⟨0,rfl,by omega,by omega,?_,λj _ hj h0=>?_⟩;·rw[ex];exact Prod.ext rfl h.1
  ·rcases two j hj with rfl|rfl;·exact⟨λh=>by omega,λh=>by omega⟩
   ·rw[ey]at h0 |-;refine⟨λh=>by omega,λ_=>?_⟩;rcases h.2 with h|h;·exact absurd h0 h
    ·exact h
 ·rename_i h;split
  ·rename_i h1;refine .inr ⟨1,rfl,by omega,by omega,?_,λj _ hj h0=>?_⟩;·rw[ey];exact Prod.ext rfl h1
   ·rcases two j hj with rfl|rfl;·rw[ex]at h0 |-;refine⟨λ_=>?_,λh=>by omega⟩;dsimp only;have:=λhle=>h ⟨h0,.inr hle⟩;omega
    ·exact⟨λh=>by omega,λh=>by omega⟩
  ·rename_i h1;refine .inl ⟨rfl,rfl,λj _ hj=>?_⟩;rcases two j hj with rfl|rfl;·rw[ex];exact λh0=>h ⟨h0,.inl h1⟩
   ·rw[ey];exact h1
noncomputable def LS (s:bA)(g z:Int):Option (List Bool):=match GetPR s with
 | .tup [.agg [.n (.int _ k),.n (.int _ g'),.n (.str y)],.n (.int _ e)]=>if e=0/\k=3/\g'<=g/\(F7 y z).2=0 then some (F7 y z).1 else none
 | _=>none
noncomputable def SS (b:List bA)(s:Su):Option (List Bool):=LS (blk b s.m) s.g s.z
def Gp (b:List bA)(now:List Bool):List bA:=(List.range now.length).map λi=>if tr now i then (b[i]?).getD empS else empS
def G1 (b:List bA)(s:Su)(now:List Bool):Wd:=⟨now,now,Gp b now,s.r,s.g+1⟩
theorem DE (b:List bA)(now:List Bool):(Gp b now).length=now.length:=by simp[Gp]
noncomputable def GJ (b:List bA)(p:List Wr):Fnd×Int:=
 if Rt b p=false\/p≠[] then (fd0,1)
 else if b.length<24 then (fd0,120)
 else if (HY (blk b 0) (blk b 1)).2<0\/(HY (blk b 0) (blk b 1)).1.z≠b.length\/(HY (blk b 0) (blk b 1)).1.g>=1099511627776 then (fd0,120)
 else match SS b (HY (blk b 0) (blk b 1)).1 with
  | none=>(fd0,120)
  | some now=>if (ChkR (G1 b (HY (blk b 0) (blk b 1)).1 now) [(HY (blk b 0) (blk b 1)).1.m]).2≠0 then (fd0,120)
    else (⟨(HY (blk b 0) (blk b 1)).1,(HY (blk b 0) (blk b 1)).2,G1 b (HY (blk b 0) (blk b 1)).1 now,Iq (HY (blk b 0) (blk b 1)).1.g 0 ((b.take 10).drop 2)⟩,0)
abbrev Cl:=Int×bA
def dn (l:Int):Int:=if l > 0 then l-1 else l
def Gw (s:Pw)(c:Cl):Pw×Int:=
 if s.left=0 then (s,140)
 else if c.1<0 then (⟨D7 (λ_=>255) s.b s.p s.p.length,[],dn s.left⟩,0)
 else if c.1>=s.b.length then (s,30)
 else if c.2.size > 4096\/s.p.length>=2048 then (s,2)
 else (⟨s.b,s.p++[nwW c.1 c.2],dn s.left⟩,0)
def AJ:Pw->List Cl->Pw×Int
 | s,[]=>(s,0)
 | s,c::r=>if (Gw s c).2≠0 then (s,(Gw s c).2) else AJ (Gw s c).1 r
theorem K8:∀(l m:List Cl) (s:Pw),AJ s (l++m)=if (AJ s l).2≠0 then AJ s l else AJ (AJ s l).1 m
 | [],m,s=>by simp[AJ]
 | c::r,m,s=>by
  rw[List.cons_append,AJ,AJ];split;·rename_i h;simp[h]
  ·exact K8 r m _
def FitsP (b:List bA)(p:List Wr)(f:Fnd):Prop:=
 Rt b p=true/\suOK f.su/\WRight f.wd/\f.su.z=b.length/\(f.wd.now.length:Int)=b.length/\(f.slot=0\/f.slot=1)/\f.wd.gen=f.su.g+1/\tr f.wd.now f.su.m.toNat=true/\f.wd.root≠f.su.m
noncomputable instance (b:List bA) (p:List Wr) (f:Fnd):Decidable (FitsP b p f):=Classical.propDecidable _
def HA (b:List bA)(p:List Wr)(pages:List bA)(now:List Bool)(block:Nat):Nat->List Cl
 | 0=>[]
 | i+1=>if 10<=i/\tr now i=true/\i≠block/\blk pages i≠TellS b p i then HA b p pages now block i++[((i:Int),blk pages i)] else HA b p pages now block i
def nwSu (f:Fnd)(block:Nat):Su:=⟨f.wd.gen,f.wd.root,block,f.su.z⟩
def AE (f:Fnd)(block:Nat):List Bool:=(gave f.wd f.su.m).now.set block true
def AX (b:List bA)(p:List Wr)(f:Fnd)(block:Nat):List Cl:=
 HA b p f.wd.pages (AE f block) block (AE f block).length++[((block:Int),Cz f.wd.gen (AE f block)),(-1,empS),(1-f.slot,SuS (nwSu f block)),(-1,empS)]
def nwFd (f:Fnd)(block:Nat):Fnd:=⟨nwSu f block,1-f.slot,DM f.wd f.su.m block (Cz f.wd.gen (AE f block)),[]⟩
noncomputable def CommitR (s:Pw)(f:Fnd):Pw×Fnd×Int:=
 if ¬FitsP s.b s.p f then (Tz,fd0,1)
 else if (ChkR f.wd [f.su.m]).2≠0 then (Tz,fd0,1)
 else if f.wd.gen>=1099511627776 then (Tz,fd0,2)
 else match firstFree (gave f.wd f.su.m) with
  | none=>(Tz,fd0,60)
  | some block=>
    if (AJ s (AX s.b s.p f block)).2=140 then ((AJ s (AX s.b s.p f block)).1,fd0,140)
    else if (AJ s (AX s.b s.p f block)).2≠0 then (Tz,fd0,(AJ s (AX s.b s.p f block)).2)
    else ((AJ s (AX s.b s.p f block)).1,nwFd f block,0)
def Hb (n:Nat):List Bool:=(List.range n).map λi=>decide (i<=10)
def Fa (n:Nat):List bA:=((List.replicate n empS).set 0 (SuS ⟨1,0,10,n⟩)).set 10 (Cz 1 (Hb n))
end Go.Proofs.YtegndijbpiccgaaGreatDoor.M
