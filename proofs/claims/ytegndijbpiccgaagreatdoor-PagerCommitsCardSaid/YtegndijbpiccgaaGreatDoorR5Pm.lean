import Derived.Test.YtegndijbpiccgaaGreatDoorR5Bp
import Derived.Test.YtegndijbpiccgaaGreatDoorR5Call
import Derived.Test.YtegndijbpiccgaaGreatDoorR5Scan
import Derived.Test.YtegndijbpiccgaaGreatDoorR5EdA
namespace Go.Proofs.YtegndijbpiccgaaGreatDoor.M
set_option linter.unusedVariables false
set_option linter.unusedSimpArgs false
open Go Go.Mir
set_option linter.unusedVariables false
structure Fnd where
 su:Su
 slot:Int
 wd:Wd
 ring:List ByteArray
def fd0:Fnd:=⟨su0,0,wd0,[]⟩
structure Pw where
 b:List ByteArray
 p:List Wr
 left:Int
def pw0:Pw:=⟨[],[],0⟩
def pwV (s:Pw):AV := .agg [.o (.sl 1 (bk s.b)),.o (.sl 2 (pk s.p)),.n (.int .i64 s.left)]
def fdV (f:Fnd):AV := .agg [.n (.int .i64 f.su.g),.n (.int .i64 f.su.r),.n (.int .i64 f.su.m),.n (.int .i64 f.su.z),.n (.int .i64 f.slot),.o (.sl 1 (blD f.wd.base)),.o (.sl 1 (blD f.wd.now)),.o (.sl 1 (sl_ f.wd.pages)),.n (.int .i64 f.wd.root),.n (.int .i64 f.wd.gen),.o (.sl 1 (sl_ f.ring))]
def blk (b:List ByteArray) (i:Int):ByteArray:=(b[i.toNat]?).getD empS
theorem blk_at {b:List ByteArray} {i:Int} (h0:0≤i) (h:i<b.length):b[i.toNat]?=some (blk b i):=by
 rw[blk,List.getElem?_eq_getElem (by omega)];rfl
def mapP (g:Int) (now:List Bool):ByteArray:=PageS 3 g (packS now)
theorem mapP_ok {g:Int} {now:List Bool} (h0:0≤g) (h1:g≤1099511627776) (hn:now.length≤2048):pgOK 3 g (packS now):=by
 have:=packS_size now
 exact ⟨by decide,by decide,h0,h1,by omega⟩
theorem mapP_size {g:Int} {now:List Bool} (h0:0≤g) (h1:g≤1099511627776) (hn:now.length≤2048):(mapP g now).size≤4013:=pageS_size _ _ _ (mapP_ok h0 h1 hn)
def chz (x y:ByteArray):Su×Int:=
 if (SGet x).2=0∧((SGet y).2≠0∨(SGet y).1.g≤(SGet x).1.g) then ((SGet x).1,0) else if (SGet y).2=0 then ((SGet y).1,1) else (su0,-1)
theorem chz_best (x y:ByteArray):Best [x,y] 0 2 (chz x y).1 (chz x y).2:=by
 have ex:sAt [x,y] 0=SGet x:=rfl
 have ey:sAt [x,y] 1=SGet y:=rfl
 have two:∀j,j<2→j=0∨j=1:=fun j h=>by omega
 unfold chz
 split
 · rename_i h
   refine .inr ⟨0,rfl,by omega,by omega,?_,fun j _ hj h0 => ?_⟩
   · rw[ex];exact Prod.ext rfl h.1
   · rcases two j hj with rfl|rfl
     · exact ⟨fun h=>by omega,fun h=>by omega⟩
     · rw[ey]at h0 ⊢
       refine ⟨fun h=>by omega,fun _ => ?_⟩
       rcases h.2 with h|h
       · exact absurd h0 h
       · exact h
 · rename_i h
   split
   · rename_i h1
     refine .inr ⟨1,rfl,by omega,by omega,?_,fun j _ hj h0 => ?_⟩
     · rw[ey];exact Prod.ext rfl h1
     · rcases two j hj with rfl|rfl
       · rw[ex]at h0 ⊢
         refine ⟨fun _ => ?_,fun h=>by omega⟩
         dsimp only
         have:=fun hle=>h ⟨h0,.inr hle⟩
         omega
       · exact ⟨fun h=>by omega,fun h=>by omega⟩
   · rename_i h1
     refine .inl ⟨rfl,rfl,fun j _ hj => ?_⟩
     rcases two j hj with rfl|rfl
     · rw[ex];exact fun h0=>h ⟨h0,.inl h1⟩
     · rw[ey];exact h1
noncomputable def mapOf (s:ByteArray) (g z:Int):Option (List Bool):=match GetPR s with
 | .tup [.agg [.n (.int _ k),.n (.int _ g'),.n (.str y)],.n (.int _ e)]=>if e=0∧k=3∧g'≤g∧(UnpR y z).2=0 then some (UnpR y z).1 else none
 | _=>none
noncomputable def rowR (b:List ByteArray) (s:Su):Option (List Bool):=mapOf (blk b s.m) s.g s.z
def pgsOf (b:List ByteArray) (now:List Bool):List ByteArray:=(List.range now.length).map fun i=>if tr now i then (b[i]?).getD empS else empS
def wdOf (b:List ByteArray) (s:Su) (now:List Bool):Wd:=⟨now,now,pgsOf b now,s.r,s.g+1⟩
theorem pgsOf_len (b:List ByteArray) (now:List Bool):(pgsOf b now).length=now.length:=by simp[pgsOf]
noncomputable def MountR (b:List ByteArray) (p:List Wr):Fnd×Int:=
 if Rt b p=false∨p≠[] then (fd0,1)
 else if b.length<24 then (fd0,120)
 else if (chz (blk b 0) (blk b 1)).2<0∨(chz (blk b 0) (blk b 1)).1.z≠b.length∨(chz (blk b 0) (blk b 1)).1.g≥1099511627776 then (fd0,120)
 else match rowR b (chz (blk b 0) (blk b 1)).1 with
  | none=>(fd0,120)
  | some now=>if (ChkR (wdOf b (chz (blk b 0) (blk b 1)).1 now) [(chz (blk b 0) (blk b 1)).1.m]).2≠0 then (fd0,120)
    else (⟨(chz (blk b 0) (blk b 1)).1,(chz (blk b 0) (blk b 1)).2,wdOf b (chz (blk b 0) (blk b 1)).1 now,scan (chz (blk b 0) (blk b 1)).1.g 0 ((b.take 10).drop 2)⟩,0)
abbrev Cl:=Int×ByteArray
def dn (l:Int):Int:=if l > 0 then l - 1 else l
def doC (s:Pw) (c:Cl):Pw×Int:=
 if s.left=0 then (s,140)
 else if c.1<0 then (⟨CrL (fun _=>255) s.b s.p s.p.length,[],dn s.left⟩,0)
 else if c.1≥s.b.length then (s,30)
 else if c.2.size > 4096∨s.p.length≥2048 then (s,2)
 else (⟨s.b,s.p++[nwW c.1 c.2],dn s.left⟩,0)
def runC:Pw→List Cl→Pw×Int
 | s,[]=>(s,0)
 | s,c :: r=>if (doC s c).2≠0 then (s,(doC s c).2) else runC (doC s c).1 r
theorem runC_app:∀(l m:List Cl) (s:Pw),runC s (l++m)=if (runC s l).2≠0 then runC s l else runC (runC s l).1 m
 | [],m,s=>by simp[runC]
 | c :: r,m,s=>by
   rw[List.cons_append,runC,runC]
   split
   · rename_i h;simp[h]
   · exact runC_app r m _
def FitsP (b:List ByteArray) (p:List Wr) (f:Fnd):Prop:=
 Rt b p=true∧suOK f.su∧WRight f.wd∧f.su.z=b.length∧(f.wd.now.length:Int)=b.length∧(f.slot=0∨f.slot=1)∧f.wd.gen=f.su.g+1∧tr f.wd.now f.su.m.toNat=true∧f.wd.root≠f.su.m
noncomputable instance (b:List ByteArray) (p:List Wr) (f:Fnd):Decidable (FitsP b p f):=Classical.propDecidable _
def wrs (b:List ByteArray) (p:List Wr) (pages:List ByteArray) (now:List Bool) (block:Nat):Nat→List Cl
 | 0=>[]
 | i+1=>if 10≤i∧tr now i=true∧i≠block∧blk pages i≠TellS b p i then wrs b p pages now block i++[((i:Int),blk pages i)] else wrs b p pages now block i
def nwSu (f:Fnd) (block:Nat):Su:=⟨f.wd.gen,f.wd.root,block,f.su.z⟩
def nowC (f:Fnd) (block:Nat):List Bool:=(gave f.wd f.su.m).now.set block true
def callsOf (b:List ByteArray) (p:List Wr) (f:Fnd) (block:Nat):List Cl:=
 wrs b p f.wd.pages (nowC f block) block (nowC f block).length++[((block:Int),mapP f.wd.gen (nowC f block)),(-1,empS),(1 - f.slot,SuS (nwSu f block)),(-1,empS)]
def nwFd (f:Fnd) (block:Nat):Fnd:=⟨nwSu f block,1 - f.slot,comW f.wd f.su.m block (mapP f.wd.gen (nowC f block)),[]⟩
noncomputable def CommitR (s:Pw) (f:Fnd):Pw×Fnd×Int:=
 if ¬FitsP s.b s.p f then (pw0,fd0,1)
 else if (ChkR f.wd [f.su.m]).2≠0 then (pw0,fd0,1)
 else if f.wd.gen≥1099511627776 then (pw0,fd0,2)
 else match firstFree (gave f.wd f.su.m) with
  | none=>(pw0,fd0,60)
  | some block=>
    if (runC s (callsOf s.b s.p f block)).2=140 then ((runC s (callsOf s.b s.p f block)).1,fd0,140)
    else if (runC s (callsOf s.b s.p f block)).2≠0 then (pw0,fd0,(runC s (callsOf s.b s.p f block)).2)
    else ((runC s (callsOf s.b s.p f block)).1,nwFd f block,0)
def newN (n:Nat):List Bool:=(List.range n).map fun i=>decide (i≤10)
def fmtB (n:Nat):List ByteArray:=((List.replicate n empS).set 0 (SuS ⟨1,0,10,n⟩)).set 10 (mapP 1 (newN n))
end Go.Proofs.YtegndijbpiccgaaGreatDoor.M
