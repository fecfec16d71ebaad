import Derived.Test.YtegndijbpiccgaaGreatDoorR5Pg
import Derived.Test.YtegndijbpiccgaaGreatDoorR5Pq
import Derived.Test.YtegndijbpiccgaaGreatDoorProg
import Derived.Test.YtegndijbpiccgaaGreatDoorMirI
import Derived.Test.YtegndijbpiccgaaGreatDoorMirL
import Derived.KernelRfl
import Derived.Test.YtegndijbpiccgaaGreatDoorR5FunB
import Derived.Test.YtegndijbpiccgaaGreatDoorR5PW
namespace Go.Proofs.YtegndijbpiccgaaGreatDoor.M
set_option linter.unusedVariables false
set_option linter.unusedSimpArgs false
open Go Go.Mir
set_option linter.unusedVariables false
def lowR (n i:Nat):List Bool:=(List.range n).map fun j=>decide (j<i)
theorem lowR_set {n i:Nat} (h:i<n):(lowR n i).set i true=lowR n (i+1):=by
 refine List.ext_getElem (by simp[lowR]) fun j h1 h2 => ?_
 rw[List.getElem_set]
 simp only[lowR,List.getElem_map,List.getElem_range]
 by_cases e:i=j
 · subst e;simp
 · rw[if_neg e,decide_eq_decide];omega
theorem p33 (n:Int):Runs Fs4 33 [.n (.int .i64 n)] [] (if 24≤n∧n≤2048 then .tup [alV (newRow n.toNat) (newRow n.toNat),.n (.int .i64 0)] else .tup [al0,.n (.int .i64 1)]) []:=by
 refine vc_eq fs33 rfl ?_
 rw[vc33,(V33e _ _).down]
 refine sel_dec (fun h=>by rw[if_neg (by omega)];rfl) (fun h1=>sel_dec (fun h=>by rw[if_neg (by omega)];rfl) (fun h2 => ?_))
 rw[if_pos (by omega)]
 have e0:List.replicate n.toNat (D.bool false)=blD (lowR n.toNat 0):=by
   rw[bl_rep];congr 1
   refine List.ext_getElem (by simp[lowR]) fun j h1 h2=>by simp[lowR]
 refine ⟨by omega,by omega,?_⟩
 rw[e0]
 refine ⟨fun i r=>0≤i∧i≤10∧r=(0,blD (lowR n.toNat i.toNat)),fun i _=>(10 - i).toNat,⟨rfl,by decide,by decide,rfl⟩,?_⟩
 rintro i _ ⟨i0,i1,rfl⟩ _
 have el:(blD (lowR n.toNat i.toNat)).length=n.toNat:=by simp[blD,lowR]
 refine sel_dec (fun hlt => ?_) (fun hge => ?_)
 · refine ⟨⟨rfl,rfl⟩,i0,by dsimp only;rw[el];omega,⟨⟨⟨rfl,rfl⟩,rfl⟩,rfl⟩,by dsimp only;rw[el];omega,?_⟩
   repeat (refine And.intro rfl ?_)
   rw[i64_in _ (by omega)]
   refine ⟨⟨by omega,by omega,?_⟩,by first|omega|(dsimp only;omega)⟩
   dsimp only
   rw[blD_set,lowR_set (by omega),show (i+1).toNat=i.toNat+1 by omega]
 · obtain rfl:i=10:=by omega
   have e:lowR n.toNat (10:Int).toNat=newRow n.toNat:=rfl
   rw[e]
   exact ⟨rfl,_,_,(clone_runs fs74 (blD (newRow n.toNat)) (by rw[blD_len,newRow];simp;omega)).up up4,rfl,rfl,rfl⟩
theorem p35 (n:Int) (h:24≤n∧n≤2048):Runs Fs4 35 [.n (.int .i64 n)] [] (.tup [.agg [.row 3500301 0,.o (.sl 2 [])],.n (.int .i64 0)]) [(3500301,.row false true 0 9 1 (sl_ (List.replicate n.toNat empS)))]:=by
 have key:∃r H',Runs Fs4 35 [.n (.int .i64 n)] [] r H'∧(r = .tup [.agg [.row 3500301 0,.o (.sl 2 [])],.n (.int .i64 0)]∧H'=[(3500301,.row false true 0 9 1 (sl_ (List.replicate n.toNat empS)))]):=by
  refine vc_own (R:=fun r H'=>r = .tup [.agg [.row 3500301 0,.o (.sl 2 [])],.n (.int .i64 0)]∧H'=[(3500301,.row false true 0 9 1 (sl_ (List.replicate n.toNat empS)))]) fs35 rfl ?_
  rw[vc35o,(V35oe _ _).down]
  refine sel_dec (fun h=>by omega) (fun h1=>sel_dec (fun h=>by omega) (fun h2=>⟨by omega,by omega,rfl,?_⟩))
  rw[sl_rep]
 obtain ⟨r,H',hr,rfl,rfl⟩:=key
 exact hr
theorem ffUp_no {w:Wd}:∀ {i:Nat},(∀k,k<i→freeAt w k=false)→ffUp w i=none
 | 0,_=>rfl
 | i+1,h=>by rw[ffUp,ffUp_no fun k hk=>h k (by omega)];dsimp only;rw[h i (by omega)];rfl
theorem first_new {n:Nat} (h:24≤n):firstFree (newW n)=some 10:=by
 have hl:(newW n).now.length=n:=by simp[newW,newRow]
 have e:ffUp (newW n) 11=some 10:=by
  rw[ffUp,ffUp_no fun k hk => ?_]
  · dsimp only
    have:freeAt (newW n) 10=true:=by
     unfold freeAt
     rw[show (newW n).base=newRow n from rfl,show (newW n).now=newRow n from rfl,newRow_tr (by omega)];decide
    rw[if_pos this]
  · unfold freeAt
    rw[show (newW n).base=newRow n from rfl,show (newW n).now=newRow n from rfl,newRow_tr (by omega),decide_eq_true (by omega)];rfl
 exact ffUp_up e _ (by omega)
theorem newRow_set {n:Nat} (h:24≤n):(newRow n).set 10 true=newN n:=by
 refine List.ext_getElem (by simp[newRow,newN]) fun j h1 h2 => ?_
 rw[List.getElem_set]
 simp only[newRow,newN,List.getElem_map,List.getElem_range]
 by_cases e:10=j
 · subst e;simp
 · rw[if_neg e,decide_eq_decide];omega
theorem newRow_right {n:Nat} (h:24≤n) (h2:n≤2048):ARight (newRow n) (newRow n):=by
 have e:(newRow n).length=n:=by simp[newRow]
 refine ⟨rfl,by omega,by omega,fun j hj => ?_⟩
 rw[newRow_tr (by omega)];simp;omega
theorem p11 (n:Int):Runs Fs4 11 [.n (.int .i64 n)] [] (if 24≤n∧n≤2048 then .tup [Dev (fmtB n.toNat) [],.n (.int .i64 0)] else .tup [Dev [] [],.n (.int .i64 1)]) []:=by
 have g1:=p33 n
 refine vc_eq fs11 rfl ?_
 rw[vc11,(V11e _ _).down]
 by_cases hn:24≤n∧n≤2048
 · rw[if_pos hn,alV]at g1
   rw[if_pos hn]
   obtain ⟨m,rfl⟩:∃m:Nat,n=m:=⟨n.toNat,by omega⟩
   rw[Int.toNat_natCast]at *
   have hm:24≤m:=by omega
   have hm2:m≤2048:=by omega
   have g2:=(p34 (newW m) (newRow_right hm hm2)).up up4
   rw[first_new hm]at g2
   dsimp only at g2
   rw[show (newW m).base=newRow m from rfl,show (newW m).now=newRow m from rfl,newRow_set hm,alV,alV]at g2
   have g3:=p35 (m:Int) (by omega)
   rw[Int.toNat_natCast]at g3
   have g4:=p37 (newN m) (by rw[newN_len];omega)
   have g5:=(((p36 3 1 (packS (newN m))).up up2).up up3).up up4
   rw[PutPR,if_pos (newN_sz hm2),pg]at g5
   have g6:=(((p38 (fmtSu m)).up up2).up up3).up up4
   rw[SuPut,if_pos (fmtSu_ok hm hm2),suV]at g6
   have el:(sl_ (List.replicate m empS)).length=m:=by simp[sl_]
   refine ⟨_,_,_,g1,sel_intro (fun h=>by simp at h) (fun _=>⟨_,_,_,_,g2,sel_intro (fun h=>by simp at h) (fun _ => .inl ⟨_,_,_,_,_,g3,sel_intro (fun h=>by simp at h) (fun _=>⟨_,g4,_,_,g5,sel_intro (fun h=>by simp at h) (fun _=>⟨_,_,g6,?_⟩)⟩)⟩)⟩)⟩
   refine ⟨⟨rfl,rfl⟩,by decide,by rw[el];omega,⟨⟨⟨rfl,rfl⟩,rfl⟩,rfl⟩,by rw[el];omega,⟨rfl,rfl⟩,by decide,by rw[List.length_set,el];omega,⟨⟨⟨rfl,rfl⟩,rfl⟩,rfl⟩,by rw[List.length_set,el];show 10<m;omega,rfl,?_⟩
   rw[sl_set,sl_set]
   rfl
 · rw[if_neg hn,al0]at g1
   rw[if_neg hn]
   exact ⟨_,_,_,g1,sel_intro (fun _=>rfl) (fun h=>by simp at h)⟩
theorem rep_snoc {α:Type} (n:Nat) (x:α):List.replicate n x++[x]=List.replicate (n+1) x:=by rw[List.replicate_succ']
theorem newN_snoc (k:Nat):newN k++[decide (k≤10)]=newN (k+1):=by simp[newN,List.range_succ]
theorem p14 (n:Nat) (hn:24≤n) (hn2:n≤2048):Runs Fs4 14 [.n (.int .i64 n)] [] (Dev (fmtB n) []) []:=by
 have g1:=(((p39 (fmtSu n) (fmtSu_ok hn hn2)).up up2).up up3).up up4
 have g2:=p40 1 (newN n) (by decide) (by decide) (by rw[newN_len];exact hn2)
 rw[suV]at g1
 refine vc_eq fs14 rfl ?_
 rw[vc14,(V14e _ _).down]
 refine ⟨fun v i x q r=>∃k:Nat,i=k∧v=k∧k≤n∧x=(k,(),())∧q=(k,sl_ (List.replicate k empS))∧r=(k,blD (newN k)),fun _ i _ _ _=>(n - i).toNat,⟨rfl,0,rfl,rfl,by omega,rfl,rfl,rfl⟩,?_⟩
 rintro k _ _ _ _ ⟨_,rfl,rfl,hk,rfl,rfl,rfl⟩ _
 have e1:IntKind.wrap .i64 ((k:Int)+1)=((k+1:Nat):Int):=by rw[i64_in _ (by omega)];omega
 have el:(sl_ (List.replicate k empS)).length=k:=by simp[sl_]
 refine sel_dec (fun hlt => ?_) (fun hge => ?_)
 · rw[e1]
   refine ⟨rfl,.inl rfl,⟨⟨rfl,rfl⟩,rfl⟩,by simp[blD_len,newN_len];omega,rfl,.inl rfl,⟨⟨rfl,rfl⟩,rfl⟩,by simp only[List.length_singleton];rw[el];omega,?_⟩
   repeat (refine And.intro rfl ?_)
   refine ⟨⟨k+1,rfl,rfl,by omega,rfl,?_,?_⟩,by first|omega|(dsimp only;omega)⟩
   · dsimp only
     rw[show D.str (ByteArray.mk (List.toArray []))=D.str empS from rfl,sl_snoc,rep_snoc]
   · dsimp only
     rw[show decide ((k:Int)≤10)=decide (k≤10) by rw[decide_eq_decide];omega,blD_snoc,newN_snoc]
 · obtain rfl:k=n:=by omega
   refine ⟨_,g1,⟨rfl,rfl⟩,by decide,by dsimp only;rw[el];omega,⟨⟨⟨rfl,rfl⟩,rfl⟩,rfl⟩,by dsimp only;rw[el];omega,rfl,_,g2,⟨rfl,rfl⟩,by decide,by dsimp only;rw[List.length_set,el];omega,⟨⟨⟨rfl,rfl⟩,rfl⟩,rfl⟩,by dsimp only;rw[List.length_set,el];omega,rfl,?_⟩
   dsimp only
   rw[sl_set,sl_set]
   rfl
theorem mount_fmt {n:Nat} (hn:24≤n) (hn2:n≤2048):MountR (fmtB n) []=(⟨fmtSu n,0,wdOf (fmtB n) (fmtSu n) (newN n),[]⟩,0):=by
 have d:=fmt_dk hn hn2
 rw[d.mount,Dk.mt]
 have e:scan (fmtF n).su.g 0 (((fmtB n).take 10).drop 2)=[]:=scan_emp (by rw[fmtB_len];omega) (fmt_ring hn 2 (by omega) (by omega))
 rw[e];rfl
theorem rt_fmt {n:Nat} (hn:24≤n) (hn2:n≤2048):Rt (fmtB n) []=true:=(fmt_dk hn hn2).rt
theorem p12:Runs Fs4 12 [] [] (.n (.bool true)) []:=by
 have g1:=p11 24
 rw[if_pos (by decide),Dev]at g1
 have g2:=p16 (fmtB 24) [] (rt_fits (rt_fmt (by omega) (by omega)))
 rw[mount_fmt (by omega) (by omega),fdo,fdV,Dev]at g2
 refine vc_eq fs12 rfl ?_
 rw[vc12,(V12e _).down]
 exact ⟨_,_,_,g1,_,_,_,_,_,_,_,_,_,_,_,_,g2,rfl⟩
theorem p15 (b:List ByteArray) (p:List Wr):Runs Fs4 15 [Dev b p] [] (.n (.bool (decide (b.length≤200∧p.length≤200)))) []:=by
 refine vc_eq fs15 rfl ?_
 rw[Dev,vc15,V15,bk_len,pk_len]
 refine sel_dec (fun h => ?_) (fun h => ?_)
 · congr 2;rw[decide_eq_decide];omega
 · rw[decide_eq_false (fun hx=>by omega)]
theorem p18 (f:Fnd) (hw:WFits f.wd) (hr:(f.ring.length:Int)≤9223372036854775807):Runs Fs4 18 [fdV f,fdV f] [] (.n (.bool true)) []:=by
 have g1:=p49 f.wd f.wd hw
 rw[decide_eq_true rfl,wdV]at g1
 have g2:=(((p50 f.ring hr).up up2).up up3).up up4
 refine vc_eq fs18 rfl ?_
 rw[fdV,vc18,(V18e _ _ _ _ _ _ _ _ _ _ _ _ _ _ _ _ _ _ _ _ _ _ _).down]
 refine sel_intro (fun _=>sel_beq ⟨_,g1,sel_intro (fun _=>⟨_,g2,rfl⟩) (fun h=>by cases h)⟩) (fun h=>by simp at h)
theorem p21 (s:Pw) (hf:Fits s.b s.p):Runs Fs4 21 [pwV s,pwV s] [] (.n (.bool true)) []:=by
 have g:=(((p13 s.b s.p s.b s.p hf hf).up up2).up up3).up up4
 rw[lk_self,Dev]at g
 refine vc_eq fs21 rfl ?_
 rw[pwV,vc21,(V21e _ _ _ _ _ _ _).down]
 exact sel_beq ⟨_,g,rfl⟩
end Go.Proofs.YtegndijbpiccgaaGreatDoor.M
namespace Go.Proofs.YtegndijbpiccgaaGreatDoor.M
set_option linter.unusedVariables false
set_option linter.unusedSimpArgs false
open Go Go.Mir Go.Proofs
@[irreducible] noncomputable def b3:Cmd:=((Tryz.f3.body).bind (trC Tryz.prog [1000031] 3 [] [])).getD .skip
noncomputable def c3:FnC:=⟨3,38,[(.tmp 2)],b3,false,[(.one (.int .i64))],.val (.one .bool),none,false,[]⟩
theorem is3:IsFn Tryz.prog 3 c3:=⟨⟨_,_,[1000031],[],[],Tryz.func3,rfl,(by kernel_rfl),rfl,(by kernel_rfl),(by kernel_rfl)⟩⟩
@[irreducible] noncomputable def b4:Cmd:=((Tryz.f4.body).bind (trC Tryz.prog [1000031] 4 [] [])).getD .skip
noncomputable def c4:FnC:=⟨4,32,[(.tmp 2)],b4,false,[(.agg [(.slo 1),(.slo 2)])],.val (.one .bool),none,false,[]⟩
theorem is4:IsFn Tryz.prog 4 c4:=⟨⟨_,_,[1000031],[],[],Tryz.func4,rfl,(by kernel_rfl),rfl,(by kernel_rfl),(by kernel_rfl)⟩⟩
@[irreducible] noncomputable def b5:Cmd:=((Tryz.f5.body).bind (trC Tryz.prog [1000031] 5 [] [])).getD .skip
noncomputable def c5:FnC:=⟨5,121,[(.tmp 6)],b5,false,[(.agg [(.slo 1),(.slo 2),(.int .i64)]),(.one (.int .i64)),(.one .str)],.val (.one .bool),none,false,[]⟩
theorem is5:IsFn Tryz.prog 5 c5:=⟨⟨_,_,[1000031],[],[],Tryz.func5,rfl,(by kernel_rfl),rfl,(by kernel_rfl),(by kernel_rfl)⟩⟩
noncomputable def own5:List (Nat×Fun):=[(3,.code c3),(4,.code c4),(5,.code c5)]
noncomputable def funs5:List (Nat×Fun):=own5++funs4
noncomputable def Fs5:Nat→Option Fun:=table funs5
set_option maxRecDepth 100000 in
theorem company5:Company Tryz.prog Fs5:=
 .cons is3 <| .cons is4 <| .cons is5 <| company4
theorem up5:FsLe Fs4 Fs5:=table_up (by kernel_rfl)
theorem fs3:Fs5 3=some (.code c3):=rfl
theorem fs4:Fs5 4=some (.code c4):=rfl
theorem fs5:Fs5 5=some (.code c5):=rfl
end Go.Proofs.YtegndijbpiccgaaGreatDoor.M
namespace Go.Proofs.YtegndijbpiccgaaGreatDoor.M
set_option linter.unusedVariables false
set_option linter.unusedSimpArgs false
open Go Go.Mir
set_option linter.unusedVariables false
abbrev qdB_ (p0:Bool):=
 (Runs Fs5 12 [] [] (aB p0) [])
abbrev qdA_ (p0:Int) (p1:Mir.AV→Prop) (p2:LD):=
 (∃x3:Bool,((qdB_ x3)∧(sel x3 (sel (p0==1) (p1 (.n (.bool ((p2.length:Int)==0)))) (p1 (.n (.bool false)))) (p1 (.n (.bool false))))))
def V3 (a0:Int) (R:Mir.AV→Prop):Prop:=
 (∃x0:LD,(∃x1:LD,(∃x2:Int,((Runs Fs5 11 [(aI a0)] [] (.tup [(qbI_ x0 x1),(aI x2)]) [])∧(sel (decide (a0<24)) (qdA_ x2 R x0) (sel (decide (a0 > 2048)) (qdA_ x2 R x0) (∃x5:Bool,((qdB_ x5)∧(sel x5 (sel (x2==0) (∃x6:LD,(∃x7:LD,((Runs Fs5 14 [(aI a0)] [] (qbI_ x6 x7) [])∧(∃x8:Bool,((Runs Fs5 13 [(qbI_ x0 x1),(qbI_ x6 x7)] [] (aB x8) [])∧(R (.n (.bool x8)))))))) (R (.n (.bool false)))) (R (.n (.bool false))))))))))))
def V3e (a0:Int) (R:Mir.AV→Prop):=PLift.up (by delta V3 qbI_ qU_ qdA_ qdB_;exact rfl:V3 a0 R=_)
theorem vc3 (a0:Int) (R:Mir.AV→Prop):Vc Fs5 c3.body (argsQ c3 [(.n (.int .i64 a0))]) [] (endQ c3 R)=V3 a0 R:=by kernel_rfl
def V4 (a0_0:LD) (a0_1:LD) (R:Mir.AV→Prop):Prop:=
 (∃x0:Bool,((Runs Fs5 15 [(qbI_ a0_0 a0_1)] [] (aB x0) [])∧(sel (Bool.not x0) (∃x1:Bool,((qdB_ x1)∧(R (.n (.bool x1))))) (∃x2:Int,(∃x3:Int,(∃x4:Int,(∃x5:Int,(∃x6:Int,(∃x7:LD,(∃x8:LD,(∃x9:LD,(∃x10:Int,(∃x11:Int,(∃x12:LD,(∃x13:Int,((Runs Fs5 16 [(qbI_ a0_0 a0_1)] [] (.tup [(.agg [(aI x2),(aI x3),(aI x4),(aI x5),(aI x6),(aL x7),(aL x8),(aL x9),(aI x10),(aI x11),(aL x12)]),(aI x13)]) [])∧(∃x14:Int,(∃x15:Int,(∃x16:Int,(∃x17:Int,(∃x18:Int,(∃x19:LD,(∃x20:LD,(∃x21:LD,(∃x22:Int,(∃x23:Int,(∃x24:LD,(∃x25:Int,((Runs Fs5 17 [(qbI_ a0_0 a0_1)] [] (.tup [(.agg [(aI x14),(aI x15),(aI x16),(aI x17),(aI x18),(aL x19),(aL x20),(aL x21),(aI x22),(aI x23),(aL x24)]),(aI x25)]) [])∧(∃x26:Bool,((qdB_ x26)∧(sel x26 (sel (x13==x25) (∃x27:Bool,((Runs Fs5 18 [(.agg [(aI x2),(aI x3),(aI x4),(aI x5),(aI x6),(aL x7),(aL x8),(aL x9),(aI x10),(aI x11),(aL x12)]),(.agg [(aI x14),(aI x15),(aI x16),(aI x17),(aI x18),(aL x19),(aL x20),(aL x21),(aI x22),(aI x23),(aL x24)])] [] (aB x27) [])∧(R (.n (.bool x27))))) (R (.n (.bool false)))) (R (.n (.bool false)))))))))))))))))))))))))))))))))))
def V4e (a0_0:LD) (a0_1:LD) (R:Mir.AV→Prop):=PLift.up (by delta V4 qbI_ qU_ qdB_;exact rfl:V4 a0_0 a0_1 R=_)
theorem vc4 (a0_0:LD) (a0_1:LD) (R:Mir.AV→Prop):Vc Fs5 c4.body (argsQ c4 [(.agg [(.o (.sl 1 a0_0)),(.o (.sl 2 a0_1))])]) [] (endQ c4 R)=V4 a0_0 a0_1 R:=by kernel_rfl
abbrev qdC_ (p0 p1:LD) (p2:Int) (p3 p4:LD) (p5:Int) (p6:Bool):=
 (Runs Fs5 21 [(qdj_ p0 p1 p2),(qdj_ p3 p4 p5)] [] (aB p6) [])
abbrev qdD_ (p0:Bool) (p1:Mir.AV→Prop) (p2 p3:LD) (p4 p5:Int) (p6 p7:LD) (p8:Int):=
 (sel (Bool.not p0) (p1 (.n (.bool false))) (∃x18:LD,(∃x19:LD,(∃x20:Int,(∃x21:Int,((Runs Fs5 23 [(qdj_ p2 p3 p4),(.agg [(aI (-1)),qk_])] [] (.tup [(qdj_ x18 x19 x20),(aI x21)]) [])∧(∃x22:Bool,((qdB_ x22)∧(sel x22 (sel (p5==x21) (∃x23:Bool,((qdC_ p6 p7 p8 x18 x19 x20 x23)∧(p1 (.n (.bool x23))))) (p1 (.n (.bool false)))) (p1 (.n (.bool false))))))))))))
def V5 (a0_0:LD) (a0_1:LD) (a0_2:Int) (a1:Int) (a2:ByteArray) (R:Mir.AV→Prop):Prop:=
 (∃x0:Bool,((Runs Fs5 15 [(qbI_ a0_0 a0_1)] [] (aB x0) [])∧(sel (Bool.not x0) (∃x1:Bool,((qdB_ x1)∧(R (.n (.bool x1))))) (∃x2:LD,(∃x3:LD,(∃x4:Int,(∃x5:Int,((Runs Fs5 19 [(qdj_ a0_0 a0_1 a0_2),(aI a1),(aS a2)] [] (.tup [(qdj_ x2 x3 x4),(aI x5)]) [])∧(∃x6:LD,(∃x7:LD,(∃x8:Int,(∃x9:Int,((Runs Fs5 20 [(qdj_ a0_0 a0_1 a0_2)] [] (.tup [(qdj_ x6 x7 x8),(aI x9)]) [])∧(sel (a0_2==0) (∃x10:Bool,((qdB_ x10)∧(sel x10 (sel (x5==140) (sel (x9==140) (∃x11:Bool,((qdC_ x2 x3 x4 a0_0 a0_1 a0_2 x11)∧(sel x11 (∃x12:Bool,((qdC_ x6 x7 x8 a0_0 a0_1 a0_2 x12)∧(R (.n (.bool x12))))) (R (.n (.bool false)))))) (R (.n (.bool false)))) (R (.n (.bool false)))) (R (.n (.bool false)))))) (∃x13:Bool,((Runs Fs5 22 [(qbI_ a0_0 a0_1)] [] (aB x13) [])∧(sel (Bool.not x13) (∃x14:Bool,((qdB_ x14)∧(sel x14 (sel (x5==1) (sel (x9==1) (∃x15:Bool,((qdC_ x2 x3 x4 a0_0 a0_1 a0_2 x15)∧(sel x15 (∃x16:Bool,((qdC_ x6 x7 x8 a0_0 a0_1 a0_2 x16)∧(R (.n (.bool x16))))) (R (.n (.bool false)))))) (R (.n (.bool false)))) (R (.n (.bool false)))) (R (.n (.bool false)))))) (sel (decide (a1<0)) (sel (x5 != 30) (R (.n (.bool false))) (∃x17:Bool,((qdC_ x2 x3 x4 a0_0 a0_1 a0_2 x17)∧(qdD_ x17 R a0_0 a0_1 a0_2 x9 x6 x7 x8)))) (∃x24:LD,(∃x25:LD,(∃x26:Int,(∃x27:Int,((Runs Fs5 23 [(qdj_ a0_0 a0_1 a0_2),(.agg [(aI a1),(aS a2)])] [] (.tup [(qdj_ x24 x25 x26),(aI x27)]) [])∧(sel (x5 != x27) (R (.n (.bool false))) (∃x28:Bool,((qdC_ x2 x3 x4 x24 x25 x26 x28)∧(qdD_ x28 R a0_0 a0_1 a0_2 x9 x6 x7 x8)))))))))))))))))))))))))))
def V5e (a0_0:LD) (a0_1:LD) (a0_2:Int) (a1:Int) (a2:ByteArray) (R:Mir.AV→Prop):=PLift.up (by delta V5 qU_ qdD_ qbI_ qdC_ qj_ qk_ qdj_ qdB_;exact rfl:V5 a0_0 a0_1 a0_2 a1 a2 R=_)
theorem vc5 (a0_0:LD) (a0_1:LD) (a0_2:Int) (a1:Int) (a2:ByteArray) (R:Mir.AV→Prop):Vc Fs5 c5.body (argsQ c5 [(.agg [(.o (.sl 1 a0_0)),(.o (.sl 2 a0_1)),(.n (.int .i64 a0_2))]),(.n (.int .i64 a1)),(.n (.str a2))]) [] (endQ c5 R)=V5 a0_0 a0_1 a0_2 a1 a2 R:=by kernel_rfl
theorem p12':Runs Fs5 12 [] [] (.n (.bool true)) []:=p12.up up5
theorem p3 (n:Int):Runs Fs5 3 [.n (.int .i64 n)] [] (.n (.bool true)) []:=by
 have g1:=(p11 n).up up5
 refine vc_eq fs3 rfl ?_
 rw[vc3,(V3e _ _).down]
 by_cases hn:24≤n∧n≤2048
 · rw[if_pos hn]at g1
   obtain ⟨m,rfl⟩:∃m:Nat,n=m:=⟨n.toNat,by omega⟩
   rw[Int.toNat_natCast]at g1
   have hm:24≤m:=by omega
   have hm2:m≤2048:=by omega
   have g2:=(p14 m hm hm2).up up5
   have hf:=rt_fits (rt_fmt hm hm2)
   have g3:=((((p13 (fmtB m) [] (fmtB m) [] hf hf).up up2).up up3).up up4).up up5
   rw[lk_self]at g3
   rw[Dev]at g1 g2 g3
   refine ⟨_,_,_,g1,sel_dec (fun h=>by omega) (fun _=>sel_dec (fun h=>by omega) (fun _=>⟨_,p12',sel_intro (fun _=>sel_beq ⟨_,_,g2,_,g3,rfl⟩) (fun h=>by cases h)⟩))⟩
 · rw[if_neg hn,Dev]at g1
   refine ⟨_,_,_,g1,sel_dec (fun _=>⟨_,p12',sel_intro (fun _=>sel_beq rfl) (fun h=>by cases h)⟩) (fun h1=>sel_dec (fun _=>⟨_,p12',sel_intro (fun _=>sel_beq rfl) (fun h=>by cases h)⟩) (fun h2=>by omega))⟩
theorem mount_fits {b:List ByteArray} {p:List Wr} (hf:Fits b p):WFits (MountR b p).1.wd∧((MountR b p).1.ring.length:Int)≤9223372036854775807:=by
 have z:WFits fd0.wd∧(fd0.ring.length:Int)≤9223372036854775807:=⟨wd0_fits,by decide⟩
 unfold MountR
 split
 · exact z
 · rename_i h1
   split
   · exact z
   · split
     · exact z
     · split
       · exact z
       · rename_i now hrow
         split
         · exact z
         · have hr:Rt b p=true:=by
             cases h:Rt b p with
             | true=>rfl
             | false=>exact absurd (.inl h) h1
           refine ⟨wdOf_fits (fun x hx=>(tm_T ((rt_tms hr).1 x hx)).2) ?_,?_⟩
           · have:=mapOf_len hrow;omega
           · have:=scan_len (chz (blk b 0) (blk b 1)).1.g ((b.take 10).drop 2) 0
             simp only[List.length_drop,List.length_take]at this
             dsimp only
             omega
theorem p4 (b:List ByteArray) (p:List Wr) (hf:Fits b p):Runs Fs5 4 [Dev b p] [] (.n (.bool true)) []:=by
 have g1:=(p15 b p).up up5
 have g2:=(p16 b p hf).up up5
 have g3:=(p17 b p hf).up up5
 obtain ⟨k1,k2⟩:=mount_fits hf
 have g4:=(p18 (MountR b p).1 k1 k2).up up5
 rw[fdo,fdV,Dev]at g2 g3
 rw[fdV]at g4
 rw[Dev]at g1
 refine vc_eq fs4 rfl ?_
 rw[Dev,vc4,(V4e _ _ _).down]
 exact ⟨_,g1,sel_intro (fun _=>⟨_,p12',rfl⟩) (fun _=>⟨_,_,_,_,_,_,_,_,_,_,_,_,g2,_,_,_,_,_,_,_,_,_,_,_,_,g3,_,p12',sel_intro (fun _=>sel_beq ⟨_,g4,rfl⟩) (fun h=>by cases h)⟩)⟩
theorem p5 (s:Pw) (i:Int) (x:ByteArray) (hf:Fits s.b s.p) (hs:(x.size:Int)≤9223372036854775807) (hl:In64 s.left):Runs Fs5 5 [pwV s,.n (.int .i64 i),.n (.str x)] [] (.n (.bool true)) []:=by
 have g1:=(p15 s.b s.p).up up5
 have g2:=(p19 s i x hf hs hl).up up5
 have g3:=(p20 s hf hl).up up5
 have same:∀t:Pw,Fits t.b t.p→Runs Fs5 21 [.agg [aL (bk t.b),.o (.sl 2 (pk t.p)),aI t.left],.agg [aL (bk t.b),.o (.sl 2 (pk t.p)),aI t.left]] [] (aB true) []:=fun t ht=>by
   have:=(p21 t ht).up up5
   rw[pwV]at this
   exact this
 have g5:=((((p22 s.b s.p hf).up up2).up up3).up up4).up up5
 rw[Dev]at g1 g5
 rw[pwo,pwV,pwV]at g2 g3
 refine vc_eq fs5 rfl ?_
 rw[pwV,vc5,(V5e _ _ _ _ _ _).down]
 refine ⟨_,g1,sel_intro (fun _=>⟨_,p12',rfl⟩) (fun _=>⟨_,_,_,_,g2,_,_,_,_,g3,sel_intro (fun h => ?_) (fun h=>⟨_,g5,?_⟩)⟩)⟩
 · have h:s.left=0:=by simpa using h
   have e1:wrC s i x=(s,140):=by rw[wrC,if_pos h]
   have e2:flC s=(s,140):=by rw[flC,if_pos h]
   rw[e1,e2]
   exact ⟨_,p12',sel_intro (fun _=>sel_beq (sel_beq ⟨_,same s hf,sel_intro (fun _=>⟨_,same s hf,rfl⟩) (fun h=>by cases h)⟩)) (fun h=>by cases h)⟩
 have h:¬s.left=0:=by simpa using h
 by_cases hr:Rt s.b s.p=true
 · rw[hr]
   refine sel_intro (fun h=>by cases h) (fun _ => ?_)
   have g6:=(p23 s (-1,empS) (rt_ok hr) hl (by decide)).up up5
   rw[pwo,pwV,pwV]at g6
   have fd:=rt_fits (doC_rt (c:=(-1,empS)) hr)
   rw[flC_do hr]
   refine sel_dec (fun hi => ?_) (fun hi => ?_)
   · have e1:wrC s i x=(s,30):=by
      have e:CheckE s.b s.p i=30:=by rw[CheckE,if_neg (by rw[hr];simp),if_pos (.inl hi)]
      rw[wrC,if_neg h,e,if_pos (by decide)]
     rw[e1]
     exact sel_intro (fun h=>by simp at h) (fun _=>⟨_,same s hf,sel_intro (fun h=>by cases h) (fun _=>⟨_,_,_,_,g6,_,p12',sel_intro (fun _=>sel_beq ⟨_,same _ fd,rfl⟩) (fun h=>by cases h)⟩)⟩)
   · have g7:=(p23 s (i,x) (rt_ok hr) hl hs).up up5
     rw[pwo,pwV,pwV]at g7
     rw[wrC_do hr (by omega)]
     have fd2:=rt_fits (doC_rt (c:=(i,x)) hr)
     exact ⟨_,_,_,_,g7,sel_intro (fun h=>by simp at h) (fun _=>⟨_,same _ fd2,sel_intro (fun h=>by cases h) (fun _=>⟨_,_,_,_,g6,_,p12',sel_intro (fun _=>sel_beq ⟨_,same _ fd,rfl⟩) (fun h=>by cases h)⟩)⟩)⟩
 · have hr:Rt s.b s.p=false:=by simpa using hr
   rw[hr]
   have e0:CheckE s.b s.p i=1:=by rw[CheckE,if_pos hr]
   have e1:wrC s i x=(s,1):=by rw[wrC,if_neg h,e0,if_pos (by decide)]
   have e2:flC s=(s,1):=by rw[flC,if_neg h,if_neg (by rw[hr];simp)]
   rw[e1,e2]
   exact sel_intro (fun _=>⟨_,p12',sel_intro (fun _=>sel_beq (sel_beq ⟨_,same s hf,sel_intro (fun _=>⟨_,same s hf,rfl⟩) (fun h=>by cases h)⟩)) (fun h=>by cases h)⟩) (fun h=>by cases h)
end Go.Proofs.YtegndijbpiccgaaGreatDoor.M
