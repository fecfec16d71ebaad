import Derived.Test.YtegndijbpiccgaaGreatDoorR5Pi
import Derived.Test.YtegndijbpiccgaaGreatDoorR5Pq
import Derived.Test.YtegndijbpiccgaaGreatDoorProg
import Derived.Test.YtegndijbpiccgaaGreatDoorMirI
import Derived.Test.YtegndijbpiccgaaGreatDoorMirL
import Derived.KernelRfl
import Derived.Test.YtegndijbpiccgaaGreatDoorR5FunB
import Derived.Test.YtegndijbpiccgaaGreatDoorR5PW
import Derived.Test.YtegndijbpiccgaaGreatDoorMirN
import Derived.Test.YtegndijbpiccgaaGreatDoorMirO
namespace Go.Proofs.YtegndijbpiccgaaGreatDoor.M
set_option linter.unusedVariables false
set_option linter.unusedSimpArgs false
open Go Go.Mir
set_option linter.unusedVariables false
def lowR (n i:Nat):List Bool:=(List.range n).map fun j=>decide (j<i)
theorem lowR_set {n i:Nat} (h:i<n):(lowR n i).set i true=lowR n (i+1):=by
 refine List.ext_getElem (by simp[lowR]) fun j h1 h2 => ?_
 rw[List.getElem_set]
 simp only[lowR,List.getElem_map,List.getElem_range]
 by_cases e:i=j
 · subst e;simp
 · rw[if_neg e,decide_eq_decide];omega
theorem p33 (n:Int):Runs Fs4 33 [.n (.int .i64 n)] [] (if 24≤n∧n≤2048 then .tup [alV (newRow n.toNat) (newRow n.toNat),.n (.int .i64 0)] else .tup [al0,.n (.int .i64 1)]) []:=by
 refine vc_eq fs33 rfl ?_
 rw[vc33,(V33e _ _).down]
 refine sel_dec (fun h=>by rw[if_neg (by omega)];rfl) (fun h1=>sel_dec (fun h=>by rw[if_neg (by omega)];rfl) (fun h2 => ?_))
 rw[if_pos (by omega)]
 have e0:List.replicate n.toNat (D.bool false)=blD (lowR n.toNat 0):=by
   rw[bl_rep];congr 1
   refine List.ext_getElem (by simp[lowR]) fun j h1 h2=>by simp[lowR]
 refine ⟨by omega,by omega,?_⟩
 rw[e0]
 refine ⟨fun i r=>0≤i∧i≤10∧r=(0,blD (lowR n.toNat i.toNat)),fun i _=>(10 - i).toNat,⟨rfl,by decide,by decide,rfl⟩,?_⟩
 rintro i _ ⟨i0,i1,rfl⟩ _
 have el:(blD (lowR n.toNat i.toNat)).length=n.toNat:=by simp[blD,lowR]
 refine sel_dec (fun hlt => ?_) (fun hge => ?_)
 · refine ⟨⟨rfl,rfl⟩,i0,by dsimp only;rw[el];omega,⟨⟨⟨rfl,rfl⟩,rfl⟩,rfl⟩,by dsimp only;rw[el];omega,?_⟩
   repeat (refine And.intro rfl ?_)
   rw[i64_in _ (by omega)]
   refine ⟨⟨by omega,by omega,?_⟩,by first|omega|(dsimp only;omega)⟩
   dsimp only
   rw[blD_set,lowR_set (by omega),show (i+1).toNat=i.toNat+1 by omega]
 · obtain rfl:i=10:=by omega
   have e:lowR n.toNat (10:Int).toNat=newRow n.toNat:=rfl
   rw[e]
   exact ⟨rfl,_,_,(clone_runs fs74 (blD (newRow n.toNat)) (by rw[blD_len,newRow];simp;omega)).up up4,rfl,rfl,rfl⟩
theorem p35 (n:Int) (h:24≤n∧n≤2048):Runs Fs4 35 [.n (.int .i64 n)] [] (.tup [.agg [.row 3500301 0,.o (.sl 2 [])],.n (.int .i64 0)]) [(3500301,.row false true 0 9 1 (sl_ (List.replicate n.toNat empS)))]:=by
 have key:∃r H',Runs Fs4 35 [.n (.int .i64 n)] [] r H'∧(r = .tup [.agg [.row 3500301 0,.o (.sl 2 [])],.n (.int .i64 0)]∧H'=[(3500301,.row false true 0 9 1 (sl_ (List.replicate n.toNat empS)))]):=by
  refine vc_own (R:=fun r H'=>r = .tup [.agg [.row 3500301 0,.o (.sl 2 [])],.n (.int .i64 0)]∧H'=[(3500301,.row false true 0 9 1 (sl_ (List.replicate n.toNat empS)))]) fs35 rfl ?_
  rw[vc35o,(V35oe _ _).down]
  refine sel_dec (fun h=>by omega) (fun h1=>sel_dec (fun h=>by omega) (fun h2=>⟨by omega,by omega,rfl,?_⟩))
  rw[sl_rep]
 obtain ⟨r,H',hr,rfl,rfl⟩:=key
 exact hr
theorem ffUp_no {w:Wd}:∀ {i:Nat},(∀k,k<i→freeAt w k=false)→ffUp w i=none
 | 0,_=>rfl
 | i+1,h=>by rw[ffUp,ffUp_no fun k hk=>h k (by omega)];dsimp only;rw[h i (by omega)];rfl
theorem first_new {n:Nat} (h:24≤n):firstFree (newW n)=some 10:=by
 have hl:(newW n).now.length=n:=by simp[newW,newRow]
 have e:ffUp (newW n) 11=some 10:=by
  rw[ffUp,ffUp_no fun k hk => ?_]
  · dsimp only
    have:freeAt (newW n) 10=true:=by
     unfold freeAt
     rw[show (newW n).base=newRow n from rfl,show (newW n).now=newRow n from rfl,newRow_tr (by omega)];decide
    rw[if_pos this]
  · unfold freeAt
    rw[show (newW n).base=newRow n from rfl,show (newW n).now=newRow n from rfl,newRow_tr (by omega),decide_eq_true (by omega)];rfl
 exact ffUp_up e _ (by omega)
theorem newRow_set {n:Nat} (h:24≤n):(newRow n).set 10 true=newN n:=by
 refine List.ext_getElem (by simp[newRow,newN]) fun j h1 h2 => ?_
 rw[List.getElem_set]
 simp only[newRow,newN,List.getElem_map,List.getElem_range]
 by_cases e:10=j
 · subst e;simp
 · rw[if_neg e,decide_eq_decide];omega
theorem newRow_right {n:Nat} (h:24≤n) (h2:n≤2048):ARight (newRow n) (newRow n):=by
 have e:(newRow n).length=n:=by simp[newRow]
 refine ⟨rfl,by omega,by omega,fun j hj => ?_⟩
 rw[newRow_tr (by omega)];simp;omega
theorem p11 (n:Int):Runs Fs4 11 [.n (.int .i64 n)] [] (if 24≤n∧n≤2048 then .tup [Dev (fmtB n.toNat) [],.n (.int .i64 0)] else .tup [Dev [] [],.n (.int .i64 1)]) []:=by
 have g1:=p33 n
 refine vc_eq fs11 rfl ?_
 rw[vc11,(V11e _ _).down]
 by_cases hn:24≤n∧n≤2048
 · rw[if_pos hn,alV]at g1
   rw[if_pos hn]
   obtain ⟨m,rfl⟩:∃m:Nat,n=m:=⟨n.toNat,by omega⟩
   rw[Int.toNat_natCast]at *
   have hm:24≤m:=by omega
   have hm2:m≤2048:=by omega
   have g2:=(p34 (newW m) (newRow_right hm hm2)).up up4
   rw[first_new hm]at g2
   dsimp only at g2
   rw[show (newW m).base=newRow m from rfl,show (newW m).now=newRow m from rfl,newRow_set hm,alV,alV]at g2
   have g3:=p35 (m:Int) (by omega)
   rw[Int.toNat_natCast]at g3
   have g4:=p37 (newN m) (by rw[newN_len];omega)
   have g5:=(((p36 3 1 (packS (newN m))).up up2).up up3).up up4
   rw[PutPR,if_pos (newN_sz hm2),pg]at g5
   have g6:=(((p38 (fmtSu m)).up up2).up up3).up up4
   rw[SuPut,if_pos (fmtSu_ok hm hm2),suV]at g6
   have el:(sl_ (List.replicate m empS)).length=m:=by simp[sl_]
   refine ⟨_,_,_,g1,sel_intro (fun h=>by simp at h) (fun _=>⟨_,_,_,_,g2,sel_intro (fun h=>by simp at h) (fun _ => .inl ⟨_,_,_,_,_,g3,sel_intro (fun h=>by simp at h) (fun _=>⟨_,g4,_,_,g5,sel_intro (fun h=>by simp at h) (fun _=>⟨_,_,g6,?_⟩)⟩)⟩)⟩)⟩
   refine ⟨⟨rfl,rfl⟩,by decide,by rw[el];omega,⟨⟨⟨rfl,rfl⟩,rfl⟩,rfl⟩,by rw[el];omega,⟨rfl,rfl⟩,by decide,by rw[List.length_set,el];omega,⟨⟨⟨rfl,rfl⟩,rfl⟩,rfl⟩,by rw[List.length_set,el];show 10<m;omega,rfl,?_⟩
   rw[sl_set,sl_set]
   rfl
 · rw[if_neg hn,al0]at g1
   rw[if_neg hn]
   exact ⟨_,_,_,g1,sel_intro (fun _=>rfl) (fun h=>by simp at h)⟩
theorem mount_fmt {n:Nat} (hn:24≤n) (hn2:n≤2048):MountR (fmtB n) []=(⟨fmtSu n,0,wdOf (fmtB n) (fmtSu n) (newN n),[]⟩,0):=by
 have d:=fmt_dk hn hn2
 rw[d.mount,Dk.mt]
 have e:scan (fmtF n).su.g 0 (((fmtB n).take 10).drop 2)=[]:=scan_emp (by rw[fmtB_len];omega) (fmt_ring hn 2 (by omega) (by omega))
 rw[e];rfl
theorem rt_fmt {n:Nat} (hn:24≤n) (hn2:n≤2048):Rt (fmtB n) []=true:=(fmt_dk hn hn2).rt
theorem p12:Runs Fs4 12 [] [] (.n (.bool true)) []:=by
 have g1:=p11 24
 rw[if_pos (by decide),Dev]at g1
 have g2:=p16 (fmtB 24) [] (rt_fits (rt_fmt (by omega) (by omega)))
 rw[mount_fmt (by omega) (by omega),fdo,fdV,Dev]at g2
 refine vc_eq fs12 rfl ?_
 rw[vc12,(V12e _).down]
 exact ⟨_,_,_,g1,_,_,_,_,_,_,_,_,_,_,_,_,g2,rfl⟩
theorem p15 (b:List ByteArray) (p:List Wr):Runs Fs4 15 [Dev b p] [] (.n (.bool (decide (b.length≤200∧p.length≤200)))) []:=by
 refine vc_eq fs15 rfl ?_
 rw[Dev,vc15,V15,bk_len,pk_len]
 refine sel_dec (fun h => ?_) (fun h => ?_)
 · congr 2;rw[decide_eq_decide];omega
 · rw[decide_eq_false (fun hx=>by omega)]
theorem p18 (f:Fnd) (hw:WFits f.wd) (hr:(f.ring.length:Int)≤9223372036854775807):Runs Fs4 18 [fdV f,fdV f] [] (.n (.bool true)) []:=by
 have g1:=p49 f.wd f.wd hw
 rw[decide_eq_true rfl,wdV]at g1
 have g2:=(((p50 f.ring hr).up up2).up up3).up up4
 refine vc_eq fs18 rfl ?_
 rw[fdV,vc18,(V18e _ _ _ _ _ _ _ _ _ _ _ _ _ _ _ _ _ _ _ _ _ _ _).down]
 refine sel_intro (fun _=>sel_beq ⟨_,g1,sel_intro (fun _=>⟨_,g2,rfl⟩) (fun h=>by cases h)⟩) (fun h=>by simp at h)
theorem p21 (s:Pw) (hf:Fits s.b s.p):Runs Fs4 21 [pwV s,pwV s] [] (.n (.bool true)) []:=by
 have g:=(((p13 s.b s.p s.b s.p hf hf).up up2).up up3).up up4
 rw[lk_self,Dev]at g
 refine vc_eq fs21 rfl ?_
 rw[pwV,vc21,(V21e _ _ _ _ _ _ _).down]
 exact sel_beq ⟨_,g,rfl⟩
end Go.Proofs.YtegndijbpiccgaaGreatDoor.M
namespace Go.Proofs.YtegndijbpiccgaaGreatDoor.M
set_option linter.unusedVariables false
set_option linter.unusedSimpArgs false
open Go Go.Mir Go.Proofs
@[irreducible] noncomputable def b6:Cmd:=((Tryz.f6.body).bind (trC Tryz.prog [1000031] 6 [] [])).getD .skip
noncomputable def c6:FnC:=⟨6,72,[(.tmp 4)],b6,false,[(.agg [(.slo 1),(.slo 2),(.int .i64)]),(.agg [(.int .i64),(.int .i64),(.int .i64),(.int .i64),(.int .i64),(.slo 1),(.slo 1),(.slo 1),(.int .i64),(.int .i64),(.slo 1)])],.val (.one .bool),none,false,[]⟩
theorem is6:IsFn Tryz.prog 6 c6:=⟨⟨_,_,[1000031],[],[],Tryz.func6,rfl,(by kernel_rfl),rfl,(by kernel_rfl),(by kernel_rfl)⟩⟩
noncomputable def own5:List (Nat×Fun):=[(6,.code c6)]
noncomputable def funs5:List (Nat×Fun):=own5++funs4
noncomputable def Fs5:Nat→Option Fun:=table funs5
set_option maxRecDepth 100000 in
theorem company5:Company Tryz.prog Fs5:=
 .cons is6 <| company4
theorem up5:FsLe Fs4 Fs5:=table_up (by kernel_rfl)
theorem fs6:Fs5 6=some (.code c6):=rfl
end Go.Proofs.YtegndijbpiccgaaGreatDoor.M
namespace Go.Proofs.YtegndijbpiccgaaGreatDoor.M
set_option linter.unusedVariables false
set_option linter.unusedSimpArgs false
open Go Go.Mir
set_option linter.unusedVariables false
abbrev qdR_ (p0:Mir.AV→Prop):=
 (∃x1:Bool,((Runs Fs5 12 [] [] (aB x1) [])∧(p0 (.n (.bool x1)))))
def V6 (a0_0:LD) (a0_1:LD) (a0_2:Int) (a1_0:Int) (a1_1:Int) (a1_2:Int) (a1_3:Int) (a1_4:Int) (a1_5:LD) (a1_6:LD) (a1_7:LD) (a1_8:Int) (a1_9:Int) (a1_10:LD) (R:Mir.AV→Prop):Prop:=
 (∃x0:Bool,((Runs Fs5 15 [(qbC_ a0_0 a0_1)] [] (aB x0) [])∧(sel (Bool.not x0) (qdR_ R) (sel (decide ((a1_6.length:Int) > 200)) (qdR_ R) (sel (decide ((a1_7.length:Int) > 200)) (qdR_ R) (∃x4:LD,(∃x5:LD,(∃x6:Int,(∃x7:Int,(∃x8:Int,(∃x9:Int,(∃x10:Int,(∃x11:Int,(∃x12:LD,(∃x13:LD,(∃x14:LD,(∃x15:Int,(∃x16:Int,(∃x17:LD,(∃x18:Int,((Runs Fs5 24 [(qdi_ a0_0 a0_1 a0_2),(.agg (qc9_ a1_0 a1_1 a1_2 a1_3 a1_4 a1_5 a1_6 a1_7 a1_8 a1_9 a1_10))] [] (.tup [(qdi_ x4 x5 x6),(.agg (qc9_ x7 x8 x9 x10 x11 x12 x13 x14 x15 x16 x17)),(aI x18)]) [])∧(∃x19:LD,(∃x20:LD,(∃x21:Int,(∃x22:Int,(∃x23:Int,(∃x24:Int,(∃x25:Int,(∃x26:Int,(∃x27:LD,(∃x28:LD,(∃x29:LD,(∃x30:Int,(∃x31:Int,(∃x32:LD,(∃x33:Int,((Runs Fs5 25 [(qdi_ a0_0 a0_1 a0_2),(.agg (qc9_ a1_0 a1_1 a1_2 a1_3 a1_4 a1_5 a1_6 a1_7 a1_8 a1_9 a1_10))] [] (.tup [(qdi_ x19 x20 x21),(.agg (qc9_ x22 x23 x24 x25 x26 x27 x28 x29 x30 x31 x32)),(aI x33)]) [])∧(∃x34:Bool,((Runs Fs5 12 [] [] (aB x34) [])∧(sel x34 (∃x35:Bool,((Runs Fs5 26 [(qbC_ a0_0 a0_1),(.agg (qc9_ a1_0 a1_1 a1_2 a1_3 a1_4 a1_5 a1_6 a1_7 a1_8 a1_9 a1_10))] [] (aB x35) [])∧(∃x36:Bool,((Runs Fs5 27 [(qbC_ a0_0 a0_1),(.agg (qc9_ a1_0 a1_1 a1_2 a1_3 a1_4 a1_5 a1_6 a1_7 a1_8 a1_9 a1_10))] [] (aB x36) [])∧(sel (x35==x36) (sel (x18==x33) (∃x37:Bool,((Runs Fs5 21 [(qdi_ x4 x5 x6),(qdi_ x19 x20 x21)] [] (aB x37) [])∧(sel x37 (∃x38:Bool,((Runs Fs5 18 [(.agg (qc9_ x7 x8 x9 x10 x11 x12 x13 x14 x15 x16 x17)),(.agg (qc9_ x22 x23 x24 x25 x26 x27 x28 x29 x30 x31 x32))] [] (aB x38) [])∧(R (.n (.bool x38))))) (R (.n (.bool false)))))) (R (.n (.bool false)))) (R (.n (.bool false)))))))) (R (.n (.bool false)))))))))))))))))))))))))))))))))))))))))))
def V6e (a0_0:LD) (a0_1:LD) (a0_2:Int) (a1_0:Int) (a1_1:Int) (a1_2:Int) (a1_3:Int) (a1_4:Int) (a1_5:LD) (a1_6:LD) (a1_7:LD) (a1_8:Int) (a1_9:Int) (a1_10:LD) (R:Mir.AV→Prop):=PLift.up (by delta V6 qc9_ qdi_ qdR_ qbC_ qS_;exact rfl:V6 a0_0 a0_1 a0_2 a1_0 a1_1 a1_2 a1_3 a1_4 a1_5 a1_6 a1_7 a1_8 a1_9 a1_10 R=_)
theorem vc6 (a0_0:LD) (a0_1:LD) (a0_2:Int) (a1_0:Int) (a1_1:Int) (a1_2:Int) (a1_3:Int) (a1_4:Int) (a1_5:LD) (a1_6:LD) (a1_7:LD) (a1_8:Int) (a1_9:Int) (a1_10:LD) (R:Mir.AV→Prop):Vc Fs5 c6.body (argsQ c6 [(.agg [(.o (.sl 1 a0_0)),(.o (.sl 2 a0_1)),(.n (.int .i64 a0_2))]),(.agg [(.n (.int .i64 a1_0)),(.n (.int .i64 a1_1)),(.n (.int .i64 a1_2)),(.n (.int .i64 a1_3)),(.n (.int .i64 a1_4)),(.o (.sl 1 a1_5)),(.o (.sl 1 a1_6)),(.o (.sl 1 a1_7)),(.n (.int .i64 a1_8)),(.n (.int .i64 a1_9)),(.o (.sl 1 a1_10))])]) [] (endQ c6 R)=V6 a0_0 a0_1 a0_2 a1_0 a1_1 a1_2 a1_3 a1_4 a1_5 a1_6 a1_7 a1_8 a1_9 a1_10 R:=by kernel_rfl
theorem p12':Runs Fs5 12 [] [] (.n (.bool true)) []:=p12.up up5
theorem pw0_fits:Fits pw0.b pw0.p:=⟨by decide,by decide,fun s hs=>(by cases hs),fun x hx=>(by cases hx)⟩
theorem nwFd_fits {b:List ByteArray} {p:List Wr} {f:Fnd} {block:Nat} (r:Rdy b p f block):WFits (nwFd f block).wd:=by
 obtain ⟨hr,hsu,hw,hz,hn,hs,hgn,ht,hro⟩:=r.fits
 obtain ⟨k1,k2,k3,k4⟩:=r.facts
 have h1:=hw.1.2.2.1
 have h2:=hw.2.2.1
 have h3:=r.gen
 have e:(nwFd f block).wd.now=nowC f block:=rfl
 have e2:(nwFd f block).wd.base=nowC f block:=rfl
 have hms:=mapP_size (g:=f.wd.gen) (now:=nowC f block) (by omega) (by omega) (by omega)
 refine ⟨by rw[e2];unfold Small;omega,by rw[e];unfold Small;omega,by rw[nwFd_pages,List.length_set,hw.2.1];unfold Small;omega,fun x hx => ?_⟩
 rw[nwFd_pages]at hx
 unfold Small
 rcases List.mem_or_eq_of_mem_set hx with h|rfl
 · have:=hw.2.2.2.2.2 x h;omega
 · omega
theorem commit_fits (s:Pw) (f:Fnd):Fits (CommitR s f).1.b (CommitR s f).1.p∧WFits (CommitR s f).2.1.wd∧(CommitR s f).2.1.ring=[]:=by
 have z:Fits pw0.b pw0.p∧WFits fd0.wd∧fd0.ring=[]:=⟨pw0_fits,wd0_fits,rfl⟩
 by_cases hf:FitsP s.b s.p f
 · by_cases hc:(ChkR f.wd [f.su.m]).2=0
   · by_cases hg:f.wd.gen≥1099511627776
     · rw[CommitR,if_neg (by simpa using hf),if_neg (by simpa using hc),if_pos hg];exact z
     · cases hff:firstFree (gave f.wd f.su.m) with
       | none=>rw[commit_none hf hc (by omega) hff];exact z
       | some block=>
         have r:Rdy s.b s.p f block:=⟨hf,hc,by omega,hff⟩
         have k:=rt_fits (runC_rt (callsOf s.b s.p f block) hf.1)
         rw[commit_some r]
         split
         · exact ⟨k,wd0_fits,rfl⟩
         · split
           · exact z
           · exact ⟨k,nwFd_fits r,rfl⟩
   · rw[CommitR,if_neg (by simpa using hf),if_pos hc];exact z
 · rw[CommitR,if_pos hf];exact z
theorem p6 (s:Pw) (f:Fnd) (hfs:Fits s.b s.p) (hw:WFits f.wd) (hl:In64 s.left):Runs Fs5 6 [pwV s,fdV f] [] (.n (.bool true)) []:=by
 have g1:=(p15 s.b s.p).up up5
 have g2:=(p24 s f hfs hw hl).up up5
 have g3:=(p25 s f hfs hw hl).up up5
 have g4:=(p26 s.b s.p f hfs hw).up up5
 have g5:=(p27 s.b s.p f hfs hw).up up5
 obtain ⟨k1,k2,k3⟩:=commit_fits s f
 have g6:=(p21 (CommitR s f).1 k1).up up5
 have g7:=(p18 (CommitR s f).2.1 k2 (by rw[k3];decide)).up up5
 rw[Dev]at g1 g4 g5
 rw[cmV,pwV,pwV,fdV,fdV]at g2 g3
 rw[fdV]at g4 g5 g7
 rw[pwV]at g6
 refine vc_eq fs6 rfl ?_
 rw[pwV,fdV,vc6,(V6e _ _ _ _ _ _ _ _ _ _ _ _ _ _ _).down]
 have al:∃x:Bool,Runs Fs5 12 [] [] (aB x) []∧AV.n (D.bool x) = .n (.bool true):=⟨_,p12',rfl⟩
 refine ⟨_,g1,sel_intro (fun _=>al) (fun _=>sel_dec (fun _=>al) (fun _=>sel_dec (fun _=>al) (fun _ => ?_)))⟩
 exact ⟨_,_,_,_,_,_,_,_,_,_,_,_,_,_,_,g2,_,_,_,_,_,_,_,_,_,_,_,_,_,_,_,g3,_,p12',sel_intro (fun _=>⟨_,g4,_,g5,sel_beq (sel_beq ⟨_,g6,sel_intro (fun _=>⟨_,g7,rfl⟩) (fun h=>by cases h)⟩)⟩) (fun h=>by cases h)⟩
theorem in64 {n:Int} (h:(Lit.int .i64 n).wf=true):In64 n:=by
 simp only[Lit.wf,Bool.and_eq_true,decide_eq_true_eq]at h
 have e1:IntKind.min .i64 = -9223372036854775808:=by decide
 have e2:IntKind.max .i64=9223372036854775807:=by decide
 unfold In64
 omega
abbrev pwT:Mir.Ty := .st [.st [.sl .str,.sl (.st [.int .i64,.str])],.int .i64]
def toPw (x:pwT.T):Pw:=match x with
 | ((b,p,_),l,_)=>⟨b,p,l⟩
theorem pw_av (x:pwT.T):pwT.av x=pwV (toPw x):=by
 obtain ⟨⟨b,p,_⟩,l,_⟩:=x;rfl
theorem pw_fit (x:pwT.T) (h:pwT.fit x):Fits (toPw x).b (toPw x).p∧In64 (toPw x).left:=by
 obtain ⟨⟨b,p,u⟩,l,_⟩:=x
 obtain ⟨h1,h2,_⟩:=h
 exact ⟨fits_of (b,p,u) h1,in64 h2⟩
abbrev fdT:Mir.Ty := .st [.st [.int .i64,.int .i64,.int .i64,.int .i64],.int .i64,.st [.st [.sl .bool,.sl .bool],.sl .str,.int .i64,.int .i64],.sl .str]
def toFd (x:fdT.T):Fnd:=match x with
 | ((g,r,m,z,_),s,w,ring,_)=>⟨⟨g,r,m,z⟩,s,toWd w,ring⟩
theorem fd_av (x:fdT.T):fdT.av x=fdV (toFd x):=by
 obtain ⟨⟨g,r,m,z,_⟩,s,⟨⟨a,b,_⟩,p,rt,ge,_⟩,ring,_⟩:=x;rfl
theorem fd_fit (x:fdT.T) (h:fdT.fit x):WFits (toFd x).wd:=by
 obtain ⟨⟨g,r,m,z,_⟩,s,w,ring,_⟩:=x
 exact wd_fit w h.2.2.1
theorem p6x (x:pwT.T) (h:pwT.fit x) (y:fdT.T) (h2:fdT.fit y):Runs Fs5 6 [pwT.av x,fdT.av y] [] (.n (.bool true)) []:=by
 rw[pw_av,fd_av];exact p6 _ _ (pw_fit x h).1 (fd_fit y h2) (pw_fit x h).2
end Go.Proofs.YtegndijbpiccgaaGreatDoor.M
