import Derived.Test.YtegndijbpiccgaaGreatDoorR5Pe
import Derived.Test.YtegndijbpiccgaaGreatDoorR5Pn
namespace Go.Proofs.YtegndijbpiccgaaGreatDoor.M
set_option linter.unusedVariables false
set_option linter.unusedSimpArgs false
open Go Go.Mir
set_option linter.unusedVariables false
theorem set_take_succ {α:Type} {l:List α} {n i:Nat} {v:α} (h:n<l.length):(l.set i v).take (n+1)=(l.set i v).take n++[if i=n then v else l[n]]:=by
 have h2:n<(l.set i v).length:=by simpa using h
 rw[List.take_succ_eq_append_getElem h2,List.getElem_set]
theorem p144 (a b:List Bool) (i:Int) (v:Bool) (h0:0≤i) (hb:b.length≤2048):Runs Fs4 144 [alV a b,.n (.int .i64 i),.n (.bool v)] [] (alV a (b.set i.toNat v)) []:=by
 refine vc_eq fs144 rfl ?_
 rw[alV,vc144,(V144e _ _ _ _ _).down,blD_len]
 refine ⟨fun k x q=>∃n:Nat,k=n∧n≤b.length∧x=(blD a,n,())∧q=(n,blD ((b.set i.toNat v).take n)),fun k _ _=>(b.length - k).toNat,⟨rfl,0,rfl,by omega,rfl,rfl⟩,?_⟩
 rintro _ _ _ ⟨n,rfl,hn,rfl,rfl⟩ _
 have e1:IntKind.wrap .i64 ((n:Int)+1)=((n+1:Nat):Int):=by rw[i64_in _ (by omega)];omega
 refine sel_dec (fun hlt => ?_) (fun hge => ?_)
 · have hi:n<b.length:=by omega
   rw[e1]
   refine sel_intro (fun h => ?_) (fun h => ?_)
   · have h:(n:Int)=i:=by simpa using h
     refine ⟨rfl,.inl rfl,⟨⟨rfl,rfl⟩,rfl⟩,by simp[blD];omega,?_⟩
     repeat (refine And.intro rfl ?_)
     refine ⟨⟨n+1,rfl,hi,rfl,?_⟩,by first|omega|(dsimp only;omega)⟩
     rw[set_take_succ hi,if_pos (by omega),←blD_snoc]
   · have h:¬(n:Int)=i:=by simpa using h
     refine ⟨rfl,by omega,_,blD_at (i:=(n:Int).toNat) (by omega),_,rfl,rfl,.inl rfl,⟨⟨rfl,rfl⟩,rfl⟩,by simp[blD];omega,?_⟩
     repeat (refine And.intro rfl ?_)
     refine ⟨⟨n+1,rfl,hi,rfl,?_⟩,by first|omega|(dsimp only;omega)⟩
     rw[set_take_succ hi,if_neg (by omega),←blD_snoc];rfl
 · obtain rfl:n=b.length:=by omega
   refine ⟨rfl,?_⟩
   rw[List.take_of_length_le (by simp)];rfl
theorem p107 (a b:List Bool) (m:Int) (hb:b.length≤2048) (hm:10≤m∧m<b.length∧tr b m.toNat=true):Runs Fs4 107 [alV a b,.o (.sl 1 [.int .i64 m])] [] (.tup [alV a (b.set m.toNat false),.n (.int .i64 0)]) []:=by
 have g:=p144 a b m false (by omega) hb
 rw[alV,alV]at g
 refine vc_eq fs107 rfl ?_
 rw[alV,vc107,(V107e _ _ _ _).down]
 refine ⟨fun k x _=>(k=0∧x=(blD a,blD b,()))∨(k=1∧x=(blD a,blD (b.set m.toNat false),())),fun k _ _=>(1 - k).toNat,⟨rfl,.inl ⟨rfl,rfl⟩⟩,?_⟩
 rintro k x q h _
 rcases h with ⟨rfl,rfl⟩|⟨rfl,rfl⟩
 · refine sel_dec (fun _ => ?_) (fun h=>absurd (by decide:(0:Int)<1) h)
   refine ⟨rfl,by decide,_,rfl,_,rfl,sel_dec (fun h=>by omega) (fun _=>sel_dec (fun h => ?_) (fun _ => ?_))⟩
   · dsimp only at h;rw[blD_len]at h;omega
   have hi:m.toNat<b.length:=by omega
   refine ⟨rfl,by omega,_,blD_at hi,_,rfl,?_⟩
   rw[←tr_at hi,hm.2.2]
   refine sel_intro (fun h=>by cases h) (fun _=>⟨_,_,g,?_⟩)
   repeat (refine And.intro rfl ?_)
   rw[i64_in _ (by omega)]
   exact ⟨.inr ⟨rfl,rfl⟩,by dsimp only;decide⟩
 · exact sel_dec (fun h=>absurd h (by simp)) (fun _=>rfl)
theorem ffUp_up {w:Wd} {i j:Nat} (h:ffUp w i=some j):∀n,i≤n→ffUp w n=some j:=by
 intro n hn
 induction hn with
 | refl=>exact h
 | step _ ih=>rw[ffUp,ih]
theorem p145w (w:Wd) (hl:w.base.length=w.now.length) (i:Int) (h0:0≤i) (hi:i<w.now.length):Runs Fs4 145 [.agg [aL (blD w.base),aL (blD w.now)],.n (.int .i64 i)] [] (.n (.bool (freeAt w i.toNat))) []:=p145 w hl i h0 hi
theorem p108 (w:Wd) (hl:w.base.length=w.now.length) (hn:w.now.length≤2048):Runs Fs4 108 [alV w.base w.now] [] (match firstFree w with
   | none => .tup [al0,.n (.int .i64 0),.n (.int .i64 60)]
   | some b => .tup [alV w.base (w.now.set b true),.n (.int .i64 b),.n (.int .i64 0)]) []:=by
 refine vc_eq fs108 rfl ?_
 rw[alV,vc108,(V108e _ _ _).down,blD_len]
 refine ⟨fun k _=>∃n:Nat,k=n∧n≤w.now.length∧ffUp w n=none,fun k _=>(w.now.length - k).toNat,⟨rfl,0,rfl,by omega,rfl⟩,?_⟩
 rintro _ q ⟨n,rfl,hnn,hff⟩ _
 refine sel_dec (fun hlt => ?_) (fun hge => ?_)
 · have hi:n<w.now.length:=by omega
   refine ⟨_,p145w w hl n (by omega) hlt,sel_intro (fun h => ?_) (fun h => ?_)⟩
   · have hf:freeAt w n=true:=h
     have e:firstFree w=some n:=by
      refine ffUp_up (i:=n+1) ?_ _ hi
      rw[ffUp,hff]
      dsimp only
      rw[if_pos hf]
     have g:=p144 w.base w.now n true (by omega) hn
     rw[alV,alV]at g
     rw[e]
     exact ⟨_,_,g,rfl⟩
   · have hf:freeAt w n=false:=h
     repeat (refine And.intro rfl ?_)
     rw[i64_in _ (by omega)]
     refine ⟨⟨n+1,by omega,hi,?_⟩,by first|omega|(dsimp only;omega)⟩
     rw[ffUp,hff]
     dsimp only
     rw[hf];rfl
 · obtain rfl:n=w.now.length:=by omega
   have e:firstFree w=none:=hff
   rw[e];rfl
def clD (l:List Cl):List Mir.D:=l.map fun c => .rcd [.int .i64 c.1,.str c.2]
theorem clD_len (l:List Cl):(clD l).length=l.length:=by simp[clD]
theorem clD_at {l:List Cl} {i:Nat} (h:i<l.length):(clD l)[i]?=some (.rcd [.int .i64 l[i].1,.str l[i].2]):=by simp[clD,h]
theorem clD_app (l m:List Cl):clD l++clD m=clD (l++m):=by simp[clD]
theorem clD_snoc (l:List Cl) (i:Int) (s:ByteArray):clD l++[.rcd [.int .i64 i,.str s]]=clD (l++[(i,s)]):=by simp[clD]
structure Rdy (b:List ByteArray) (p:List Wr) (f:Fnd) (block:Nat):Prop where
 fits:FitsP b p f
 chk:(ChkR f.wd [f.su.m]).2=0
 gen:f.wd.gen<1099511627776
 ff:firstFree (gave f.wd f.su.m)=some block
theorem Rdy.facts {b:List ByteArray} {p:List Wr} {f:Fnd} {block:Nat} (r:Rdy b p f block):10≤block∧block<b.length∧suOK (nwSu f block)∧(nowC f block).length=b.length:=by
 obtain ⟨hr,hsu,hw,hz,hn,hs,hg,ht,hro⟩:=r.fits
 obtain ⟨_,h,P,B,htr,hm,hno⟩:=chkR_inv r.chk
 obtain ⟨f1,f2,f3⟩:=ffUp_some r.ff
 have hlen:(gave f.wd f.su.m).now.length=f.wd.now.length:=by simp[gave]
 rw[hlen]at f1
 have hgen:=r.gen
 have b10:10≤block:=Classical.byContradiction fun hc=>by
   have:=(hw.1.2.2.2 block (by omega)).1
   have h2:freeAt (gave f.wd f.su.m) block=true:=f2
   unfold freeAt at h2
   rw[show (gave f.wd f.su.m).base=f.wd.base from rfl,this]at h2
   simp at h2
 refine ⟨b10,by omega,?_,by rw[nowC];simp[gave];omega⟩
 have hrr:=hw.2.2.2.2.1
 refine ⟨by show 1≤f.wd.gen;exact hw.2.2.1,by show f.wd.gen≤_;omega,by show 24≤f.su.z;exact hsu.2.2.1,by show f.su.z≤2048;exact hsu.2.2.2.1,by show f.wd.root=0∨(10≤f.wd.root∧f.wd.root<f.su.z);omega,by show (10:Int)≤block;omega,by show (block:Int)<f.su.z;omega,?_⟩
 show (block:Int)≠f.wd.root
 rcases htr with ⟨h0,_⟩|⟨_,_,_,htr,_⟩
 · omega
 · intro e
   have hh:=htr.root_mem
   have h2:=hno block f1
   have hne:f.wd.root.toNat≠f.su.m.toNat:=by omega
   have h3:freeAt (gave f.wd f.su.m) block=true:=f2
   unfold freeAt at h3
   rw[Bool.and_eq_true]at h3
   have h4:tr ((gave f.wd f.su.m).now) block=tr f.wd.now block:=by
    show tr (f.wd.now.set f.su.m.toNat false) block=_
    rw[tr_set (by omega),if_neg (by omega)]
   rw[h4,h2]at h3
   simp[e,hh]at h3
theorem rt_fits {b:List ByteArray} {p:List Wr} (h:Rt b p=true):Fits b p:=by
 obtain ⟨h1,h2,h3⟩:=rt_tms h
 refine ⟨by omega,by omega,fun s hs=>by have:=(tm_T (h1 s hs)).2;omega,fun x hx => ?_⟩
 have:=h3 x hx
 rw[Wm,Bool.and_eq_true,Bool.and_eq_true]at this
 have:=(tm_T this.2.2).2
 omega
theorem rt_ok {b:List ByteArray} {p:List Wr} (h:Rt b p=true):Ok b p:=ok_of (rt_fits h) h
theorem doC_rt {s:Pw} {c:Cl} (h:Rt s.b s.p=true):Rt (doC s c).1.b (doC s c).1.p=true:=by
 unfold doC
 split
 · exact h
 · split
   · exact rt_cr h _ _
   · rename_i h1
     split
     · exact h
     · rename_i h2
       split
       · exact h
       · rename_i h3
         have hc:okC s.b c:=⟨by omega,by omega,by omega⟩
         exact rt_app (b:=s.b) (p:=s.p) (l:=[c]) h (fun x hx=>by rw[List.mem_singleton.1 hx];exact hc) (by simp;omega)
theorem doC_keep {s:Pw} {c:Cl} (h:(doC s c).2≠0):(doC s c).1=s:=by
 unfold doC at h ⊢
 split
 · rfl
 · rename_i h0
   rw[if_neg h0]at h
   split
   · rename_i h1;rw[if_pos h1]at h;exact absurd rfl h
   · rename_i h1
     rw[if_neg h1]at h
     split
     · rfl
     · rename_i h2
       rw[if_neg h2]at h
       split
       · rfl
       · rename_i h3
         rw[if_neg h3]at h;exact absurd rfl h
theorem dn_in {l:Int} (h:In64 l):In64 (dn l):=by
 unfold dn In64 at *
 split <;> omega
theorem doC_in {s:Pw} {c:Cl} (h:In64 s.left):In64 (doC s c).1.left:=by
 unfold doC
 split
 · exact h
 · split
   · exact dn_in h
   · split
     · exact h
     · split
       · exact h
       · exact dn_in h
theorem runC_one (s:Pw) (c:Cl):runC s [c]=doC s c:=by
 rw[runC]
 by_cases h:(doC s c).2=0
 · rw[if_neg (by simpa using h),runC]
   exact Prod.ext rfl h.symm
 · rw[if_pos h]
   exact Prod.ext (doC_keep h).symm rfl
theorem runC_rt:∀(l:List Cl) {s:Pw},Rt s.b s.p=true→Rt (runC s l).1.b (runC s l).1.p=true
 | [],s,h=>h
 | c :: r,s,h=>by
   rw[runC]
   split
   · exact h
   · exact runC_rt r (doC_rt h)
theorem runC_in:∀(l:List Cl) {s:Pw},In64 s.left→In64 (runC s l).1.left
 | [],s,h=>h
 | c :: r,s,h=>by
   rw[runC]
   split
   · exact h
   · exact runC_in r (doC_in h)
theorem runC_snoc (s:Pw) (l:List Cl) (c:Cl):runC s (l++[c])=if (runC s l).2≠0 then runC s l else doC (runC s l).1 c:=by
 rw[runC_app,runC_one]
theorem stW_run {s:Pw} {l:List Cl} {i:Int} {x:ByteArray} (h:Rt s.b s.p=true) (h0:0≤i):stW (runC s l) i x=runC s (l++[(i,x)]):=by
 rw[runC_snoc,stW]
 by_cases he:(runC s l).2=0
 · rw[if_pos he,if_neg (by simpa using he),wrC_do (runC_rt l h) h0]
 · rw[if_neg he,if_pos he]
theorem stF_run {s:Pw} {l:List Cl} (h:Rt s.b s.p=true):stF (runC s l)=runC s (l++[(-1,empS)]):=by
 rw[runC_snoc,stF]
 by_cases he:(runC s l).2=0
 · rw[if_pos he,if_neg (by simpa using he),flC_do (runC_rt l h)]
 · rw[if_neg he,if_pos he]
theorem runC_only:∀(l:List Cl) (s:Pw),(∀c∈l,0≤c.1)→(runC s l).1.b=s.b∧∃q:List Wr,(runC s l).1.p=s.p++q∧∀w∈q,∃c∈l,w.1=c.1
 | [],s,_=>⟨rfl,[],by simp[runC],fun w h=>by cases h⟩
 | c :: r,s,hc=>by
   rw[runC]
   split
   · exact ⟨rfl,[],by simp,fun w h=>by cases h⟩
   · rename_i he
     have he:(doC s c).2=0:=by simpa using he
     have e:(doC s c).1.b=s.b∧(doC s c).1.p=s.p++[nwW c.1 c.2]:=by
       unfold doC at he ⊢
       split at he
       · cases he
       · rename_i h0
         have h1:=hc c (by simp)
         rw[if_neg (by omega)]at he
         rw[if_neg h0,if_neg (by omega)]
         split at he
         · cases he
         · rename_i h2
           rw[if_neg h2]
           split at he
           · cases he
           · rename_i h3
             rw[if_neg h3];exact ⟨rfl,rfl⟩
     obtain ⟨g1,q,g2,g3⟩:=runC_only r (doC s c).1 (fun x hx=>hc x (by simp[hx]))
     refine ⟨g1.trans e.1,nwW c.1 c.2 :: q,by rw[g2,e.2];simp,fun w hw => ?_⟩
     rcases List.mem_cons.1 hw with rfl|hw
     · exact ⟨c,by simp,rfl⟩
     · obtain ⟨x,hx,hxe⟩:=g3 w hw
       exact ⟨x,by simp[hx],hxe⟩
theorem wrs_low {b:List ByteArray} {p:List Wr} {pages:List ByteArray} {now:List Bool} {block:Nat}:∀ {n:Nat},n≤10→wrs b p pages now block n=[]
 | 0,_=>rfl
 | n+1,h=>by rw[wrs,if_neg (by omega),wrs_low (by omega)]
theorem runC_at {s st:Pw} {l:List Cl} {i:Nat} (h:runC s (l.take i)=(st,0)) (hi:i<l.length):runC s l=(if (doC st l[i]).2≠0 then (st,(doC st l[i]).2) else runC (doC st l[i]).1 (l.drop (i+1)))∧((doC st l[i]).2=0→runC s (l.take (i+1))=((doC st l[i]).1,0)):=by
 constructor
 · have e:=runC_app (l.take i) (l.drop i) s
   rw[List.take_append_drop,h,if_neg (by simp),List.drop_eq_getElem_cons hi,runC]at e
   exact e
 · intro he
   rw[List.take_succ_eq_append_getElem hi,runC_snoc,h,if_neg (by simp)]
   exact Prod.ext rfl he
theorem p40 (g:Int) (now:List Bool) (h0:0≤g) (h1:g≤1099511627776) (hn:now.length≤2048):Runs Fs4 40 [.n (.int .i64 g),.o (.sl 1 (blD now))] [] (.n (.str (mapP g now))) []:=by
 have g1:=p85 now (by omega)
 have g2:=(((p84 3 g (packS now) (mapP_ok h0 h1 hn)).up up2).up up3).up up4
 rw[pg]at g2
 refine vc_eq fs40 rfl ?_
 rw[vc40,V40]
 exact ⟨_,g1,_,g2,rfl⟩
def clV (r:Option Nat) (b:List ByteArray) (p:List Wr) (f:Fnd):AV:=match r with
 | none => .tup [.o (.sl 2 []),.n (.int .i64 0),.o (.sl 1 []),.n (.int .i64 60)]
 | some block => .tup [.o (.sl 2 (clD (callsOf b p f block))),.n (.int .i64 block),.o (.sl 1 (blD (nowC f block))),.n (.int .i64 0)]
theorem gave_right {w:Wd} {m:Int} (h:ARight w.base w.now) (hm:10≤m):ARight (gave w m).base (gave w m).now:=by
 obtain ⟨h1,h2,h3,h4⟩:=h
 refine ⟨by show w.base.length=(w.now.set _ _).length;simp[h1],by show _≤(w.now.set _ _).length;simp;exact h2,by show (w.now.set _ _).length≤_;simp;exact h3,fun j hj=>⟨(h4 j hj).1,?_⟩⟩
 show tr (w.now.set m.toNat false) j=true
 by_cases hx:m.toNat<w.now.length
 · rw[tr_set hx,if_neg (by omega)];exact (h4 j hj).2
 · rw[List.set_eq_of_length_le (by omega)];exact (h4 j hj).2
theorem p65 (b:List ByteArray) (p:List Wr) (f:Fnd) (hf:FitsP b p f) (hc:(ChkR f.wd [f.su.m]).2=0) (hg:f.wd.gen<1099511627776):Runs Fs4 65 [Dev b p,fdV f] [] (clV (firstFree (gave f.wd f.su.m)) b p f) []:=by
 obtain ⟨hr,hsu,hw,hz,hn,hs,hgn,ht,hro⟩:=id hf
 have hm:=hsu.2.2.2.2.2
 have hl1:=hw.1.1
 have hl2:=hw.1.2.2.1
 have hg1:=hw.2.2.1
 have g1:=p107 f.wd.base f.wd.now f.su.m hl2 ⟨hm.1,by omega,ht⟩
 have g2:=p108 (gave f.wd f.su.m) (by show f.wd.base.length=(f.wd.now.set _ _).length;simp[hl1]) (by show (f.wd.now.set _ _).length≤_;simp;exact hl2)
 rw[alV,alV]at g1
 refine vc_eq fs65 rfl ?_
 rw[Dev,fdV,vc65,(V65e _ _ _ _ _ _ _ _ _ _ _ _ _ _).down]
 refine ⟨rfl,_,_,_,g1,sel_intro (fun h=>by simp at h) (fun _ => ?_)⟩
 cases hff:firstFree (gave f.wd f.su.m) with
 | none=>
   rw[hff]at g2
   dsimp only at g2
   rw[al0,alV]at g2
   exact ⟨_,_,_,_,g2,sel_intro (fun _=>rfl) (fun h=>by simp at h)⟩
 | some block=>
   rw[hff]at g2
   dsimp only at g2
   rw[alV,alV]at g2
   obtain ⟨k1,k2,k3,k4⟩:=(⟨hf,hc,hg,hff⟩:Rdy b p f block).facts
   have g3:=p40 f.wd.gen (nowC f block) (by omega) (by omega) (by omega)
   have g4:=(((p39 (nwSu f block) k3).up up2).up up3).up up4
   have hok:=rt_ok hr
   have hpl:=hok.pl
   rw[suV]at g4
   refine ⟨_,_,_,_,g2,sel_intro (fun h=>by simp at h) (fun _ => ?_)⟩
   have en:(gave f.wd f.su.m).now.set block true=nowC f block:=rfl
   rw[en,blD_len,k4]
   refine ⟨fun v k q=>∃n:Nat,k=n∧10≤n∧n≤b.length∧q=(v,clD (wrs b p f.wd.pages (nowC f block) block n)),fun _ k _=>(b.length - k).toNat,⟨rfl,10,rfl,by omega,by omega,by rw[wrs_low (by omega)];rfl⟩,?_⟩
   rintro v _ _ ⟨n,rfl,h10,hnn,rfl⟩ _
   have e1:IntKind.wrap .i64 ((n:Int)+1)=((n+1:Nat):Int):=by rw[i64_in _ (by omega)];omega
   have hwl:=wrs_len b p f.wd.pages (nowC f block) block n
   refine sel_dec (fun hlt => ?_) (fun hge => ?_)
   · have hi:n<(nowC f block).length:=by omega
     have hpg:(sl_ f.wd.pages)[(n:Int).toNat]?=some (.str (blk f.wd.pages n)):=bk_blk (b:=f.wd.pages) (by omega) (by have:=hw.2.1;omega)
     refine ⟨rfl,by omega,_,blD_at (i:=(n:Int).toNat) (by omega),_,rfl,?_⟩
     have et:(nowC f block)[(n:Int).toNat]=tr (nowC f block) n:=by rw[tr_at hi];rfl
     have stay:¬(10≤n∧tr (nowC f block) n=true∧n≠block∧blk f.wd.pages n≠TellS b p n)→(∃n':Nat,((n+1:Nat):Int)=n'∧10≤n'∧n'≤b.length∧((v,clD (wrs b p f.wd.pages (nowC f block) block n)):Nat×LD)=(v,clD (wrs b p f.wd.pages (nowC f block) block n'))):=fun h=>⟨n+1,rfl,by omega,by omega,by rw[wrs,if_neg h]⟩
     rw[et,e1]
     refine sel_intro (fun ht=>sel_intro (fun hb => ?_) (fun hb => ?_)) (fun ht => ?_)
     · have hb:n≠block:=fun e=>by rw[e]at hb;simp at hb
       refine ⟨rfl,by omega,_,hpg,_,rfl,_,(((p109 b p n (by omega) (by omega) hpl).up up2).up up3).up up4,sel_nb (fun hx => ?_) (fun hx => ?_)⟩
       · refine ⟨rfl,by omega,_,hpg,_,rfl,rfl,.inl rfl,⟨⟨rfl,rfl⟩,rfl⟩,by simp[clD];omega,?_⟩
         repeat (refine And.intro rfl ?_)
         refine ⟨⟨n+1,rfl,by omega,by omega,?_⟩,by first|omega|(dsimp only;omega)⟩
         rw[wrs,if_pos ⟨h10,ht,hb,hx⟩,←clD_snoc]
       · repeat (refine And.intro rfl ?_)
         exact ⟨stay (fun h=>h.2.2.2 hx),by first|omega|(dsimp only;omega)⟩
     · have hb:(n:Int)=block:=by simpa using hb
       have hb:n=block:=by omega
       repeat (refine And.intro rfl ?_)
       exact ⟨stay (fun h=>h.2.2.1 hb),by first|omega|(dsimp only;omega)⟩
     · repeat (refine And.intro rfl ?_)
       exact ⟨stay (fun h=>by rw[ht]at h;exact absurd h.2.1 (by simp)),by first|omega|(dsimp only;omega)⟩
   · obtain rfl:n=b.length:=by omega
     rw[i64_in (1 - f.slot) (by omega)]
     refine ⟨_,g3,rfl,.inl rfl,⟨⟨rfl,rfl⟩,rfl⟩,by simp[clD];omega,_,g4,rfl,.inl rfl,⟨⟨rfl,rfl⟩,rfl⟩,by simp[clD];omega,rfl,?_⟩
     show AV.tup [.o (.sl 2 ((clD _++clD [((block:Int),mapP f.wd.gen (nowC f block)),(-1,empS)])++clD [(1 - f.slot,SuS (nwSu f block)),(-1,empS)])),_,_,_]=_
     rw[clD_app,clD_app,clV,callsOf,k4,List.append_assoc];rfl
def cmV (x:Pw×Fnd×Int):AV := .tup [pwV x.1,fdV x.2.1,.n (.int .i64 x.2.2)]
theorem commit_none {s:Pw} {f:Fnd} (hf:FitsP s.b s.p f) (hc:(ChkR f.wd [f.su.m]).2=0) (hg:f.wd.gen<1099511627776) (h:firstFree (gave f.wd f.su.m)=none):CommitR s f=(pw0,fd0,60):=by
 rw[CommitR,if_neg (by simpa using hf),if_neg (by simpa using hc),if_neg (by omega),h]
theorem commit_some {s:Pw} {f:Fnd} {block:Nat} (r:Rdy s.b s.p f block):CommitR s f =
  if (runC s (callsOf s.b s.p f block)).2=140 then ((runC s (callsOf s.b s.p f block)).1,fd0,140)
  else if (runC s (callsOf s.b s.p f block)).2≠0 then (pw0,fd0,(runC s (callsOf s.b s.p f block)).2)
  else ((runC s (callsOf s.b s.p f block)).1,nwFd f block,0):=by
 rw[CommitR,if_neg (by simpa using r.fits),if_neg (by simpa using r.chk),if_neg (by have:=r.gen;omega),r.ff]
theorem calls_size {b:List ByteArray} {p:List Wr} {f:Fnd} {block:Nat} (r:Rdy b p f block):∀c∈callsOf b p f block,(c.2.size:Int)≤9223372036854775807:=by
 obtain ⟨hr,hsu,hw,hz,hn,hs,hgn,ht,hro⟩:=r.fits
 obtain ⟨k1,k2,k3,k4⟩:=r.facts
 intro c hc
 rw[callsOf]at hc
 have hg:=r.gen
 have hg1:=hw.2.2.1
 have e0:empS.size=0:=rfl
 rcases List.mem_append.1 hc with hc|hc
 · obtain ⟨i,_,rfl,_⟩:=wrs_mem hc
   rcases blk_mem (l:=f.wd.pages) (i:=(i:Int)) with h|h
   · have:=hw.2.2.2.2.2 _ h;show ((blk f.wd.pages i).size:Int)≤_;omega
   · show ((blk f.wd.pages i).size:Int)≤_;rw[h];decide
 · simp only[List.mem_cons,List.not_mem_nil,or_false]at hc
   rcases hc with rfl|rfl|rfl|rfl
   · have:=mapP_size (g:=f.wd.gen) (now:=nowC f block) (by omega) (by omega) (by have:=hw.1.2.2.1;omega);dsimp only;omega
   · decide
   · have:=suS_size (nwSu f block);dsimp only;omega
   · decide
theorem nwFd_pages (f:Fnd) (block:Nat):(nwFd f block).wd.pages=f.wd.pages.set block (mapP f.wd.gen (nowC f block)):=rfl
theorem p25 (s:Pw) (f:Fnd) (hfs:Fits s.b s.p) (hw:WFits f.wd) (hl:In64 s.left):Runs Fs4 25 [pwV s,fdV f] [] (cmV (CommitR s f)) []:=by
 have g1:=p27 s.b s.p f hfs hw
 rw[Dev,fdV]at g1
 refine vc_eq fs25 rfl ?_
 rw[pwV,fdV,vc25,(V25e _ _ _ _ _ _ _ _ _ _ _ _ _ _ _).down]
 refine ⟨_,g1,sel_intro (fun h => ?_) (fun h => ?_)⟩
 · rw[CommitR,if_pos (by simpa using h)];rfl
 have hf:FitsP s.b s.p f:=by simpa using h
 have g2:=p64 f.wd hw [f.su.m] (by simp)
 rw[wdV]at g2
 refine ⟨rfl,_,_,_,_,g2,sel_intro (fun h => ?_) (fun h => ?_)⟩
 · rw[CommitR,if_neg (by simpa using hf),if_pos (by simpa using h)];rfl
 have hc:(ChkR f.wd [f.su.m]).2=0:=by simpa using h
 refine sel_dec (fun h => ?_) (fun h => ?_)
 · rw[CommitR,if_neg (by simpa using hf),if_neg (by simpa using hc),if_pos h];rfl
 have hg:f.wd.gen<1099511627776:=by omega
 have g3:=p65 s.b s.p f hf hc hg
 rw[Dev,fdV]at g3
 cases hff:firstFree (gave f.wd f.su.m) with
 | none=>
   rw[hff,clV]at g3
   rw[commit_none hf hc hg hff]
   exact ⟨_,_,_,_,g3,sel_intro (fun _=>rfl) (fun h=>by simp at h)⟩
 | some block=>
   rw[hff,clV]at g3
   have rd:Rdy s.b s.p f block:=⟨hf,hc,hg,hff⟩
   obtain ⟨k1,k2,k3,k4⟩:=rd.facts
   have csz:=calls_size rd
   obtain ⟨hr,hsu,hwr,hz,hn,hs,hgn,ht,hro⟩:=id hf
   have hg1:=hwr.2.2.1
   rw[commit_some rd]
   refine ⟨_,_,_,_,g3,sel_intro (fun h=>by simp at h) (fun _ => ?_)⟩
   rw[clD_len]
   have hcl:(callsOf s.b s.p f block).length≤2052:=by
     have h1:=wrs_len s.b s.p f.wd.pages (nowC f block) block (nowC f block).length
     have h2:=hwr.1.2.2.1
     rw[callsOf,List.length_append]
     simp only[List.length_cons,List.length_nil]
     omega
   generalize hC:callsOf s.b s.p f block=C at csz hcl
   refine ⟨fun k x y z=>0≤k∧k≤C.length∧y=((),(),0,())∧z=(0,0,0,0,0,(),(),(),0,0,(),())∧∃st:Pw,x=(bk st.b,pk st.p,st.left,())∧runC s (C.take k.toNat)=(st,0),fun k _ _ _=>(C.length - k).toNat,⟨rfl,by omega,by omega,rfl,rfl,s,rfl,rfl⟩,?_⟩
   rintro k _ _ _ ⟨k0,k1',rfl,rfl,st,rfl,hst⟩ _
   dsimp only
   have hrt:Rt st.b st.p=true:=by have:=runC_rt (C.take k.toNat) hr;rw[hst]at this;exact this
   have hin:In64 st.left:=by have:=runC_in (C.take k.toNat) hl;rw[hst]at this;exact this
   refine sel_dec (fun hlt => ?_) (fun hge => ?_)
   · have hi:k.toNat<C.length:=by omega
     obtain ⟨a1,a2⟩:=runC_at hst hi
     have g4:=p23 st C[k.toNat] (rt_ok hrt) hin (csz _ (List.getElem_mem hi))
     rw[pwV,pwo,pwV]at g4
     refine ⟨rfl,k0,_,clD_at hi,_,_,rfl,by simp[D.cells],_,_,_,_,g4,sel_intro (fun h => ?_) (fun h=>sel_intro (fun h2 => ?_) (fun h2 => ?_))⟩
     · have h:(doC st C[k.toNat]).2=140:=by simpa using h
       have hrun:runC s C=(st,140):=by rw[a1,if_pos (by rw[h];decide),h]
       rw[hrun,if_pos rfl,h];rfl
     · have h:(doC st C[k.toNat]).2≠140:=by simpa using h
       have h2:(doC st C[k.toNat]).2≠0:=by simpa using h2
       have hrun:runC s C=(st,(doC st C[k.toNat]).2):=by rw[a1,if_pos h2]
       rw[hrun,if_neg h,if_pos h2];rfl
     · have h2:(doC st C[k.toNat]).2=0:=by simpa using h2
       repeat (refine And.intro rfl ?_)
       rw[i64_in (k+1) (by omega)]
       refine ⟨⟨by omega,by omega,rfl,rfl,_,rfl,?_⟩,by first|omega|(dsimp only;omega)⟩
       rw[show (k+1).toNat=k.toNat+1 by omega]
       exact a2 h2
   · have e:C.take k.toNat=C:=List.take_of_length_le (by omega)
     rw[e]at hst
     rw[hst,if_neg (by simp),if_neg (by simp)]
     rw[i64_in (1 - f.slot) (by omega),i64_in (f.wd.gen+1) (by omega),sl_len]
     have hpl:f.wd.pages.length=f.wd.now.length:=hwr.2.1
     have hn48:=hwr.1.2.2.1
     have gm:=p40 f.wd.gen (nowC f block) (by omega) (by omega) (by omega)
     refine ⟨fun i x q=>∃n:Nat,i=n∧n≤f.wd.pages.length∧x=(f.wd.gen,f.wd.root,(block:Int),f.su.z,1 - f.slot,blD (nowC f block),blD (nowC f block),n,f.wd.root,f.wd.gen+1,(),())∧q=(n,sl_ ((nwFd f block).wd.pages.take n)),fun i _ _=>(f.wd.pages.length - i).toNat,⟨rfl,0,rfl,by omega,rfl,rfl⟩,?_⟩
     rintro _ _ _ ⟨n,rfl,hnn,rfl,rfl⟩ _
     have e1:IntKind.wrap .i64 ((n:Int)+1)=((n+1:Nat):Int):=by rw[i64_in _ (by omega)];omega
     dsimp only
     refine sel_dec (fun hlt => ?_) (fun hge => ?_)
     · have hi:n<f.wd.pages.length:=by omega
       have hpg:(sl_ f.wd.pages)[(n:Int).toNat]?=some (.str f.wd.pages[n]):=sl_at (l:=f.wd.pages) (i:=n) hi
       refine ⟨rfl,by omega,_,hpg,_,rfl,?_⟩
       rw[e1]
       have el:(sl_ ((nwFd f block).wd.pages.take n)).length≤2048:=by simp[sl_];omega
       refine sel_intro (fun h => ?_) (fun h => ?_)
       · have h:(n:Int)=block:=by simpa using h
         have h:n=block:=by omega
         refine ⟨_,gm,rfl,.inl rfl,⟨⟨rfl,rfl⟩,rfl⟩,by simp only[List.length_singleton];omega,?_⟩
         repeat (refine And.intro rfl ?_)
         refine ⟨⟨n+1,rfl,hi,rfl,?_⟩,by first|omega|(dsimp only;omega)⟩
         rw[nwFd_pages,set_take_succ hi,if_pos (by omega),←sl_snoc]
       · have h:¬(n:Int)=block:=by simpa using h
         have h:¬n=block:=by omega
         refine ⟨rfl,.inl rfl,⟨⟨rfl,rfl⟩,rfl⟩,by simp only[List.length_singleton];omega,?_⟩
         repeat (refine And.intro rfl ?_)
         refine ⟨⟨n+1,rfl,hi,rfl,?_⟩,by first|omega|(dsimp only;omega)⟩
         rw[nwFd_pages,set_take_succ hi,if_neg (by omega),←sl_snoc]
     · obtain rfl:n=f.wd.pages.length:=by omega
       refine ⟨rfl,?_⟩
       rw[List.take_of_length_le (by rw[nwFd_pages];simp)]
       rfl
theorem p58' (e:Int):Runs Fs4 58 [aI e] [] (.tup [.agg [aL [],.o (.sl 2 []),aI 0],.agg [aI 0,aI 0,aI 0,aI 0,aI 0,aL [],aL [],aL [],aI 0,aI 0,aL []],aI e]) []:=p58 e
theorem readR_ok {st:Pw} {i:Nat} (h:Rt st.b st.p=true) (hi:i<st.b.length):ReadR st.b st.p i = .tup [.n (.str (TellS st.b st.p i)),.n (.int .i64 0)]:=by
 have e:CheckE st.b st.p i=0:=by rw[CheckE,if_neg (by rw[h];simp),if_neg (by omega)]
 rw[ReadR,e,if_pos rfl]
theorem p24 (s:Pw) (f:Fnd) (hfs:Fits s.b s.p) (hw:WFits f.wd) (hl:In64 s.left):Runs Fs4 24 [pwV s,fdV f] [] (cmV (CommitR s f)) []:=by
 have g1:=p26 s.b s.p f hfs hw
 rw[Dev,fdV]at g1
 refine vc_eq fs24 rfl ?_
 rw[pwV,fdV,vc24,(V24e _ _ _ _ _ _ _ _ _ _ _ _ _ _ _).down]
 have bad:∀ {e:Int} {r:AV},cmV (pw0,fd0,e)=r→∃x1:LD,∃x2:LD,∃x3:Int,∃x4:Int,∃x5:Int,∃x6:Int,∃x7:Int,∃x8:Int,∃x9:LD,∃x10:LD,∃x11:LD,∃x12:Int,∃x13:Int,∃x14:LD,∃x15:Int,
     Runs Fs4 58 [aI e] [] (.tup [.agg [aL x1,.o (.sl 2 x2),aI x3],.agg [aI x4,aI x5,aI x6,aI x7,aI x8,aL x9,aL x10,aL x11,aI x12,aI x13,aL x14],aI x15]) [] ∧
     (.tup [.agg [.o (.sl 1 x1),.o (.sl 2 x2),.n (.int .i64 x3)],.agg [.n (.int .i64 x4),.n (.int .i64 x5),.n (.int .i64 x6),.n (.int .i64 x7),.n (.int .i64 x8),.o (.sl 1 x9),.o (.sl 1 x10),.o (.sl 1 x11),.n (.int .i64 x12),.n (.int .i64 x13),.o (.sl 1 x14)],.n (.int .i64 x15)]:AV)=r:=fun {e r} h=>
   ⟨[],[],0,0,0,0,0,0,[],[],[],0,0,[],e,p58' e,h⟩
 refine ⟨_,g1,sel_intro (fun h=>bad ?_) (fun h => ?_)⟩
 · rw[CommitR,if_pos (by simpa using h)]
 have hf:FitsP s.b s.p f:=by simpa using h
 have g2:=((p44 f.wd hw [f.su.m] (by simp)).up up3).up up4
 rw[wdV]at g2
 refine ⟨rfl,_,_,_,_,g2,sel_intro (fun h=>bad ?_) (fun h => ?_)⟩
 · rw[CommitR,if_neg (by simpa using hf),if_pos (by simpa using h)]
 have hc:(ChkR f.wd [f.su.m]).2=0:=by simpa using h
 refine sel_dec (fun h=>bad ?_) (fun h => ?_)
 · rw[CommitR,if_neg (by simpa using hf),if_neg (by simpa using hc),if_pos h]
 have hg:f.wd.gen<1099511627776:=by omega
 obtain ⟨hr,hsu,hwr,hz,hn,hs,hgn,ht,hro⟩:=id hf
 have hm:=hsu.2.2.2.2.2
 have hg1:=hwr.2.2.1
 have g3:=(p59 f.wd.base f.wd.now hwr.1 f.su.m).up up4
 rw[if_neg (by rintro (h|h|h);omega;omega;rw[ht]at h;cases h),alV,alV]at g3
 have g4:=(p34 (gave f.wd f.su.m) (gave_right hwr.1 hm.1)).up up4
 refine ⟨rfl,_,_,_,g3,sel_intro (fun h=>by simp at h) (fun _ => ?_)⟩
 cases hff:firstFree (gave f.wd f.su.m) with
 | none=>
   rw[hff]at g4
   dsimp only at g4
   rw[al0,alV]at g4
   refine ⟨_,_,_,_,g4,sel_intro (fun _=>bad ?_) (fun h=>by simp at h)⟩
   rw[commit_none hf hc hg hff]
 | some block=>
   rw[hff]at g4
   dsimp only at g4
   rw[alV,alV]at g4
   have rd:Rdy s.b s.p f block:=⟨hf,hc,hg,hff⟩
   obtain ⟨k1,k2,k3,k4⟩:=rd.facts
   have en:(gave f.wd f.su.m).now.set block true=nowC f block:=rfl
   rw[en]at g4
   have hpl:f.wd.pages.length=f.wd.now.length:=hwr.2.1
   have hn48:=hwr.1.2.2.1
   have g5:=p37 (nowC f block) (by omega)
   have g6:=(((p36 3 f.wd.gen (packS (nowC f block))).up up2).up up3).up up4
   rw[PutPR,if_pos (mapP_ok (by omega) (by omega) (by omega)),pg]at g6
   have g7:=(((p38 (nwSu f block)).up up2).up up3).up up4
   rw[SuPut,if_pos k3,suV]at g7
   refine ⟨_,_,_,_,g4,sel_intro (fun h=>by simp at h) (fun _=>⟨_,g5,_,_,g6,sel_intro (fun h=>by simp at h) (fun _=>⟨_,_,g7,sel_intro (fun h=>by simp at h) (fun _ => ?_)⟩)⟩)⟩
   rw[blD_len,k4]
   refine ⟨fun k x=>∃n:Nat,k=n∧10≤n∧n≤s.b.length∧x=(bk (runC s (wrs s.b s.p f.wd.pages (nowC f block) block n)).1.b,pk (runC s (wrs s.b s.p f.wd.pages (nowC f block) block n)).1.p,(runC s (wrs s.b s.p f.wd.pages (nowC f block) block n)).1.left,(runC s (wrs s.b s.p f.wd.pages (nowC f block) block n)).2,()),fun k _=>(s.b.length - k).toNat,⟨rfl,10,rfl,by omega,by omega,by rw[wrs_low (by omega)];rfl⟩,?_⟩
   rintro _ _ ⟨n,rfl,h10,hnn,rfl⟩ _
   have e1:IntKind.wrap .i64 ((n:Int)+1)=((n+1:Nat):Int):=by rw[i64_in _ (by omega)];omega
   have hrt:=runC_rt (wrs s.b s.p f.wd.pages (nowC f block) block n) hr
   have hin:=runC_in (wrs s.b s.p f.wd.pages (nowC f block) block n) hl
   obtain ⟨hb1,q,hq1,hq2⟩:=runC_only (wrs s.b s.p f.wd.pages (nowC f block) block n) s (fun c hc=>by obtain ⟨i,_,rfl,_⟩:=wrs_mem hc;show (0:Int)≤(i:Int);omega)
   refine sel_dec (fun hlt => ?_) (fun hge => ?_)
   · have hi:n<(nowC f block).length:=by omega
     have hpg:(sl_ f.wd.pages)[(n:Int).toNat]?=some (.str (blk f.wd.pages n)):=bk_blk (b:=f.wd.pages) (by omega) (by omega)
     have hps:((blk f.wd.pages n).size:Int)≤9223372036854775807:=by
       rcases blk_mem (l:=f.wd.pages) (i:=(n:Int)) with h|h
       · have:=hwr.2.2.2.2.2 _ h;omega
       · rw[h];decide
     have gr:=read_runs fs60 (runC s (wrs s.b s.p f.wd.pages (nowC f block) block n)).1.b (runC s (wrs s.b s.p f.wd.pages (nowC f block) block n)).1.p n (rt_fits hrt)
     rw[readR_ok hrt (by rw[hb1];omega),Dev]at gr
     have et:TellS (runC s (wrs s.b s.p f.wd.pages (nowC f block) block n)).1.b (runC s (wrs s.b s.p f.wd.pages (nowC f block) block n)).1.p n=TellS s.b s.p n:=by
       rw[hb1,hq1,tellS_app]
       intro w hw
       obtain ⟨c,hc,hce⟩:=hq2 w hw
       obtain ⟨i,hi,rfl,_⟩:=wrs_mem hc
       rw[hce]
       show ((i:Nat):Int)≠n
       omega
     rw[et]at gr
     refine ⟨_,_,gr,rfl,by omega,_,blD_at (i:=(n:Int).toNat) (by omega),_,rfl,?_⟩
     have en2:(nowC f block)[(n:Int).toNat]=tr (nowC f block) n:=by rw[tr_at hi];rfl
     have stay:¬(10≤n∧tr (nowC f block) n=true∧n≠block∧blk f.wd.pages n≠TellS s.b s.p n)→wrs s.b s.p f.wd.pages (nowC f block) block (n+1)=wrs s.b s.p f.wd.pages (nowC f block) block n:=fun h=>by rw[wrs,if_neg h]
     rw[en2,e1]
     refine sel_intro (fun ht=>sel_intro (fun hb => ?_) (fun hb => ?_)) (fun ht => ?_)
     · have hb:n≠block:=fun e=>by rw[e]at hb;simp at hb
       refine ⟨rfl,by omega,_,hpg,_,rfl,sel_nb (fun hx => ?_) (fun hx => ?_)⟩
       · have gs:=p61 (runC s (wrs s.b s.p f.wd.pages (nowC f block) block n)) n (blk f.wd.pages n) (rt_fits hrt) hps hin
         rw[hSt,hSt]at gs
         have ew:wrs s.b s.p f.wd.pages (nowC f block) block (n+1)=wrs s.b s.p f.wd.pages (nowC f block) block n++[((n:Int),blk f.wd.pages n)]:=by rw[wrs,if_pos ⟨h10,ht,hb,hx⟩]
         refine ⟨rfl,by omega,_,hpg,_,rfl,_,_,_,_,gs,?_⟩
         repeat (refine And.intro rfl ?_)
         refine ⟨⟨n+1,rfl,by omega,by omega,?_⟩,by first|omega|(dsimp only;omega)⟩
         rw[ew,←stW_run hr (by omega)]
       · repeat (refine And.intro rfl ?_)
         exact ⟨⟨n+1,rfl,by omega,by omega,by rw[stay (fun h=>h.2.2.2 hx)]⟩,by first|omega|(dsimp only;omega)⟩
     · have hb:(n:Int)=block:=by simpa using hb
       have hb:n=block:=by omega
       repeat (refine And.intro rfl ?_)
       exact ⟨⟨n+1,rfl,by omega,by omega,by rw[stay (fun h=>h.2.2.1 hb)]⟩,by first|omega|(dsimp only;omega)⟩
     · repeat (refine And.intro rfl ?_)
       exact ⟨⟨n+1,rfl,by omega,by omega,by rw[stay (fun h=>by rw[ht]at h;exact absurd h.2.1 (by simp))]⟩,by first|omega|(dsimp only;omega)⟩
   · obtain rfl:n=s.b.length:=by omega
     rw[i64_in (1 - f.slot) (by omega),i64_in (f.wd.gen+1) (by omega)]
     generalize hW:wrs s.b s.p f.wd.pages (nowC f block) block s.b.length=W at hrt hin
     have eC:callsOf s.b s.p f block=(((W++[((block:Int),mapP f.wd.gen (nowC f block))])++[(-1,empS)])++[(1 - f.slot,SuS (nwSu f block))])++[(-1,empS)]:=by
       rw[callsOf,k4,hW];simp
     have hms:=mapP_size (g:=f.wd.gen) (now:=nowC f block) (by omega) (by omega) (by omega)
     have hss:=suS_size (nwSu f block)
     have s1:=p61 (runC s W) block (mapP f.wd.gen (nowC f block)) (rt_fits hrt) (by omega) hin
     rw[stW_run hr (by omega),hSt,hSt]at s1
     have r1:=runC_rt (W++[((block:Int),mapP f.wd.gen (nowC f block))]) hr
     have i1:=runC_in (W++[((block:Int),mapP f.wd.gen (nowC f block))]) hl
     have s2:=p62 (runC s (W++[((block:Int),mapP f.wd.gen (nowC f block))])) (rt_fits r1) i1
     rw[stF_run hr,hSt,hSt]at s2
     have r2:=runC_rt ((W++[((block:Int),mapP f.wd.gen (nowC f block))])++[(-1,empS)]) hr
     have i2:=runC_in ((W++[((block:Int),mapP f.wd.gen (nowC f block))])++[(-1,empS)]) hl
     have s3:=p61 (runC s ((W++[((block:Int),mapP f.wd.gen (nowC f block))])++[(-1,empS)])) (1 - f.slot) (SuS (nwSu f block)) (rt_fits r2) (by omega) i2
     rw[stW_run hr (by omega),hSt,hSt]at s3
     have r3:=runC_rt (((W++[((block:Int),mapP f.wd.gen (nowC f block))])++[(-1,empS)])++[(1 - f.slot,SuS (nwSu f block))]) hr
     have i3:=runC_in (((W++[((block:Int),mapP f.wd.gen (nowC f block))])++[(-1,empS)])++[(1 - f.slot,SuS (nwSu f block))]) hl
     have s4:=p62 (runC s (((W++[((block:Int),mapP f.wd.gen (nowC f block))])++[(-1,empS)])++[(1 - f.slot,SuS (nwSu f block))])) (rt_fits r3) i3
     rw[stF_run hr,←eC,hSt,hSt]at s4
     have hcm:=commit_some rd
     refine ⟨_,_,_,_,s1,_,_,_,_,s2,_,_,_,_,s3,_,_,_,_,s4,sel_intro (fun h => ?_) (fun h=>sel_intro (fun h2=>bad ?_) (fun h2 => ?_))⟩
     · have h:(runC s (callsOf s.b s.p f block)).2=140:=by simpa using h
       rw[hcm,if_pos h];rfl
     · have h:(runC s (callsOf s.b s.p f block)).2≠140:=by simpa using h
       have h2:(runC s (callsOf s.b s.p f block)).2≠0:=by simpa using h2
       rw[hcm,if_neg h,if_pos h2]
     · have h2:(runC s (callsOf s.b s.p f block)).2=0:=by simpa using h2
       rw[hcm,if_neg (by rw[h2];decide),if_neg (by simpa using h2)]
       have har:ARight (gave f.wd f.su.m).base (nowC f block):=by
         obtain ⟨a1,a2,a3,a4⟩:=gave_right hwr.1 hm.1
         have hgl:(gave f.wd f.su.m).now.length=f.wd.now.length:=by simp[gave]
         refine ⟨by rw[k4];show f.wd.base.length=_;have:=hwr.1.1;omega,by omega,by omega,fun j hj=>⟨(a4 j hj).1,?_⟩⟩
         rw[nowC,tr_set (by simp[gave];omega),if_neg (by omega)]
         exact (a4 j hj).2
       have ga:=acomm_runs fs63 (gave f.wd f.su.m).base (nowC f block) (by have:=har.1;have:=har.2.2.1;unfold Small;omega) (by have:=har.2.2.1;unfold Small;omega)
       rw[AComR,if_pos (aRB_iff.2 har),alV]at ga
       have hsl:(sl_ f.wd.pages).length=f.wd.pages.length:=by simp[sl_]
       refine ⟨.inl rfl,⟨⟨rfl,rfl⟩,rfl⟩,by rw[hsl];omega,⟨rfl,rfl⟩,by omega,by rw[List.nil_append,hsl];omega,⟨⟨⟨rfl,rfl⟩,rfl⟩,rfl⟩,by rw[List.nil_append,hsl,Int.toNat_natCast];omega,_,_,_,ga,rfl,?_⟩
       rw[List.nil_append,Int.toNat_natCast,sl_set]
       rfl
end Go.Proofs.YtegndijbpiccgaaGreatDoor.M
