import Derived.Test.YtegndijbpiccgaaGreatDoorR5PW
import Derived.Test.YtegndijbpiccgaaGreatDoorR5Pb
import Derived.Test.YtegndijbpiccgaaGreatDoorR5Pm
namespace Go.Proofs.YtegndijbpiccgaaGreatDoor.M
set_option linter.unusedVariables false
set_option linter.unusedSimpArgs false
open Go Go.Mir
set_option linter.unusedVariables false
abbrev In64 (l:Int):Prop := -9223372036854775808≤l∧l≤9223372036854775807
def pwo (x:Pw×Int):AV := .tup [pwV x.1,.n (.int .i64 x.2)]
def wrC (s:Pw) (i:Int) (x:ByteArray):Pw×Int:=
 if s.left=0 then (s,140) else if CheckE s.b s.p i≠0 then (s,CheckE s.b s.p i) else if 4096<x.size∨2048≤s.p.length then (s,2) else (⟨s.b,s.p++[nwW i x],dn s.left⟩,0)
def flC (s:Pw):Pw×Int:=
 if s.left=0 then (s,140) else if Rt s.b s.p=true then (⟨CrL (fun _=>255) s.b s.p s.p.length,[],dn s.left⟩,0) else (s,1)
def hWr (i:Int) (s:ByteArray):Heap:=[hB 1900001 [.n (.int .i64 i)],hB 1900002 [.n (.str s)]]
def WriteQ (b:List ByteArray) (p:List Wr) (i:Int) (s:ByteArray):(List ByteArray×List Wr)×Int:=
 if CheckE b p i≠0 then (([],[]),CheckE b p i) else if 4096<s.size∨2048≤p.length then (([],[]),2) else ((b,p++[nwW i s]),0)
theorem writeQ_eq (b:List ByteArray) (p:List Wr) (i:Int) (s:ByteArray):WriteR b p i s = .tup [.agg [.o (.sl 1 (bk (WriteQ b p i s).1.1)),.o (.sl 2 (pk (WriteQ b p i s).1.2))],.n (.int .i64 (WriteQ b p i s).2)]:=by
 unfold WriteR WriteQ Dev
 split
 · rfl
 · split <;> rfl
theorem p52 (b:List ByteArray) (p:List Wr) (i:Int) (s:ByteArray) (hf:Fits b p) (hs:(s.size:Int)≤9223372036854775807):Runs Fs4 52 [Dev b p,.ptr 1900001 0,.ptr 1900002 0] (hWr i s) (WriteR b p i s) (hWr i s):=by
 have g:=(((p53 b p i s hf hs).up up2).up up3).up up4
 rw[writeQ_eq]at g ⊢
 refine vc_look fs52 rfl (by kernel_rfl) ?_
 rw[Dev,hWr,vc52h,(V52he _ _ _ _ _).down]
 exact ⟨_,_,_,g,rfl,rfl⟩
theorem dn_wrap {l:Int} (h:In64 l) (h0:l > 0):IntKind.wrap .i64 (l - 1)=dn l:=by
 rw[i64_in _ (by unfold In64 at h;omega),dn,if_pos h0]
theorem p51w (s:Pw) (i:Int) (x:ByteArray) (hf:Fits s.b s.p) (hs:(x.size:Int)≤9223372036854775807) (hl:In64 s.left):Runs Fs4 51 [pwV s,.fn 52 [.ptr 1900001 0,.ptr 1900002 0]] (hWr i x) (pwo (wrC s i x)) (hWr i x):=by
 have g:=p52 s.b s.p i x hf hs
 rw[writeQ_eq,hWr,Dev]at g
 refine vc_look fs51 rfl (by kernel_rfl) ?_
 rw[pwV,hWr,vc51w,(V51we _ _ _ _ _ _).down]
 refine sel_intro (fun h => ?_) (fun h => ?_)
 · have h:s.left=0:=by simpa using h
   rw[wrC,if_pos h]
   exact ⟨rfl,rfl⟩
 · have h:¬s.left=0:=by simpa using h
   refine ⟨_,_,_,g,sel_intro (fun h2 => ?_) (fun h2 => ?_)⟩
   · have h2:(WriteQ s.b s.p i x).2≠0:=by simpa using h2
     refine ⟨?_,rfl⟩
     unfold WriteQ at h2 ⊢
     rw[wrC,if_neg h]
     split
     · rfl
     · rename_i h3
       rw[if_neg h3]at h2
       split
       · rfl
       · rename_i h4;rw[if_neg h4]at h2;exact absurd rfl h2
   · have h2:(WriteQ s.b s.p i x).2=0:=by simpa using h2
     have e:WriteQ s.b s.p i x=((s.b,s.p++[nwW i x]),0)∧wrC s i x=(⟨s.b,s.p++[nwW i x],dn s.left⟩,0):=by
       unfold WriteQ at h2 ⊢
       rw[wrC,if_neg h]
       split at h2
       · rename_i h3;exact absurd h2 h3
       · rename_i h3
         split at h2
         · cases h2
         · rename_i h4
           rw[if_neg h3,if_neg h4,if_neg h3,if_neg h4];exact ⟨rfl,rfl⟩
     rw[e.1,e.2]
     refine sel_dec (fun h3 => ?_) (fun h3 => ?_)
     · rw[dn_wrap hl h3];exact ⟨rfl,rfl⟩
     · rw[dn,if_neg h3];exact ⟨rfl,rfl⟩
theorem p19 (s:Pw) (i:Int) (x:ByteArray) (hf:Fits s.b s.p) (hs:(x.size:Int)≤9223372036854775807) (hl:In64 s.left):Runs Fs4 19 [pwV s,.n (.int .i64 i),.n (.str x)] [] (pwo (wrC s i x)) []:=by
 have g:=p51w s i x hf hs hl
 rw[pwV,hWr,pwo,pwV]at g
 refine vc_eq fs19 rfl ?_
 rw[pwV,vc19,(V19e _ _ _ _ _ _).down]
 exact ⟨_,_,_,_,g,rfl⟩
theorem p51f (s:Pw) (hf:Fits s.b s.p) (hl:In64 s.left):Runs Fs4 51 [pwV s,.fn 54 []] [] (pwo (flC s)) []:=by
 have g:=(((p54 s.b s.p hf).up up2).up up3).up up4
 rw[Dev]at g
 refine vc_eq fs51 rfl ?_
 rw[pwV,vc51f,(V51fe _ _ _ _).down]
 refine sel_intro (fun h => ?_) (fun h => ?_)
 · have h:s.left=0:=by simpa using h
   rw[flC,if_pos h]
   rfl
 · have h:¬s.left=0:=by simpa using h
   rw[flC,if_neg h]
   by_cases hr:Rt s.b s.p=true
   · rw[FlushR,if_pos hr,Dev]at g
     rw[if_pos hr]
     refine ⟨_,_,_,g,sel_intro (fun h=>by simp at h) (fun _=>sel_dec (fun h3 => ?_) (fun h3 => ?_))⟩
     · rw[dn_wrap hl h3];rfl
     · rw[dn,if_neg h3];rfl
   · rw[FlushR,if_neg hr,Dev]at g
     rw[if_neg hr]
     exact ⟨_,_,_,g,sel_intro (fun _=>rfl) (fun h=>by simp at h)⟩
theorem p20 (s:Pw) (hf:Fits s.b s.p) (hl:In64 s.left):Runs Fs4 20 [pwV s] [] (pwo (flC s)) []:=by
 have g:=p51f s hf hl
 rw[pwV,pwo,pwV]at g
 refine vc_eq fs20 rfl ?_
 rw[pwV,vc20,(V20e _ _ _ _).down]
 exact ⟨_,_,_,_,g,rfl⟩
theorem wrC_do {s:Pw} {i:Int} {x:ByteArray} (h:Rt s.b s.p=true) (h0:0≤i):wrC s i x=doC s (i,x):=by
 rw[wrC,doC]
 by_cases hl:s.left=0
 · rw[if_pos hl,if_pos hl]
 · rw[if_neg hl,if_neg hl,if_neg (show ¬((i,x):Int×ByteArray).1<0 from fun h=>absurd h (by show ¬i<0;omega))]
   by_cases hi:i≥s.b.length
   · have e:CheckE s.b s.p i=30:=by rw[CheckE,if_neg (by rw[h];simp),if_pos (.inr hi)]
     rw[e,if_pos (by simp),if_pos (show (i,x).1≥s.b.length from hi)]
   · have e:CheckE s.b s.p i=0:=by rw[CheckE,if_neg (by rw[h];simp),if_neg (by omega)]
     rw[e,if_neg (by simp),if_neg (show ¬(i,x).1≥s.b.length from hi)]
theorem flC_do {s:Pw} (h:Rt s.b s.p=true):flC s=doC s (-1,empS):=by
 rw[flC,doC,if_pos h,if_pos (show ((-1:Int),empS).1<0 by decide)]
theorem p23 (s:Pw) (c:Cl) (hok:Ok s.b s.p) (hl:In64 s.left) (hs:(c.2.size:Int)≤9223372036854775807):Runs Fs4 23 [pwV s,.agg [.n (.int .i64 c.1),.n (.str c.2)]] [] (pwo (doC s c)) []:=by
 have g1:=(((p56 s.b s.p true [] hok).up up2).up up3).up up4
 have g2:=(((p57 s.b s.p c.1 c.2 hok.pl hs).up up2).up up3).up up4
 rw[mk_all]at g1
 rw[Dev,Dev]at g1 g2
 have hpl:=hok.pl
 refine vc_eq fs23 rfl ?_
 rw[pwV,vc23,(V23e _ _ _ _ _ _).down,bk_len,pk_len]
 refine sel_intro (fun h => ?_) (fun h => ?_)
 · have h:s.left=0:=by simpa using h
   rw[doC,if_pos h];rfl
 have h:¬s.left=0:=by simpa using h
 rw[doC,if_neg h]
 refine sel_dec (fun h0 => ?_) (fun h0 => ?_)
 · rw[dn_wrap hl h0]
   refine sel_dec (fun h1 => ?_) (fun h1 => ?_)
   · rw[if_pos h1];exact ⟨_,_,g1,rfl⟩
   rw[if_neg h1]
   refine sel_dec (fun h2 => ?_) (fun h2 => ?_)
   · rw[if_pos h2];rfl
   rw[if_neg h2]
   refine sel_dec (fun h3 => ?_) (fun h3=>sel_dec (fun h4 => ?_) (fun h4 => ?_))
   · rw[if_pos (by omega)];rfl
   · rw[if_pos (by omega)];rfl
   · rw[if_neg (by omega)];exact ⟨_,_,g2,rfl⟩
 · have e:dn s.left=s.left:=by rw[dn,if_neg h0]
   refine sel_dec (fun h1 => ?_) (fun h1 => ?_)
   · rw[if_pos h1,e];exact ⟨_,_,g1,rfl⟩
   rw[if_neg h1]
   refine sel_dec (fun h2 => ?_) (fun h2 => ?_)
   · rw[if_pos h2];rfl
   rw[if_neg h2]
   refine sel_dec (fun h3 => ?_) (fun h3=>sel_dec (fun h4 => ?_) (fun h4 => ?_))
   · rw[if_pos (by omega)];rfl
   · rw[if_pos (by omega)];rfl
   · rw[if_neg (by omega),e];exact ⟨_,_,g2,rfl⟩
def hSt (s:Pw) (e:Int):Heap:=[hB 2402302 [.o (.sl 1 (bk s.b)),.o (.sl 2 (pk s.p)),.n (.int .i64 s.left),.n (.int .i64 e)]]
def stW (x:Pw×Int) (i:Int) (s:ByteArray):Pw×Int:=if x.2=0 then wrC x.1 i s else x
def stF (x:Pw×Int):Pw×Int:=if x.2=0 then flC x.1 else x
theorem p61 (x:Pw×Int) (i:Int) (s:ByteArray) (hf:Fits x.1.b x.1.p) (hs:(s.size:Int)≤9223372036854775807) (hl:In64 x.1.left):Runs Fs4 61 [.ptr 2402302 0,.n (.int .i64 i),.n (.str s)] (hSt x.1 x.2) (.tup []) (hSt (stW x i s).1 (stW x i s).2):=by
 have g:=p19 x.1 i s hf hs hl
 rw[pwo,pwV,pwV]at g
 have key:∃r H',Runs Fs4 61 [.ptr 2402302 0,.n (.int .i64 i),.n (.str s)] (hSt x.1 x.2) r H'∧(r = .tup []∧H'=hSt (stW x i s).1 (stW x i s).2):=vc_objs (R:=fun r H'=>r = .tup []∧H'=hSt (stW x i s).1 (stW x i s).2) fs61 rfl (by kernel_rfl) (by
  rw[hSt,vc61h,(V61he _ _ _ _ _ _ _).down]
  refine sel_intro (fun h => ?_) (fun h => ?_)
  · have h:x.2=0:=by simpa using h
    rw[stW,if_pos h]
    exact ⟨_,_,_,_,g,rfl,rfl⟩
  · have h:¬x.2=0:=by simpa using h
    rw[stW,if_neg h]
    exact ⟨rfl,rfl⟩)
 obtain ⟨r,H',hr,rfl,rfl⟩:=key
 exact hr
theorem p62 (x:Pw×Int) (hf:Fits x.1.b x.1.p) (hl:In64 x.1.left):Runs Fs4 62 [.ptr 2402302 0] (hSt x.1 x.2) (.tup []) (hSt (stF x).1 (stF x).2):=by
 have g:=p20 x.1 hf hl
 rw[pwo,pwV,pwV]at g
 have key:∃r H',Runs Fs4 62 [.ptr 2402302 0] (hSt x.1 x.2) r H'∧(r = .tup []∧H'=hSt (stF x).1 (stF x).2):=vc_objs (R:=fun r H'=>r = .tup []∧H'=hSt (stF x).1 (stF x).2) fs62 rfl (by kernel_rfl) (by
  rw[hSt,vc62h,(V62he _ _ _ _ _).down]
  refine sel_intro (fun h => ?_) (fun h => ?_)
  · have h:x.2=0:=by simpa using h
    rw[stF,if_pos h]
    exact ⟨_,_,_,_,g,rfl,rfl⟩
  · have h:¬x.2=0:=by simpa using h
    rw[stF,if_neg h]
    exact ⟨rfl,rfl⟩)
 obtain ⟨r,H',hr,rfl,rfl⟩:=key
 exact hr
theorem p58 (e:Int):Runs Fs4 58 [.n (.int .i64 e)] [] (.tup [pwV pw0,fdV fd0,.n (.int .i64 e)]) []:=by
 refine vc_eq fs58 rfl ?_
 rw[vc58,(V58e _ _).down];rfl
theorem p26 (b:List ByteArray) (p:List Wr) (f:Fnd) (hf:Fits b p) (hw:WFits f.wd):Runs Fs4 26 [Dev b p,fdV f] [] (.n (.bool (decide (FitsP b p f)))) []:=by
 have g1:=(((p41 b p hf).up up2).up up3).up up4
 have g2:=(((p66 f.su).up up2).up up3).up up4
 have g3:=((p67 f.wd hw).up up3).up up4
 rw[Dev]at g1
 rw[suV]at g2
 rw[wdV]at g3
 have no:¬FitsP b p f→AV.n (D.bool false) = .n (.bool (decide (FitsP b p f))):=fun h=>by rw[decide_eq_false h]
 refine vc_eq fs26 rfl ?_
 rw[Dev,fdV,vc26,(V26e _ _ _ _ _ _ _ _ _ _ _ _ _ _).down,bk_len,blD_len]
 refine ⟨_,g1,sel_intro (fun h=>no fun hx=>by rw[hx.1]at h;cases h) (fun h1=>⟨_,g2,sel_intro (fun h=>no fun hx=>by rw[decide_eq_true hx.2.1]at h;cases h) (fun h2=>sel_intro (fun h=>no fun hx=>by have:=hx.2.2.2.1;simp[this]at h) (fun h3 => ?_))⟩)⟩
 have h1:Rt b p=true:=by simpa using h1
 have h2:suOK f.su:=by simpa using h2
 have h3:f.su.z=b.length:=by simpa using h3
 have rest:(f.slot=0∨f.slot=1)→∃x5:Bool,Runs Fs4 67 [.agg [aL (blD f.wd.base),aL (blD f.wd.now),aL (sl_ f.wd.pages),aI f.wd.root,aI f.wd.gen]] [] (aB x5) []∧sel x5 (sel (((f.wd.now.length:Nat):Int)==f.su.z) (sel (f.wd.gen==IntKind.wrap .i64 (f.su.g+1)) (rn 1∧(0:Int)≤f.su.m∧∃x6:Mir.D,(blD f.wd.now)[Int.toNat f.su.m]?=some x6∧∃x7:Bool,(D.cells x6)[0]?=some (D.bool x7)∧sel x7 (AV.n (D.bool (f.wd.root != f.su.m)) = .n (.bool (decide (FitsP b p f)))) (AV.n (D.bool false) = .n (.bool (decide (FitsP b p f))))) (AV.n (D.bool false) = .n (.bool (decide (FitsP b p f))))) (AV.n (D.bool false) = .n (.bool (decide (FitsP b p f))))) (AV.n (D.bool false) = .n (.bool (decide (FitsP b p f)))):=fun hs=>by
   refine ⟨_,g3,sel_intro (fun h4=>sel_intro (fun h5=>sel_intro (fun h6 => ?_) (fun h=>no fun hx => ?_)) (fun h=>no fun hx => ?_)) (fun h=>no fun hx => ?_)⟩
   · have h4:WRight f.wd:=by simpa using h4
     have h5:(f.wd.now.length:Int)=f.su.z:=by simpa using h5
     have hg:=h2.2.1
     have hm:=h2.2.2.2.2.2
     rw[i64_in _ (by have:=h2.1;omega)]at h6
     have h6:f.wd.gen=f.su.g+1:=by simpa using h6
     have hi:f.su.m.toNat<f.wd.now.length:=by omega
     refine ⟨rfl,by omega,_,blD_at hi,_,rfl,sel_intro (fun h7 => ?_) (fun h7=>no fun hx => ?_)⟩
     · congr 2
       by_cases hr:f.wd.root=f.su.m
       · rw[decide_eq_false (fun hx=>hx.2.2.2.2.2.2.2.2 hr)];simp[hr]
       · rw[decide_eq_true ⟨h1,h2,h4,h3,by omega,hs,h6,by rw[tr_at hi];exact h7,hr⟩];simpa using hr
     · have:=hx.2.2.2.2.2.2.2.1
       rw[tr_at hi,h7]at this;cases this
   · have:=hx.2.2.2.2.2.2.1
     have hg:=h2.2.1
     rw[i64_in _ (by have:=h2.1;omega),this]at h
     simp at h
   · have:=hx.2.2.2.2.1
     rw[this,h3]at h
     simp at h
   · have:=hx.2.2.1
     rw[decide_eq_true this]at h;cases h
 refine sel_intro (fun h4=>sel_intro (fun h5=>no fun hx => ?_) (fun h5 => ?_)) (fun h4 => ?_)
 · have h4:f.slot≠0:=by simpa using h4
   have h5:f.slot≠1:=by simpa using h5
   exact hx.2.2.2.2.2.1.elim h4 h5
 · exact rest (.inr (by simpa using h5))
 · exact rest (.inl (by simpa using h4))
theorem p27 (b:List ByteArray) (p:List Wr) (f:Fnd) (hf:Fits b p) (hw:WFits f.wd):Runs Fs4 27 [Dev b p,fdV f] [] (.n (.bool (decide (FitsP b p f)))) []:=by
 have g1:=(((p22 b p hf).up up2).up up3).up up4
 have g2:=(((p68 f.su).up up2).up up3).up up4
 have g3:=((p69 f.wd hw).up up3).up up4
 rw[Dev]at g1
 rw[suV]at g2
 rw[wdV]at g3
 have no:¬FitsP b p f→AV.n (D.bool false) = .n (.bool (decide (FitsP b p f))):=fun h=>by rw[decide_eq_false h]
 refine vc_eq fs27 rfl ?_
 rw[Dev,fdV,vc27,(V27e _ _ _ _ _ _ _ _ _ _ _ _ _ _).down,bk_len,blD_len]
 refine ⟨_,g1,sel_intro (fun h=>no fun hx=>by rw[hx.1]at h;cases h) (fun h1=>⟨_,g2,sel_intro (fun h=>no fun hx=>by rw[decide_eq_true hx.2.1]at h;cases h) (fun h2=>⟨_,g3,sel_intro (fun h=>no fun hx=>by rw[decide_eq_true hx.2.2.1]at h;cases h) (fun h4=>sel_intro (fun h=>no fun hx=>by have:=hx.2.2.2.1;simp[this]at h) (fun h3=>sel_intro (fun h=>no fun hx=>by have:=hx.2.2.2.2.1;simp[this]at h) (fun h5=>sel_dec (fun h=>no fun hx=>by have:=hx.2.2.2.2.2.1;omega) (fun h7=>sel_dec (fun h=>no fun hx=>by have:=hx.2.2.2.2.2.1;omega) (fun h8 => ?_)))))⟩)⟩)⟩
 have h1:Rt b p=true:=by simpa using h1
 have h2:suOK f.su:=by simpa using h2
 have h3:f.su.z=b.length:=by simpa using h3
 have h4:WRight f.wd:=by simpa using h4
 have h5:(f.wd.now.length:Int)=b.length:=by simpa using h5
 have hg:=h2.2.1
 have hm:=h2.2.2.2.2.2
 rw[i64_in _ (by have:=h2.1;omega)]
 refine sel_intro (fun h=>no fun hx=>by have:=hx.2.2.2.2.2.2.1;simp[this]at h) (fun h6 => ?_)
 have h6:f.wd.gen=f.su.g+1:=by simpa using h6
 have hi:f.su.m.toNat<f.wd.now.length:=by omega
 refine ⟨rfl,by omega,_,blD_at hi,_,rfl,sel_intro (fun h7 => ?_) (fun h7=>no fun hx => ?_)⟩
 · congr 2
   by_cases hr:f.wd.root=f.su.m
   · rw[decide_eq_false (fun hx=>hx.2.2.2.2.2.2.2.2 hr)];simp[hr]
   · rw[decide_eq_true ⟨h1,h2,h4,h3,h5,by omega,h6,by rw[tr_at hi];exact h7,hr⟩];simpa using hr
 · have:=hx.2.2.2.2.2.2.2.1
   rw[tr_at hi,h7]at this;cases this
theorem bk_blk {b:List ByteArray} {i:Int} (h0:0≤i) (hi:i<b.length):(bk b)[i.toNat]?=some (.str (blk b i)):=by
 rw[bk,List.getElem?_map,blk_at h0 hi];rfl
def rowV (o:Option (List Bool)):AV := .tup [.o (.sl 1 (blD (o.getD []))),.n (.bool o.isSome)]
theorem mapOf_err {s:ByteArray} {g z e:Int} (he:e≠0) (h:GetPR s=pErr e):mapOf s g z=none:=by
 rw[mapOf,h,pErr,pg]
 dsimp only
 rw[if_neg (fun h=>he h.1)]
theorem mapOf_ok {s:ByteArray} {g z k g':Int} {y:ByteArray} (h:GetPR s = .tup [pg k g' y,.n (.int .i64 0)]):mapOf s g z=if k=3∧g'≤g∧(UnpR y z).2=0 then some (UnpR y z).1 else none:=by
 rw[mapOf,h,pg]
 dsimp only
 by_cases h1:k=3∧g'≤g∧(UnpR y z).2=0
 · rw[if_pos h1,if_pos ⟨rfl,h1⟩]
 · rw[if_neg h1,if_neg (fun h=>h1 h.2)]
theorem mapOf_len {s:ByteArray} {g z:Int} {now:List Bool} (h:mapOf s g z=some now):(now.length:Int)=z∧0≤z∧z≤2048:=by
 rcases getP_cases s with ⟨e,he,h2⟩|⟨k,g',y,h2,_⟩
 · rw[mapOf_err he h2]at h;cases h
 · rw[mapOf_ok h2]at h
   split at h
   · rename_i h1
     obtain rfl:=Option.some.inj h
     exact unp_len h1.2.2
   · cases h
theorem unp_bad {s:ByteArray} {n:Int} (h:(UnpR s n).2≠0):(UnpR s n).1=[]:=by
 unfold UnpR at h ⊢
 split
 · rfl
 · rename_i h1
   rw[if_neg h1]at h
   split
   · rfl
   · rename_i h2
     rw[if_neg h2]at h
     split
     · rfl
     · rename_i h3
       rw[if_neg h3]at h
       exact absurd rfl h
theorem p43 (b:List ByteArray) (p:List Wr) (s:Su) (hs:∀x∈b,(x.size:Int)≤9223372036854775807) (h0:0≤s.m) (hm:s.m<b.length):Runs Fs4 43 [Dev b p,suV s] [] (rowV (rowR b s)) []:=by
 have hsz:((blk b s.m).size:Int)≤9223372036854775807:=by
   have:=blk_at h0 hm
   exact hs _ (List.mem_of_getElem? this)
 refine vc_eq fs43 rfl ?_
 rw[Dev,suV,vc43,(V43e _ _ _ _ _ _ _).down]
 refine ⟨rfl,h0,_,bk_blk h0 hm,_,rfl,rfl,?_⟩
 rcases getP_cases (blk b s.m) with ⟨e,he,h2⟩|⟨k,g',y,h2,h3,_⟩
 · have g:=(((p90_err (blk b s.m) hsz [3] e he h2).up up2).up up3).up up4
   rw[rowR,mapOf_err he h2]
   exact ⟨_,_,_,_,g,sel_intro (fun _=>rfl) (fun h=>absurd (by simpa using h) he)⟩
 · have g:=(((p90_ok (blk b s.m) hsz [3] (by decide) k g' y h2).up up2).up up3).up up4
   rw[rowR,mapOf_ok h2]
   by_cases hk:k=3
   · subst hk
     rw[if_pos (by simp)]at g
     refine ⟨_,_,_,_,g,sel_intro (fun h=>by simp at h) (fun _=>sel_dec (fun h => ?_) (fun h => ?_))⟩
     · rw[if_neg (fun hx=>by omega)];rfl
     · refine ⟨_,_,p91 y (by have:=h3.2.2.2.2;omega) s.z,?_⟩
       by_cases hu:(UnpR y s.z).2=0
       · rw[if_pos ⟨rfl,by omega,hu⟩,hu];rfl
       · rw[if_neg (fun hx=>hu hx.2.2),unp_bad hu]
         show AV.tup [_,.n (.bool ((UnpR y s.z).2==0))] = .tup [_,.n (.bool false)]
         rw[beq_false_of_ne hu];rfl
   · rw[if_neg (by simpa using hk)]at g
     rw[if_neg (fun hx=>hk hx.1)]
     exact ⟨_,_,_,_,g,sel_intro (fun _=>rfl) (fun h=>by simp at h)⟩
def pgsTo (b:List ByteArray) (now:List Bool) (n:Nat):List ByteArray:=(List.range n).map fun i=>if tr now i then (b[i]?).getD empS else empS
theorem pgsTo_len (b:List ByteArray) (now:List Bool) (n:Nat):(pgsTo b now n).length=n:=by simp[pgsTo]
theorem pgsTo_succ (b:List ByteArray) (now:List Bool) (n:Nat):pgsTo b now (n+1)=pgsTo b now n++[if tr now n then blk b n else empS]:=by simp[pgsTo,List.range_succ,blk]
theorem wdOf_fits {b:List ByteArray} {s:Su} {now:List Bool} (hb:∀s∈b,s.size≤4096) (hn:now.length≤2048):WFits (wdOf b s now):=by
 refine ⟨by show Small now.length;unfold Small;omega,by show Small now.length;unfold Small;omega,by show Small (pgsOf b now).length;rw[pgsOf_len];unfold Small;omega,fun x hx => ?_⟩
 obtain ⟨i,_,rfl⟩:=List.mem_map.1 hx
 unfold Small
 split
 · cases hy:b[i]? with
   | none=>decide
   | some y=>have:=hb y (List.mem_of_getElem? hy);show (y.size:Int)≤_;omega
 · decide
theorem chz_ok {x y:ByteArray} (h:¬(chz x y).2<0):suOK (chz x y).1∧((chz x y).2=0∨(chz x y).2=1):=by
 unfold chz at h ⊢
 split
 · rename_i h1
   refine ⟨?_,.inl rfl⟩
   rcases sget_cases x with h2|h2
   · exact h2.2
   · exact absurd h1.1 h2.1
 · rename_i h1
   rw[if_neg h1]at h
   split
   · rename_i h2
     refine ⟨?_,.inr rfl⟩
     rcases sget_cases y with h3|h3
     · exact h3.2
     · exact absurd h2 h3.1
   · rename_i h2
     rw[if_neg h2]at h
     exact absurd (by decide) h
theorem chz_no {x y:ByteArray} (h:(chz x y).2<0):(chz x y).2 = -1∧(chz x y).1=su0:=by
 unfold chz at h ⊢
 split
 · rename_i h1;rw[if_pos h1]at h;exact absurd (show (0:Int)<0 from h) (by decide)
 · rename_i h1
   rw[if_neg h1]at h
   split
   · rename_i h2;rw[if_pos h2]at h;exact absurd (show (1:Int)<0 from h) (by decide)
   · exact ⟨rfl,rfl⟩
def chzV (c:Su×Int):AV := .tup [.agg [.n (.int .i64 c.1.g),.n (.int .i64 c.1.r),.n (.int .i64 c.1.m),.n (.int .i64 c.1.z)],.n (.int .i64 (chA c.2)),.n (.int .i64 (chE c.2))]
theorem chz_v (x y:ByteArray):chooV (chz x y).1 (chz x y).2=chzV (chz x y):=by
 rw[chooV_eq,chzV]
 by_cases h:(chz x y).2<0
 · obtain ⟨h1,h2⟩:=chz_no h
   rw[h1,h2];rfl
 · rw[chS,if_neg h]
theorem p42z (x y:ByteArray) (hx:(x.size:Int)≤9223372036854775807) (hy:(y.size:Int)≤9223372036854775807):Runs Fs4 42 [.o (.sl 1 (sl_ [x,y]))] [] (chzV (chz x y)) []:=by
 obtain ⟨b,a,h1,h2⟩:=p42 [x,y] ⟨by simp,fun s hs=>by rcases List.mem_cons.1 hs with rfl|hs;exact hx;rw[List.mem_singleton.1 hs];exact hy⟩
 obtain ⟨rfl,rfl⟩:=best_one h1 (chz_best x y)
 rw[chz_v]at h2
 exact ((h2.up up2).up up3).up up4
def fdo (x:Fnd×Int):AV := .tup [fdV x.1,.n (.int .i64 x.2)]
theorem pgs_yes {b:List ByteArray} {now:List Bool} {n i:Nat} (h:i<n) (ht:tr now i=true):(pgsTo b now i++List.replicate (n - i) empS).set i (blk b i)=pgsTo b now (i+1)++List.replicate (n - (i+1)) empS:=by
 rw[show n - i=(n - (i+1))+1 by omega,List.replicate_succ,List.set_append_right _ _ (by rw[pgsTo_len];omega),pgsTo_len,Nat.sub_self,List.set_cons_zero,pgsTo_succ,ht,if_pos rfl]
 simp
theorem pgs_no {b:List ByteArray} {now:List Bool} {n i:Nat} (h:i<n) (ht:tr now i=false):pgsTo b now i++List.replicate (n - i) empS=pgsTo b now (i+1)++List.replicate (n - (i+1)) empS:=by
 rw[show n - i=(n - (i+1))+1 by omega,List.replicate_succ,pgsTo_succ,ht,if_neg (by simp)]
 simp
theorem p16 (b:List ByteArray) (p:List Wr) (hf:Fits b p):Runs Fs4 16 [Dev b p] [] (fdo (MountR b p)) []:=by
 have g1:=(((p41 b p hf).up up2).up up3).up up4
 rw[Dev]at g1
 refine vc_eq fs16 rfl ?_
 rw[Dev,vc16,(V16e _ _ _).down,bk_len,pk_len]
 refine ⟨_,g1,sel_intro (fun h => ?_) (fun h => ?_)⟩
 · rw[MountR,if_pos (.inl (by simpa using h))];rfl
 have hr:Rt b p=true:=by simpa using h
 refine sel_dec (fun h => ?_) (fun h => ?_)
 · rw[MountR,if_pos (.inr (fun e=>by rw[e]at h;simp at h))];rfl
 have hp:p=[]:=List.length_eq_zero_iff.1 (by omega)
 have c0:¬(Rt b p=false∨p≠[]):=by rw[hr];simp[hp]
 refine sel_dec (fun h => ?_) (fun h24 => ?_)
 · rw[MountR,if_neg c0,if_pos (by omega)];rfl
 have hn:24≤b.length:=by omega
 obtain ⟨t1,⟨t2,t3,t4⟩,t5⟩:=rt_tms hr
 have hb:∀x∈b,x.size≤4096:=fun x hx=>(tm_T (t1 x hx)).2
 have bsz:∀i:Int,((blk b i).size:Int)≤9223372036854775807:=fun i=>by
   unfold blk
   cases hx:b[i.toNat]? with
   | none=>decide
   | some s=>have:=hb s (List.mem_of_getElem? hx);show (s.size:Int)≤_;omega
 have g2:=p42z (blk b 0) (blk b 1) (bsz 0) (bsz 1)
 refine ⟨rfl,by decide,_,bk_blk (i:=0) (by decide) (by omega),_,rfl,rfl,by decide,_,bk_blk (i:=1) (by decide) (by omega),_,rfl,rfl,_,_,_,_,_,_,g2,?_⟩
 rw[MountR,if_neg c0,if_neg (by omega)]
 have hno:=chz_no (x:=blk b 0) (y:=blk b 1)
 have hok:=chz_ok (x:=blk b 0) (y:=blk b 1)
 generalize chz (blk b 0) (blk b 1)=c at hno hok ⊢
 by_cases hc:c.2<0
 · rw[if_pos (.inl hc)]
   refine sel_intro (fun _=>rfl) (fun h => ?_)
   have:chE c.2=0:=by simpa using h
   rw[chE,if_pos hc]at this;cases this
 obtain ⟨hsu,hsl⟩:=hok hc
 have ea:chA c.2=c.2:=by rw[chA,if_neg hc]
 rw[chE,if_neg hc,ea]
 refine sel_intro (fun h=>by simp at h) (fun _=>sel_intro (fun h => ?_) (fun h => ?_))
 · rw[if_pos (.inr (.inl (by simpa using h)))];rfl
 have hz:c.1.z=b.length:=by simpa using h
 refine sel_dec (fun h=>by rw[if_pos (.inr (.inr h))];rfl) (fun hg => ?_)
 rw[if_neg (by omega)]
 have hm:=hsu.2.2.2.2.2
 have g3:=p43 b p c.1 (fun x hx=>by have:=hb x hx;omega) (by omega) (by omega)
 rw[Dev,suV]at g3
 cases hrow:rowR b c.1 with
 | none=>
   rw[hrow]at g3
   exact ⟨_,_,g3,sel_intro (fun _=>rfl) (fun h=>by cases h)⟩
 | some now=>
   rw[hrow]at g3
   have hlen:=(mapOf_len hrow).1
   have hnl:now.length=b.length:=by omega
   refine ⟨_,_,g3,sel_intro (fun h=>by cases h) (fun _ => ?_)⟩
   rw[hz,Int.toNat_natCast,i64_in (c.1.g+1) (by have:=hsu.1;omega)]
   refine ⟨by omega,by omega,?_⟩
   rw[sl_rep]
   rw[show (some now).getD []=now from rfl,blD_len]
   refine ⟨fun i q=>∃n:Nat,i=n∧n≤now.length∧q=(0,sl_ (pgsTo b now n++List.replicate (now.length - n) empS)),fun i _=>(now.length - i).toNat,⟨rfl,0,rfl,by omega,by rw[hnl];rfl⟩,?_⟩
   rintro _ _ ⟨n,rfl,hnn,rfl⟩ _
   refine sel_dec (fun hlt => ?_) (fun hge => ?_)
   · have hi:n<now.length:=by omega
     have hbi:(bk b)[(n:Int).toNat]?=some (.str (blk b n)):=bk_blk (by omega) (by omega)
     have e1:IntKind.wrap .i64 ((n:Int)+1)=((n+1:Nat):Int):=by rw[i64_in _ (by omega)];omega
     refine ⟨rfl,by omega,_,blD_at (i:=(n:Int).toNat) (by omega),_,rfl,?_⟩
     have et:now[(n:Int).toNat]=tr now n:=by rw[tr_at hi];rfl
     have el:(sl_ (pgsTo b now n++List.replicate (now.length - n) empS)).length=now.length:=by simp[sl_,pgsTo_len];omega
     rw[et,e1]
     refine sel_intro (fun ht => ?_) (fun ht => ?_)
     · refine ⟨rfl,by omega,_,hbi,_,rfl,⟨rfl,rfl⟩,by omega,by dsimp only;omega,⟨⟨⟨rfl,rfl⟩,rfl⟩,rfl⟩,by dsimp only;omega,?_⟩
       repeat (refine And.intro rfl ?_)
       refine ⟨⟨n+1,rfl,hi,?_⟩,by first|omega|(dsimp only;omega)⟩
       dsimp only
       rw[sl_set,Int.toNat_natCast,pgs_yes hi ht]
     · repeat (refine And.intro rfl ?_)
       refine ⟨⟨n+1,rfl,hi,?_⟩,by first|omega|(dsimp only;omega)⟩
       dsimp only
       rw[pgs_no hi ht]
   · obtain rfl:n=now.length:=by omega
     have ep:pgsTo b now now.length++List.replicate (now.length - now.length) empS=pgsOf b now:=by simp;rfl
     rw[ep]
     have gc:=((p44 (wdOf b c.1 now) (wdOf_fits hb (by omega)) [c.1.m] (by simp)).up up3).up up4
     refine ⟨rfl,rfl,_,_,_,_,gc,sel_intro (fun h => ?_) (fun h => ?_)⟩
     · have h:(ChkR (wdOf b c.1 now) [c.1.m]).2≠0:=by simpa using h
       dsimp only
       rw[if_pos h];rfl
     · have h:(ChkR (wdOf b c.1 now) [c.1.m]).2=0:=by simpa using h
       dsimp only
       rw[if_neg (by simpa using h)]
       have g4:=(((p45 c.1.g ((b.take 10).drop 2) ⟨by simp;omega,fun s hs=>by have:=hb s (List.mem_of_mem_take (List.mem_of_mem_drop hs));omega⟩).up up2).up up3).up up4
       have e4:List.drop (Int.toNat 2) (List.take (Int.toNat 10) (bk b))=sl_ ((b.take 10).drop 2):=by
        rw[bk,←List.map_take,←List.map_drop];rfl
       refine ⟨rfl,by decide,by omega,by decide,by decide,_,by rw[e4];exact g4,rfl,?_⟩
       rw[←hz];rfl
end Go.Proofs.YtegndijbpiccgaaGreatDoor.M
