import Derived.Test.YtegndijbpiccgaaGreatDoorR5PW
import Derived.Test.YtegndijbpiccgaaGreatDoorR5Pb
import Derived.Test.YtegndijbpiccgaaGreatDoorR5Pm
namespace Go.Proofs.YtegndijbpiccgaaGreatDoor.M
set_option linter.unusedVariables false
set_option linter.unusedSimpArgs false
open Go Go.Mir
set_option linter.unusedVariables false
abbrev In64 (l:Int):Prop := -9223372036854775808≤l∧l≤9223372036854775807
def pwo (x:Pw×Int):AV := .tup [pwV x.1,.n (.int .i64 x.2)]
def wrC (s:Pw) (i:Int) (x:ByteArray):Pw×Int:=
 if s.left=0 then (s,140) else if CheckE s.b s.p i≠0 then (s,CheckE s.b s.p i) else if 4096<x.size∨2048≤s.p.length then (s,2) else (⟨s.b,s.p++[nwW i x],dn s.left⟩,0)
def flC (s:Pw):Pw×Int:=
 if s.left=0 then (s,140) else if Rt s.b s.p=true then (⟨CrL (fun _=>255) s.b s.p s.p.length,[],dn s.left⟩,0) else (s,1)
def hWr (i:Int) (s:ByteArray):Heap:=[hB 1900001 [.n (.int .i64 i)],hB 1900002 [.n (.str s)]]
def WriteQ (b:List ByteArray) (p:List Wr) (i:Int) (s:ByteArray):(List ByteArray×List Wr)×Int:=
 if CheckE b p i≠0 then (([],[]),CheckE b p i) else if 4096<s.size∨2048≤p.length then (([],[]),2) else ((b,p++[nwW i s]),0)
theorem writeQ_eq (b:List ByteArray) (p:List Wr) (i:Int) (s:ByteArray):WriteR b p i s = .tup [.agg [.o (.sl 1 (bk (WriteQ b p i s).1.1)),.o (.sl 2 (pk (WriteQ b p i s).1.2))],.n (.int .i64 (WriteQ b p i s).2)]:=by
 unfold WriteR WriteQ Dev
 split
 · rfl
 · split <;> rfl
theorem p52 (b:List ByteArray) (p:List Wr) (i:Int) (s:ByteArray) (hf:Fits b p) (hs:(s.size:Int)≤9223372036854775807):Runs Fs4 52 [Dev b p,.ptr 1900001 0,.ptr 1900002 0] (hWr i s) (WriteR b p i s) (hWr i s):=by
 have g:=(((p53 b p i s hf hs).up up2).up up3).up up4
 rw[writeQ_eq]at g ⊢
 refine vc_look fs52 rfl (by kernel_rfl) ?_
 rw[Dev,hWr,vc52h,(V52he _ _ _ _ _).down]
 exact ⟨_,_,_,g,rfl,rfl⟩
theorem dn_wrap {l:Int} (h:In64 l) (h0:l > 0):IntKind.wrap .i64 (l - 1)=dn l:=by
 rw[i64_in _ (by unfold In64 at h;omega),dn,if_pos h0]
theorem p51w (s:Pw) (i:Int) (x:ByteArray) (hf:Fits s.b s.p) (hs:(x.size:Int)≤9223372036854775807) (hl:In64 s.left):Runs Fs4 51 [pwV s,.fn 52 [.ptr 1900001 0,.ptr 1900002 0]] (hWr i x) (pwo (wrC s i x)) (hWr i x):=by
 have g:=p52 s.b s.p i x hf hs
 rw[writeQ_eq,hWr,Dev]at g
 refine vc_look fs51 rfl (by kernel_rfl) ?_
 rw[pwV,hWr,vc51w,(V51we _ _ _ _ _ _).down]
 refine sel_intro (fun h => ?_) (fun h => ?_)
 · have h:s.left=0:=by simpa using h
   rw[wrC,if_pos h]
   exact ⟨rfl,rfl⟩
 · have h:¬s.left=0:=by simpa using h
   refine ⟨_,_,_,g,sel_intro (fun h2 => ?_) (fun h2 => ?_)⟩
   · have h2:(WriteQ s.b s.p i x).2≠0:=by simpa using h2
     refine ⟨?_,rfl⟩
     unfold WriteQ at h2 ⊢
     rw[wrC,if_neg h]
     split
     · rfl
     · rename_i h3
       rw[if_neg h3]at h2
       split
       · rfl
       · rename_i h4;rw[if_neg h4]at h2;exact absurd rfl h2
   · have h2:(WriteQ s.b s.p i x).2=0:=by simpa using h2
     have e:WriteQ s.b s.p i x=((s.b,s.p++[nwW i x]),0)∧wrC s i x=(⟨s.b,s.p++[nwW i x],dn s.left⟩,0):=by
       unfold WriteQ at h2 ⊢
       rw[wrC,if_neg h]
       split at h2
       · rename_i h3;exact absurd h2 h3
       · rename_i h3
         split at h2
         · cases h2
         · rename_i h4
           rw[if_neg h3,if_neg h4,if_neg h3,if_neg h4];exact ⟨rfl,rfl⟩
     rw[e.1,e.2]
     refine sel_dec (fun h3 => ?_) (fun h3 => ?_)
     · rw[dn_wrap hl h3];exact ⟨rfl,rfl⟩
     · rw[dn,if_neg h3];exact ⟨rfl,rfl⟩
theorem p19 (s:Pw) (i:Int) (x:ByteArray) (hf:Fits s.b s.p) (hs:(x.size:Int)≤9223372036854775807) (hl:In64 s.left):Runs Fs4 19 [pwV s,.n (.int .i64 i),.n (.str x)] [] (pwo (wrC s i x)) []:=by
 have g:=p51w s i x hf hs hl
 rw[pwV,hWr,pwo,pwV]at g
 refine vc_eq fs19 rfl ?_
 rw[pwV,vc19,(V19e _ _ _ _ _ _).down]
 exact ⟨_,_,_,_,g,rfl⟩
theorem p51f (s:Pw) (hf:Fits s.b s.p) (hl:In64 s.left):Runs Fs4 51 [pwV s,.fn 54 []] [] (pwo (flC s)) []:=by
 have g:=(((p54 s.b s.p hf).up up2).up up3).up up4
 rw[Dev]at g
 refine vc_eq fs51 rfl ?_
 rw[pwV,vc51f,(V51fe _ _ _ _).down]
 refine sel_intro (fun h => ?_) (fun h => ?_)
 · have h:s.left=0:=by simpa using h
   rw[flC,if_pos h]
   rfl
 · have h:¬s.left=0:=by simpa using h
   rw[flC,if_neg h]
   by_cases hr:Rt s.b s.p=true
   · rw[FlushR,if_pos hr,Dev]at g
     rw[if_pos hr]
     refine ⟨_,_,_,g,sel_intro (fun h=>by simp at h) (fun _=>sel_dec (fun h3 => ?_) (fun h3 => ?_))⟩
     · rw[dn_wrap hl h3];rfl
     · rw[dn,if_neg h3];rfl
   · rw[FlushR,if_neg hr,Dev]at g
     rw[if_neg hr]
     exact ⟨_,_,_,g,sel_intro (fun _=>rfl) (fun h=>by simp at h)⟩
theorem p20 (s:Pw) (hf:Fits s.b s.p) (hl:In64 s.left):Runs Fs4 20 [pwV s] [] (pwo (flC s)) []:=by
 have g:=p51f s hf hl
 rw[pwV,pwo,pwV]at g
 refine vc_eq fs20 rfl ?_
 rw[pwV,vc20,(V20e _ _ _ _).down]
 exact ⟨_,_,_,_,g,rfl⟩
theorem wrC_do {s:Pw} {i:Int} {x:ByteArray} (h:Rt s.b s.p=true) (h0:0≤i):wrC s i x=doC s (i,x):=by
 rw[wrC,doC]
 by_cases hl:s.left=0
 · rw[if_pos hl,if_pos hl]
 · rw[if_neg hl,if_neg hl,if_neg (show ¬((i,x):Int×ByteArray).1<0 from fun h=>absurd h (by show ¬i<0;omega))]
   by_cases hi:i≥s.b.length
   · have e:CheckE s.b s.p i=30:=by rw[CheckE,if_neg (by rw[h];simp),if_pos (.inr hi)]
     rw[e,if_pos (by simp),if_pos (show (i,x).1≥s.b.length from hi)]
   · have e:CheckE s.b s.p i=0:=by rw[CheckE,if_neg (by rw[h];simp),if_neg (by omega)]
     rw[e,if_neg (by simp),if_neg (show ¬(i,x).1≥s.b.length from hi)]
theorem flC_do {s:Pw} (h:Rt s.b s.p=true):flC s=doC s (-1,empS):=by
 rw[flC,doC,if_pos h,if_pos (show ((-1:Int),empS).1<0 by decide)]
theorem p23 (s:Pw) (c:Cl) (hok:Ok s.b s.p) (hl:In64 s.left) (hs:(c.2.size:Int)≤9223372036854775807):Runs Fs4 23 [pwV s,.agg [.n (.int .i64 c.1),.n (.str c.2)]] [] (pwo (doC s c)) []:=by
 have g1:=(((p56 s.b s.p true [] hok).up up2).up up3).up up4
 have g2:=(((p57 s.b s.p c.1 c.2 hok.pl hs).up up2).up up3).up up4
 rw[mk_all]at g1
 rw[Dev,Dev]at g1 g2
 have hpl:=hok.pl
 refine vc_eq fs23 rfl ?_
 rw[pwV,vc23,(V23e _ _ _ _ _ _).down,bk_len,pk_len]
 refine sel_intro (fun h => ?_) (fun h => ?_)
 · have h:s.left=0:=by simpa using h
   rw[doC,if_pos h];rfl
 have h:¬s.left=0:=by simpa using h
 rw[doC,if_neg h]
 refine sel_dec (fun h0 => ?_) (fun h0 => ?_)
 · rw[dn_wrap hl h0]
   refine sel_dec (fun h1 => ?_) (fun h1 => ?_)
   · rw[if_pos h1];exact ⟨_,_,g1,rfl⟩
   rw[if_neg h1]
   refine sel_dec (fun h2 => ?_) (fun h2 => ?_)
   · rw[if_pos h2];rfl
   rw[if_neg h2]
   refine sel_dec (fun h3 => ?_) (fun h3=>sel_dec (fun h4 => ?_) (fun h4 => ?_))
   · rw[if_pos (by omega)];rfl
   · rw[if_pos (by omega)];rfl
   · rw[if_neg (by omega)];exact ⟨_,_,g2,rfl⟩
 · have e:dn s.left=s.left:=by rw[dn,if_neg h0]
   refine sel_dec (fun h1 => ?_) (fun h1 => ?_)
   · rw[if_pos h1,e];exact ⟨_,_,g1,rfl⟩
   rw[if_neg h1]
   refine sel_dec (fun h2 => ?_) (fun h2 => ?_)
   · rw[if_pos h2];rfl
   rw[if_neg h2]
   refine sel_dec (fun h3 => ?_) (fun h3=>sel_dec (fun h4 => ?_) (fun h4 => ?_))
   · rw[if_pos (by omega)];rfl
   · rw[if_pos (by omega)];rfl
   · rw[if_neg (by omega),e];exact ⟨_,_,g2,rfl⟩
theorem bk_blk {b:List ByteArray} {i:Int} (h0:0≤i) (hi:i<b.length):(bk b)[i.toNat]?=some (.str (blk b i)):=by
 rw[bk,List.getElem?_map,blk_at h0 hi];rfl
def rowV (o:Option (List Bool)):AV := .tup [.o (.sl 1 (blD (o.getD []))),.n (.bool o.isSome)]
theorem mapOf_err {s:ByteArray} {g z e:Int} (he:e≠0) (h:GetPR s=pErr e):mapOf s g z=none:=by
 rw[mapOf,h,pErr,pg]
 dsimp only
 rw[if_neg (fun h=>he h.1)]
theorem mapOf_ok {s:ByteArray} {g z k g':Int} {y:ByteArray} (h:GetPR s = .tup [pg k g' y,.n (.int .i64 0)]):mapOf s g z=if k=3∧g'≤g∧(UnpR y z).2=0 then some (UnpR y z).1 else none:=by
 rw[mapOf,h,pg]
 dsimp only
 by_cases h1:k=3∧g'≤g∧(UnpR y z).2=0
 · rw[if_pos h1,if_pos ⟨rfl,h1⟩]
 · rw[if_neg h1,if_neg (fun h=>h1 h.2)]
theorem mapOf_len {s:ByteArray} {g z:Int} {now:List Bool} (h:mapOf s g z=some now):(now.length:Int)=z∧0≤z∧z≤2048:=by
 rcases getP_cases s with ⟨e,he,h2⟩|⟨k,g',y,h2,_⟩
 · rw[mapOf_err he h2]at h;cases h
 · rw[mapOf_ok h2]at h
   split at h
   · rename_i h1
     obtain rfl:=Option.some.inj h
     exact unp_len h1.2.2
   · cases h
theorem unp_bad {s:ByteArray} {n:Int} (h:(UnpR s n).2≠0):(UnpR s n).1=[]:=by
 unfold UnpR at h ⊢
 split
 · rfl
 · rename_i h1
   rw[if_neg h1]at h
   split
   · rfl
   · rename_i h2
     rw[if_neg h2]at h
     split
     · rfl
     · rename_i h3
       rw[if_neg h3]at h
       exact absurd rfl h
theorem p43 (b:List ByteArray) (p:List Wr) (s:Su) (hs:∀x∈b,(x.size:Int)≤9223372036854775807) (h0:0≤s.m) (hm:s.m<b.length):Runs Fs4 43 [Dev b p,suV s] [] (rowV (rowR b s)) []:=by
 have hsz:((blk b s.m).size:Int)≤9223372036854775807:=by
   have:=blk_at h0 hm
   exact hs _ (List.mem_of_getElem? this)
 refine vc_eq fs43 rfl ?_
 rw[Dev,suV,vc43,(V43e _ _ _ _ _ _ _).down]
 refine ⟨rfl,h0,_,bk_blk h0 hm,_,rfl,rfl,?_⟩
 rcases getP_cases (blk b s.m) with ⟨e,he,h2⟩|⟨k,g',y,h2,h3,_⟩
 · have g:=(((p90_err (blk b s.m) hsz [3] e he h2).up up2).up up3).up up4
   rw[rowR,mapOf_err he h2]
   exact ⟨_,_,_,_,g,sel_intro (fun _=>rfl) (fun h=>absurd (by simpa using h) he)⟩
 · have g:=(((p90_ok (blk b s.m) hsz [3] (by decide) k g' y h2).up up2).up up3).up up4
   rw[rowR,mapOf_ok h2]
   by_cases hk:k=3
   · subst hk
     rw[if_pos (by simp)]at g
     refine ⟨_,_,_,_,g,sel_intro (fun h=>by simp at h) (fun _=>sel_dec (fun h => ?_) (fun h => ?_))⟩
     · rw[if_neg (fun hx=>by omega)];rfl
     · refine ⟨_,_,p91 y (by have:=h3.2.2.2.2;omega) s.z,?_⟩
       by_cases hu:(UnpR y s.z).2=0
       · rw[if_pos ⟨rfl,by omega,hu⟩,hu];rfl
       · rw[if_neg (fun hx=>hu hx.2.2),unp_bad hu]
         show AV.tup [_,.n (.bool ((UnpR y s.z).2==0))] = .tup [_,.n (.bool false)]
         rw[beq_false_of_ne hu];rfl
   · rw[if_neg (by simpa using hk)]at g
     rw[if_neg (fun hx=>hk hx.1)]
     exact ⟨_,_,_,_,g,sel_intro (fun _=>rfl) (fun h=>by simp at h)⟩
def pgsTo (b:List ByteArray) (now:List Bool) (n:Nat):List ByteArray:=(List.range n).map fun i=>if tr now i then (b[i]?).getD empS else empS
theorem pgsTo_len (b:List ByteArray) (now:List Bool) (n:Nat):(pgsTo b now n).length=n:=by simp[pgsTo]
theorem pgsTo_succ (b:List ByteArray) (now:List Bool) (n:Nat):pgsTo b now (n+1)=pgsTo b now n++[if tr now n then blk b n else empS]:=by simp[pgsTo,List.range_succ,blk]
theorem wdOf_fits {b:List ByteArray} {s:Su} {now:List Bool} (hb:∀s∈b,s.size≤4096) (hn:now.length≤2048):WFits (wdOf b s now):=by
 refine ⟨by show Small now.length;unfold Small;omega,by show Small now.length;unfold Small;omega,by show Small (pgsOf b now).length;rw[pgsOf_len];unfold Small;omega,fun x hx => ?_⟩
 obtain ⟨i,_,rfl⟩:=List.mem_map.1 hx
 unfold Small
 split
 · cases hy:b[i]? with
   | none=>decide
   | some y=>have:=hb y (List.mem_of_getElem? hy);show (y.size:Int)≤_;omega
 · decide
noncomputable def woodV (b:List ByteArray) (s:Su):Option (List Bool)→AV
 | none => .tup [wdV wd0,.n (.bool false)]
 | some now => .tup [wdV (wdOf b s now),.n (.bool ((ChkR (wdOf b s now) [s.m]).2==0))]
theorem p47 (b:List ByteArray) (p:List Wr) (s:Su) (hb:∀x∈b,x.size≤4096) (h0:0≤s.m) (hm:s.m<b.length) (hz:s.z=b.length) (hg:0≤s.g∧s.g≤1099511627776):Runs Fs4 47 [Dev b p,suV s] [] (woodV b s (rowR b s)) []:=by
 have hsz:((blk b s.m).size:Int)≤9223372036854775807:=by
   have:=hb _ (List.mem_of_getElem? (blk_at h0 hm));omega
 have g:=(((p95 (blk b s.m) hsz).up up2).up up3).up up4
 refine vc_eq fs47 rfl ?_
 rw[Dev,suV,vc47,(V47e _ _ _ _ _ _ _).down]
 refine ⟨rfl,h0,_,bk_blk h0 hm,_,rfl,?_⟩
 rcases getP_cases (blk b s.m) with ⟨e,he,h2⟩|⟨k,g',y,h2,h3,_⟩
 · rw[h2]at g
   rw[rowR,mapOf_err he h2]
   exact ⟨_,_,_,_,g,sel_intro (fun _=>rfl) (fun h=>absurd (by simpa using h) he)⟩
 · rw[h2]at g
   rw[rowR,mapOf_ok h2]
   refine ⟨_,_,_,_,g,sel_intro (fun h=>by simp at h) (fun _=>sel_intro (fun h => ?_) (fun h => ?_))⟩
   · rw[if_neg (fun hx=>by rw[hx.1]at h;simp at h)];rfl
   have hk:k=3:=by simpa using h
   refine sel_dec (fun h=>by rw[if_neg (fun hx=>by omega)];rfl) (fun hgg => ?_)
   refine ⟨_,_,p96 y (by have:=h3.2.2.2.2;omega) s.z,sel_intro (fun h => ?_) (fun h => ?_)⟩
   · rw[if_neg (fun hx=>by rw[hx.2.2]at h;simp at h)];rfl
   have hu:(UnpR y s.z).2=0:=by simpa using h
   rw[if_pos ⟨hk,by omega,hu⟩]
   obtain ⟨hl,hz0,hz1⟩:=unp_len hu
   generalize (UnpR y s.z).1=now at hl ⊢
   rw[i64_in (s.g+1) (by omega),blD_len]
   have hnl:now.length=b.length:=by omega
   refine ⟨fun i x q=>∃n:Nat,i=n∧n≤now.length∧x=(blD now,blD now,n,s.r,s.g+1,())∧q=(n,sl_ (pgsTo b now n)),fun i _ _=>(now.length - i).toNat,⟨rfl,0,rfl,by omega,rfl,rfl⟩,?_⟩
   rintro _ _ _ ⟨n,rfl,hn,rfl,rfl⟩ _
   refine sel_dec (fun hlt => ?_) (fun hge => ?_)
   · have hi:n<now.length:=by omega
     have hbi:(bk b)[(n:Int).toNat]?=some (.str (blk b n)):=bk_blk (by omega) (by omega)
     have e1:IntKind.wrap .i64 ((n:Int)+1)=((n+1:Nat):Int):=by rw[i64_in _ (by omega)];omega
     refine ⟨rfl,by omega,_,blD_at (i:=(n:Int).toNat) (by omega),_,rfl,?_⟩
     have et:now[(n:Int).toNat]=tr now n:=by rw[tr_at hi];rfl
     rw[et,e1]
     refine sel_intro (fun ht => ?_) (fun ht => ?_)
     · refine ⟨rfl,by omega,_,hbi,_,rfl,rfl,.inl rfl,⟨⟨rfl,rfl⟩,rfl⟩,by simp[sl_,pgsTo_len];omega,?_⟩
       repeat (refine And.intro rfl ?_)
       refine ⟨⟨n+1,rfl,hi,rfl,?_⟩,by first|omega|(dsimp only;omega)⟩
       rw[pgsTo_succ,ht,if_pos rfl,←sl_snoc]
     · refine ⟨rfl,.inl rfl,⟨⟨rfl,rfl⟩,rfl⟩,by simp[sl_,pgsTo_len];omega,?_⟩
       repeat (refine And.intro rfl ?_)
       refine ⟨⟨n+1,rfl,hi,rfl,?_⟩,by first|omega|(dsimp only;omega)⟩
       rw[pgsTo_succ,ht,if_neg (by simp),←sl_snoc];rfl
   · obtain rfl:n=now.length:=by omega
     have gc:=p64 (wdOf b s now) (wdOf_fits hb (by omega)) [s.m] (by simp)
     exact ⟨rfl,rfl,_,_,_,_,gc,rfl,rfl⟩
theorem chz_ok {x y:ByteArray} (h:¬(chz x y).2<0):suOK (chz x y).1∧((chz x y).2=0∨(chz x y).2=1):=by
 unfold chz at h ⊢
 split
 · rename_i h1
   refine ⟨?_,.inl rfl⟩
   rcases sget_cases x with h2|h2
   · exact h2.2
   · exact absurd h1.1 h2.1
 · rename_i h1
   rw[if_neg h1]at h
   split
   · rename_i h2
     refine ⟨?_,.inr rfl⟩
     rcases sget_cases y with h3|h3
     · exact h3.2
     · exact absurd h2 h3.1
   · rename_i h2
     rw[if_neg h2]at h
     exact absurd (by decide) h
theorem chz_no {x y:ByteArray} (h:(chz x y).2<0):(chz x y).2 = -1∧(chz x y).1=su0:=by
 unfold chz at h ⊢
 split
 · rename_i h1;rw[if_pos h1]at h;exact absurd (show (0:Int)<0 from h) (by decide)
 · rename_i h1
   rw[if_neg h1]at h
   split
   · rename_i h2;rw[if_pos h2]at h;exact absurd (show (1:Int)<0 from h) (by decide)
   · exact ⟨rfl,rfl⟩
def chzV (c:Su×Int):AV := .tup [.agg [.n (.int .i64 c.1.g),.n (.int .i64 c.1.r),.n (.int .i64 c.1.m),.n (.int .i64 c.1.z)],.n (.int .i64 (chA c.2)),.n (.int .i64 (chE c.2))]
theorem chz_v (x y:ByteArray):chooV (chz x y).1 (chz x y).2=chzV (chz x y):=by
 rw[chooV_eq,chzV]
 by_cases h:(chz x y).2<0
 · obtain ⟨h1,h2⟩:=chz_no h
   rw[h1,h2];rfl
 · rw[chS,if_neg h]
theorem p42z (x y:ByteArray) (hx:(x.size:Int)≤9223372036854775807) (hy:(y.size:Int)≤9223372036854775807):Runs Fs4 42 [.o (.sl 1 (sl_ [x,y]))] [] (chzV (chz x y)) []:=by
 obtain ⟨b,a,h1,h2⟩:=p42 [x,y] ⟨by simp,fun s hs=>by rcases List.mem_cons.1 hs with rfl|hs;exact hx;rw[List.mem_singleton.1 hs];exact hy⟩
 obtain ⟨rfl,rfl⟩:=best_one h1 (chz_best x y)
 rw[chz_v]at h2
 exact ((h2.up up2).up up3).up up4
theorem p46z (x y:ByteArray) (hx:(x.size:Int)≤9223372036854775807) (hy:(y.size:Int)≤9223372036854775807):Runs Fs4 46 [.o (.sl 1 (sl_ [x,y]))] [] (chzV (chz x y)) []:=by
 obtain ⟨b,a,h1,h2⟩:=p46 [x,y] ⟨by simp,fun s hs=>by rcases List.mem_cons.1 hs with rfl|hs;exact hx;rw[List.mem_singleton.1 hs];exact hy⟩
 obtain ⟨rfl,rfl⟩:=best_one h1 (chz_best x y)
 rw[chz_v]at h2
 exact ((h2.up up2).up up3).up up4
def fdo (x:Fnd×Int):AV := .tup [fdV x.1,.n (.int .i64 x.2)]
theorem take_two {b:List ByteArray} (h:24≤b.length):b.take 2=[blk b 0,blk b 1]:=by
 have h1:0<b.length:=by omega
 have h2:1<b.length:=by omega
 match b,h with
 | x :: y :: r,_=>rfl
 | [],h=>simp at h
 | [_],h=>simp at h
theorem p17 (b:List ByteArray) (p:List Wr) (hf:Fits b p):Runs Fs4 17 [Dev b p] [] (fdo (MountR b p)) []:=by
 have g1:=(((p22 b p hf).up up2).up up3).up up4
 rw[Dev]at g1
 refine vc_eq fs17 rfl ?_
 rw[Dev,vc17,(V17e _ _ _).down,bk_len,pk_len]
 refine ⟨_,g1,sel_intro (fun h => ?_) (fun h => ?_)⟩
 · rw[MountR,if_pos (.inl (by simpa using h))];rfl
 have hr:Rt b p=true:=by simpa using h
 refine sel_dec (fun h => ?_) (fun h => ?_)
 · rw[MountR,if_pos (.inr (fun e=>by rw[e]at h;simp at h))];rfl
 have hp:p=[]:=List.length_eq_zero_iff.1 (by omega)
 have c0:¬(Rt b p=false∨p≠[]):=by rw[hr];simp[hp]
 refine sel_dec (fun h => ?_) (fun h24 => ?_)
 · rw[MountR,if_neg c0,if_pos (by omega)];rfl
 have hn:24≤b.length:=by omega
 obtain ⟨t1,⟨t2,t3,t4⟩,t5⟩:=rt_tms hr
 have hb:∀x∈b,x.size≤4096:=fun x hx=>(tm_T (t1 x hx)).2
 have bsz:∀i:Int,((blk b i).size:Int)≤9223372036854775807:=fun i=>by
   unfold blk
   cases hx:b[i.toNat]? with
   | none=>decide
   | some s=>have:=hb s (List.mem_of_getElem? hx);show (s.size:Int)≤_;omega
 have g2:=p46z (blk b 0) (blk b 1) (bsz 0) (bsz 1)
 have e2:List.drop 0 (List.take (Int.toNat 2) (bk b))=sl_ [blk b 0,blk b 1]:=by
   rw[List.drop_zero,bk,←List.map_take,show Int.toNat 2=2 from rfl,take_two hn];rfl
 refine ⟨rfl,by decide,by omega,_,_,_,_,_,_,by rw[e2];exact g2,?_⟩
 rw[MountR,if_neg c0,if_neg (by omega)]
 have hno:=chz_no (x:=blk b 0) (y:=blk b 1)
 have hok:=chz_ok (x:=blk b 0) (y:=blk b 1)
 generalize chz (blk b 0) (blk b 1)=c at hno hok ⊢
 by_cases hc:c.2<0
 · rw[if_pos (.inl hc)]
   refine sel_intro (fun _=>rfl) (fun h => ?_)
   have:chE c.2=0:=by simpa using h
   rw[chE,if_pos hc]at this;cases this
 obtain ⟨hsu,hsl⟩:=hok hc
 have ea:chA c.2=c.2:=by rw[chA,if_neg hc]
 rw[chE,if_neg hc,ea]
 refine sel_intro (fun h=>by simp at h) (fun _=>sel_intro (fun h => ?_) (fun h => ?_))
 · rw[if_pos (.inr (.inl (by simpa using h)))];rfl
 have hz:c.1.z=b.length:=by simpa using h
 refine sel_dec (fun h=>by rw[if_pos (.inr (.inr h))];rfl) (fun hg => ?_)
 rw[if_neg (by omega)]
 have hm:=hsu.2.2.2.2.2
 have g3:=p47 b p c.1 hb (by omega) (by omega) hz (by have:=hsu.1;omega)
 rw[Dev,suV]at g3
 cases hrow:rowR b c.1 with
 | none=>
   rw[hrow]at g3
   exact ⟨_,_,_,_,_,_,g3,sel_intro (fun _=>rfl) (fun h=>by cases h)⟩
 | some now=>
   rw[hrow]at g3
   refine ⟨_,_,_,_,_,_,g3,sel_intro (fun h => ?_) (fun h => ?_)⟩
   · have h:(ChkR (wdOf b c.1 now) [c.1.m]).2≠0:=by simpa using h
     dsimp only
     rw[if_pos h];rfl
   · have h:(ChkR (wdOf b c.1 now) [c.1.m]).2=0:=by simpa using h
     dsimp only
     rw[if_neg (by simpa using h)]
     have g4:=(((p48 c.1.g ((b.take 10).drop 2) ⟨by simp;omega,fun s hs=>by have:=hb s (List.mem_of_mem_take (List.mem_of_mem_drop hs));omega⟩).up up2).up up3).up up4
     have e4:List.drop (Int.toNat 2) (List.take (Int.toNat 10) (bk b))=sl_ ((b.take 10).drop 2):=by
      rw[bk,←List.map_take,←List.map_drop];rfl
     exact ⟨rfl,by decide,by omega,by decide,by decide,_,by rw[e4];exact g4,rfl⟩
theorem pgs_yes {b:List ByteArray} {now:List Bool} {n i:Nat} (h:i<n) (ht:tr now i=true):(pgsTo b now i++List.replicate (n - i) empS).set i (blk b i)=pgsTo b now (i+1)++List.replicate (n - (i+1)) empS:=by
 rw[show n - i=(n - (i+1))+1 by omega,List.replicate_succ,List.set_append_right _ _ (by rw[pgsTo_len];omega),pgsTo_len,Nat.sub_self,List.set_cons_zero,pgsTo_succ,ht,if_pos rfl]
 simp
theorem pgs_no {b:List ByteArray} {now:List Bool} {n i:Nat} (h:i<n) (ht:tr now i=false):pgsTo b now i++List.replicate (n - i) empS=pgsTo b now (i+1)++List.replicate (n - (i+1)) empS:=by
 rw[show n - i=(n - (i+1))+1 by omega,List.replicate_succ,pgsTo_succ,ht,if_neg (by simp)]
 simp
theorem p16 (b:List ByteArray) (p:List Wr) (hf:Fits b p):Runs Fs4 16 [Dev b p] [] (fdo (MountR b p)) []:=by
 have g1:=(((p41 b p hf).up up2).up up3).up up4
 rw[Dev]at g1
 refine vc_eq fs16 rfl ?_
 rw[Dev,vc16,(V16e _ _ _).down,bk_len,pk_len]
 refine ⟨_,g1,sel_intro (fun h => ?_) (fun h => ?_)⟩
 · rw[MountR,if_pos (.inl (by simpa using h))];rfl
 have hr:Rt b p=true:=by simpa using h
 refine sel_dec (fun h => ?_) (fun h => ?_)
 · rw[MountR,if_pos (.inr (fun e=>by rw[e]at h;simp at h))];rfl
 have hp:p=[]:=List.length_eq_zero_iff.1 (by omega)
 have c0:¬(Rt b p=false∨p≠[]):=by rw[hr];simp[hp]
 refine sel_dec (fun h => ?_) (fun h24 => ?_)
 · rw[MountR,if_neg c0,if_pos (by omega)];rfl
 have hn:24≤b.length:=by omega
 obtain ⟨t1,⟨t2,t3,t4⟩,t5⟩:=rt_tms hr
 have hb:∀x∈b,x.size≤4096:=fun x hx=>(tm_T (t1 x hx)).2
 have bsz:∀i:Int,((blk b i).size:Int)≤9223372036854775807:=fun i=>by
   unfold blk
   cases hx:b[i.toNat]? with
   | none=>decide
   | some s=>have:=hb s (List.mem_of_getElem? hx);show (s.size:Int)≤_;omega
 have g2:=p42z (blk b 0) (blk b 1) (bsz 0) (bsz 1)
 refine ⟨rfl,by decide,_,bk_blk (i:=0) (by decide) (by omega),_,rfl,rfl,by decide,_,bk_blk (i:=1) (by decide) (by omega),_,rfl,rfl,_,_,_,_,_,_,g2,?_⟩
 rw[MountR,if_neg c0,if_neg (by omega)]
 have hno:=chz_no (x:=blk b 0) (y:=blk b 1)
 have hok:=chz_ok (x:=blk b 0) (y:=blk b 1)
 generalize chz (blk b 0) (blk b 1)=c at hno hok ⊢
 by_cases hc:c.2<0
 · rw[if_pos (.inl hc)]
   refine sel_intro (fun _=>rfl) (fun h => ?_)
   have:chE c.2=0:=by simpa using h
   rw[chE,if_pos hc]at this;cases this
 obtain ⟨hsu,hsl⟩:=hok hc
 have ea:chA c.2=c.2:=by rw[chA,if_neg hc]
 rw[chE,if_neg hc,ea]
 refine sel_intro (fun h=>by simp at h) (fun _=>sel_intro (fun h => ?_) (fun h => ?_))
 · rw[if_pos (.inr (.inl (by simpa using h)))];rfl
 have hz:c.1.z=b.length:=by simpa using h
 refine sel_dec (fun h=>by rw[if_pos (.inr (.inr h))];rfl) (fun hg => ?_)
 rw[if_neg (by omega)]
 have hm:=hsu.2.2.2.2.2
 have g3:=p43 b p c.1 (fun x hx=>by have:=hb x hx;omega) (by omega) (by omega)
 rw[Dev,suV]at g3
 cases hrow:rowR b c.1 with
 | none=>
   rw[hrow]at g3
   exact ⟨_,_,g3,sel_intro (fun _=>rfl) (fun h=>by cases h)⟩
 | some now=>
   rw[hrow]at g3
   have hlen:=(mapOf_len hrow).1
   have hnl:now.length=b.length:=by omega
   refine ⟨_,_,g3,sel_intro (fun h=>by cases h) (fun _ => ?_)⟩
   rw[hz,Int.toNat_natCast,i64_in (c.1.g+1) (by have:=hsu.1;omega)]
   refine ⟨by omega,by omega,?_⟩
   rw[sl_rep]
   rw[show (some now).getD []=now from rfl,blD_len]
   refine ⟨fun i q=>∃n:Nat,i=n∧n≤now.length∧q=(0,sl_ (pgsTo b now n++List.replicate (now.length - n) empS)),fun i _=>(now.length - i).toNat,⟨rfl,0,rfl,by omega,by rw[hnl];rfl⟩,?_⟩
   rintro _ _ ⟨n,rfl,hnn,rfl⟩ _
   refine sel_dec (fun hlt => ?_) (fun hge => ?_)
   · have hi:n<now.length:=by omega
     have hbi:(bk b)[(n:Int).toNat]?=some (.str (blk b n)):=bk_blk (by omega) (by omega)
     have e1:IntKind.wrap .i64 ((n:Int)+1)=((n+1:Nat):Int):=by rw[i64_in _ (by omega)];omega
     refine ⟨rfl,by omega,_,blD_at (i:=(n:Int).toNat) (by omega),_,rfl,?_⟩
     have et:now[(n:Int).toNat]=tr now n:=by rw[tr_at hi];rfl
     have el:(sl_ (pgsTo b now n++List.replicate (now.length - n) empS)).length=now.length:=by simp[sl_,pgsTo_len];omega
     rw[et,e1]
     refine sel_intro (fun ht => ?_) (fun ht => ?_)
     · refine ⟨rfl,by omega,_,hbi,_,rfl,⟨rfl,rfl⟩,by omega,by dsimp only;omega,⟨⟨⟨rfl,rfl⟩,rfl⟩,rfl⟩,by dsimp only;omega,?_⟩
       repeat (refine And.intro rfl ?_)
       refine ⟨⟨n+1,rfl,hi,?_⟩,by first|omega|(dsimp only;omega)⟩
       dsimp only
       rw[sl_set,Int.toNat_natCast,pgs_yes hi ht]
     · repeat (refine And.intro rfl ?_)
       refine ⟨⟨n+1,rfl,hi,?_⟩,by first|omega|(dsimp only;omega)⟩
       dsimp only
       rw[pgs_no hi ht]
   · obtain rfl:n=now.length:=by omega
     have ep:pgsTo b now now.length++List.replicate (now.length - now.length) empS=pgsOf b now:=by simp;rfl
     rw[ep]
     have gc:=((p44 (wdOf b c.1 now) (wdOf_fits hb (by omega)) [c.1.m] (by simp)).up up3).up up4
     refine ⟨rfl,rfl,_,_,_,_,gc,sel_intro (fun h => ?_) (fun h => ?_)⟩
     · have h:(ChkR (wdOf b c.1 now) [c.1.m]).2≠0:=by simpa using h
       dsimp only
       rw[if_pos h];rfl
     · have h:(ChkR (wdOf b c.1 now) [c.1.m]).2=0:=by simpa using h
       dsimp only
       rw[if_neg (by simpa using h)]
       have g4:=(((p45 c.1.g ((b.take 10).drop 2) ⟨by simp;omega,fun s hs=>by have:=hb s (List.mem_of_mem_take (List.mem_of_mem_drop hs));omega⟩).up up2).up up3).up up4
       have e4:List.drop (Int.toNat 2) (List.take (Int.toNat 10) (bk b))=sl_ ((b.take 10).drop 2):=by
        rw[bk,←List.map_take,←List.map_drop];rfl
       refine ⟨rfl,by decide,by omega,by decide,by decide,_,by rw[e4];exact g4,rfl,?_⟩
       rw[←hz];rfl
end Go.Proofs.YtegndijbpiccgaaGreatDoor.M
