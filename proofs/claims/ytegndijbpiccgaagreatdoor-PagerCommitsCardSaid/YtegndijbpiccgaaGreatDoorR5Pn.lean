import Derived.Test.YtegndijbpiccgaaGreatDoorR5Pm
import Derived.Test.YtegndijbpiccgaaGreatDoorR5EdZ
import Derived.Test.YtegndijbpiccgaaGreatDoorR5Dv
namespace Go.Proofs.YtegndijbpiccgaaGreatDoor.M
set_option linter.unusedVariables false
set_option linter.unusedSimpArgs false
open Go Go.Mir
set_option linter.unusedVariables false
theorem chkR_ok {w:Wd} {h:Nat} {P:List Pr} {B:List Int} {m:Int} (hr:WRight w) (ht:IsTree w h P B) (hm:10≤m∧m<w.now.length∧m∉B) (hn:nowIs w.now (B++[m])):ChkR w [m]=(((P.length:Int),(h:Int),(B.length:Int)),0):=by
 rw[ChkR,if_neg (by simpa using hr),tree_full ht,if_neg (by simp)]
 dsimp only
 rw[moreUp,if_neg (by rintro (h|h|h);omega;omega;exact hm.2.2 h),moreUp]
 dsimp only
 rw[if_pos hn]
theorem chkR_inv {w:Wd} {m:Int} (h:(ChkR w [m]).2=0):WRight w∧∃h P B,IsTree w h P B∧(10≤m∧m<w.now.length∧m∉B)∧nowIs w.now (B++[m]):=by
 unfold ChkR at h
 split at h
 · cases h
 · rename_i hr
   have hr:WRight w:=by simpa using hr
   split at h
   · cases h
   · rename_i hb
     obtain ⟨k,P,B,ht,he⟩:=tree_sound (w:=w) (by simpa using hb)
     rw[he]at h
     dsimp only at h
     rw[moreUp]at h
     split at h
     · cases h
     · rename_i l hl
       split at hl
       · cases hl
       · rename_i hm
         rw[moreUp]at hl
         obtain rfl:=Option.some.inj hl
         split at h
         · rename_i hn
           exact ⟨hr,k,P,B,ht,⟨by omega,by omega,fun hx=>hm (.inr (.inr hx))⟩,hn⟩
         · cases h
structure Dk (b:List ByteArray) (f:Fnd) (h:Nat) (P:List Pr) (B:List Int):Prop where
 rt:Rt b []=true
 su:suOK f.su
 z:f.su.z=b.length
 sl:f.slot=0∨f.slot=1
 here:blk b f.slot=SuS f.su
 other:(SGet (blk b (1 - f.slot))).2≠0∨(SGet (blk b (1 - f.slot))).1.g<f.su.g
 small:(blk b (1 - f.slot)).size≤512
 wr:WRight f.wd
 len:f.wd.now.length=b.length
 base:f.wd.base=f.wd.now
 gen:f.wd.gen=f.su.g+1
 root:f.wd.root=f.su.r
 tree:IsTree f.wd h P B
 map:f.su.m∉B
 now:nowIs f.wd.now (B++[f.su.m])
 page:∀i:Nat,10≤i→i<b.length→tr f.wd.now i=true→blk f.wd.pages i=blk b i
 mp:∃g,0≤g∧g≤f.su.g∧GetPR (blk b f.su.m) = .tup [pg 3 g (packS f.wd.now),.n (.int .i64 0)]
namespace Dk
set_option linter.unusedVariables false
set_option linter.unusedSimpArgs false
variable {b:List ByteArray} {f:Fnd} {h:Nat} {P:List Pr} {B:List Int}
theorem n24 (d:Dk b f h P B):24≤b.length∧b.length≤2048:=by
 have h1:=d.su.2.2.1;have h2:=d.su.2.2.2.1;have h3:=d.z
 omega
theorem gmax (d:Dk b f h P B):1≤f.su.g∧f.su.g<1099511627776:=by
 have h1:=d.wr.2.2.2.1;have h2:=d.gen;have h3:=d.su.1
 omega
theorem mrg (d:Dk b f h P B):10≤f.su.m∧f.su.m<b.length:=by
 have h1:=d.su.2.2.2.2.2;have h3:=d.z
 omega
theorem choo (d:Dk b f h P B):chz (blk b 0) (blk b 1)=(f.su,f.slot):=by
 have self:=sget_self d.su
 have ho:=d.other
 have hh:=d.here
 rcases d.sl with e|e
 · rw[e]at hh ho ⊢
   rw[show (1:Int) - 0=1 by decide]at ho
   rw[chz,hh,self]
   dsimp only
   rw[if_pos ⟨rfl,ho.imp id Int.le_of_lt⟩]
 · rw[e]at hh ho ⊢
   rw[show (1:Int) - 1=0 by decide]at ho
   rw[chz,hh,self]
   dsimp only
   rw[if_neg,if_pos rfl]
   rintro ⟨h1,h2|h2⟩
   · exact h2 rfl
   · rcases ho with ho|ho
     · exact ho h1
     · omega
def mt (b:List ByteArray) (f:Fnd):Fnd:=⟨f.su,f.slot,wdOf b f.su f.wd.now,scan f.su.g 0 ((b.take 10).drop 2)⟩
theorem tm (d:Dk b f h P B) {s:ByteArray} (hs:s∈b):TrimS s=s∧s.size≤4096:=tm_T ((rt_tms d.rt).1 s hs)
theorem blk_tm (d:Dk b f h P B) {i:Int}:TrimS (blk b i)=blk b i∧(blk b i).size≤4096:=by
 unfold blk
 cases hx:b[i.toNat]? with
 | none=>exact ⟨by decide +kernel,by decide⟩
 | some s=>exact d.tm (List.mem_of_getElem? hx)
theorem pgs_at {now:List Bool} {i:Int} (h0:0≤i) (hi:i<now.length) (ht:tr now i.toNat=true):blk (pgsOf b now) i=blk b i:=by
 have h1:i.toNat<now.length:=by omega
 simp[blk,pgsOf,h1,ht]
theorem wright (d:Dk b f h P B):WRight (wdOf b f.su f.wd.now):=by
 obtain ⟨⟨a1,a2,a3,a4⟩,a5,a6,a7,a8,a9⟩:=d.wr
 refine ⟨⟨rfl,a2,a3,fun j hj=>⟨(a4 j hj).2,(a4 j hj).2⟩⟩,pgsOf_len _ _,?_,?_,?_,fun s hs => ?_⟩
 · show 1≤f.su.g+1;rw[←d.gen];exact a6
 · show f.su.g+1≤_;rw[←d.gen];exact a7
 · show f.su.r=0∨(10≤f.su.r∧f.su.r<(f.wd.now.length:Int));rw[←d.root];exact a8
 · obtain ⟨i,_,rfl⟩:=List.mem_map.1 hs
   split
   · exact (d.blk_tm (i:=i)).2
   · decide
theorem treeM (d:Dk b f h P B):IsTree (wdOf b f.su f.wd.now) h P B:=by
 have hr:=d.wr
 refine isTree_frame d.tree d.root.symm fun x hx r n hh => ?_
 have hrg:=hold_rg (wr_now hr) hh
 have htr:=isTree_tr d.tree x hx
 have hlen:=d.len
 rw[←hh]
 have hp:pgAt (wdOf b f.su f.wd.now) x=pgAt f.wd x:=by
  have h1:pgAt (wdOf b f.su f.wd.now) x=blk b x:=pgs_at (by omega) (by omega) htr
  have h2:=d.page x.toNat (by omega) (by omega) htr
  rw[h1,show ((x.toNat:Nat):Int)=x by omega]at *
  exact h2.symm
 unfold Hold
 rw[hp,show (wdOf b f.su f.wd.now).gen=f.wd.gen from d.gen.symm,show (wdOf b f.su f.wd.now).now=f.wd.now from rfl,show (wdOf b f.su f.wd.now).pages.length=f.wd.pages.length by rw[show (wdOf b f.su f.wd.now).pages=pgsOf b f.wd.now from rfl,pgsOf_len];exact hr.2.1.symm]
theorem mount (d:Dk b f h P B):MountR b []=(mt b f,0):=by
 have n:=d.n24
 have c:=d.choo
 have g:=d.gmax
 have hz:=d.z
 have hs:=d.sl
 obtain ⟨g',g0,g1,hg⟩:=d.mp
 have hrow:rowR b f.su=some f.wd.now:=by
  rw[rowR,mapOf,hg,pg]
  dsimp only
  have hu:UnpR (packS f.wd.now) f.su.z=(f.wd.now,0):=by
   rw[d.z,←d.len];exact unp_pack (by rw[d.len];exact n.2)
  rw[hu,if_pos ⟨rfl,rfl,g1,rfl⟩]
 have hm:=d.mrg
 have hl:=d.len
 rw[MountR,if_neg (by rw[d.rt];simp),if_neg (by omega),c]
 dsimp only
 rw[if_neg (by omega),hrow]
 dsimp only
 rw[chkR_ok d.wright d.treeM ⟨hm.1,by show f.su.m<(f.wd.now.length:Int);omega,d.map⟩ d.now,if_neg (by simp)]
 rfl
theorem frame (d:Dk b f h P B) {b':List ByteArray} (hr:Rt b' []=true) (hl:b'.length=b.length) (h2:blk b' 0=blk b 0∧blk b' 1=blk b 1) (hp:∀i:Nat,10≤i→i<b.length→tr f.wd.now i=true→blk b' i=blk b i):Dk b' f h P B:=by
 have hs:blk b' f.slot=blk b f.slot∧blk b' (1 - f.slot)=blk b (1 - f.slot):=by
  rcases d.sl with e|e <;> rw[e]
  · exact ⟨h2.1,h2.2⟩
  · exact ⟨h2.2,h2.1⟩
 have hm:=d.mrg
 have htm:tr f.wd.now f.su.m.toNat=true:=by
  rw[d.now _ (by rw[d.len];omega),show ((f.su.m.toNat:Nat):Int)=f.su.m by omega];simp
 have em:=hp f.su.m.toNat (by omega) (by omega) htm
 rw[show ((f.su.m.toNat:Nat):Int)=f.su.m by omega]at em
 exact ⟨hr,d.su,by rw[hl];exact d.z,d.sl,by rw[hs.1];exact d.here,by rw[hs.2];exact d.other,by rw[hs.2];exact d.small,d.wr,by rw[hl];exact d.len,d.base,d.gen,d.root,d.tree,d.map,d.now,
  fun i h10 hi ht=>by rw[hl]at hi;rw[hp i h10 hi ht];exact d.page i h10 hi ht,by rw[em];exact d.mp⟩
theorem again (d:Dk b f h P B):Dk b (mt b f) h P B where
 rt:=d.rt
 su:=d.su
 z:=d.z
 sl:=d.sl
 here:=d.here
 other:=d.other
 small:=d.small
 wr:=d.wright
 len:=d.len
 base:=rfl
 gen:=rfl
 root:=rfl
 tree:=d.treeM
 map:=d.map
 now:=d.now
 page i h10 hi ht:=pgs_at (by omega) (by have:=d.len;show (i:Int)<(f.wd.now.length:Int);omega) ht
 mp:=d.mp
end Dk
structure Mk (f:Fnd) (w:Wd) (h:Nat) (P:List Pr) (B:List Int):Prop where
 wr:WRight w
 base:w.base=f.wd.now
 gen:w.gen=f.su.g+1
 nlen:w.now.length=f.wd.now.length
 tree:IsTree w h P B
 map:f.su.m∉B
 now:nowIs w.now (B++[f.su.m])
 page:∀i:Nat,10≤i→tr f.wd.now i=true→blk w.pages i=blk f.wd.pages i
 tidy:∀s∈w.pages,TrimS s=s
theorem nowIs_m {now:List Bool} {B:List Int} {m:Int} (h:nowIs now (B++[m])) (h0:0≤m) (hm:m<now.length):tr now m.toNat=true:=by
 rw[h _ (by omega),show ((m.toNat:Nat):Int)=m by omega];simp
theorem Dk.same {b:List ByteArray} {f:Fnd} {h:Nat} {P:List Pr} {B:List Int} (d:Dk b f h P B) (ht:∀s∈f.wd.pages,TrimS s=s):Mk f f.wd h P B:=
 ⟨d.wr,d.base,d.gen,rfl,d.tree,d.map,d.now,fun _ _ _=>rfl,ht⟩
theorem Dk.fits {b:List ByteArray} {f:Fnd} {h h':Nat} {P P':List Pr} {B B':List Int} (d:Dk b f h P B) {p:List Wr} (hp:Rt b p=true) {w:Wd} (m:Mk f w h' P' B') (g:Fnd) (e1:g.su=f.su) (e2:g.slot=f.slot) (e3:g.wd=w):FitsP b p g:=by
 have hm:=d.mrg
 have hl:=d.len
 have hn:=m.nlen
 rw[←e3]at m
 rw[←e3]at hn
 refine ⟨hp,by rw[e1];exact d.su,m.wr,by rw[e1];exact d.z,by omega,by rw[e2];exact d.sl,by rw[m.gen,e1],?_,?_⟩
 · rw[e1];exact nowIs_m m.now (by omega) (by omega)
 · rw[e1]
   rcases m.tree with ⟨h0,_⟩|⟨_,_,_,ht,_⟩
   · rw[h0];omega
   · intro e
     exact m.map (e▸ht.root_mem)
theorem Dk.chk {b:List ByteArray} {f:Fnd} {h h':Nat} {P P':List Pr} {B B':List Int} (d:Dk b f h P B) {w:Wd} (m:Mk f w h' P' B'):(ChkR w [f.su.m]).2=0:=by
 have hm:=d.mrg
 have hl:=d.len
 have hn:=m.nlen
 rw[chkR_ok m.wr m.tree ⟨hm.1,by omega,m.map⟩ m.now]
end Go.Proofs.YtegndijbpiccgaaGreatDoor.M
namespace Go.Proofs.YtegndijbpiccgaaGreatDoor.M
set_option linter.unusedVariables false
set_option linter.unusedSimpArgs false
open Go Go.Mir
set_option linter.unusedVariables false
def nwc (c:Cl):Wr:=nwW c.1 c.2
def okC (b:List ByteArray) (c:Cl):Prop:=0≤c.1∧c.1<b.length∧c.2.size≤4096
theorem wrs_mem {b:List ByteArray} {p:List Wr} {pages:List ByteArray} {now:List Bool} {block:Nat} {c:Cl}:∀ {n:Nat},c∈wrs b p pages now block n→∃i:Nat,i<n∧c=((i:Int),blk pages i)∧10≤i∧tr now i=true∧i≠block∧blk pages i≠TellS b p i
 | 0,h=>by cases h
 | n+1,h=>by
   rw[wrs]at h
   have ih:c∈wrs b p pages now block n→_:=fun h=>wrs_mem h
   split at h
   · rename_i hc
     rcases List.mem_append.1 h with h|h
     · obtain ⟨i,hi,x⟩:=ih h
       exact ⟨i,by omega,x⟩
     · exact ⟨n,by omega,by simpa using h,hc⟩
   · obtain ⟨i,hi,x⟩:=ih h
     exact ⟨i,by omega,x⟩
theorem wrs_len (b:List ByteArray) (p:List Wr) (pages:List ByteArray) (now:List Bool) (block:Nat):∀n,(wrs b p pages now block n).length≤n
 | 0=>Nat.le_refl _
 | n+1=>by
   have:=wrs_len b p pages now block n
   rw[wrs]
   split
   · simp only[List.length_append,List.length_singleton];omega
   · omega
theorem tellS_app {b:List ByteArray} {p q:List Wr} {i:Int} (h:∀w∈q,w.1≠i):TellS b (p++q) i=TellS b p i:=by
 induction q generalizing p with
 | nil=>rw[List.append_nil]
 | cons w q ih=>
   rw[show p++w :: q=(p++[w])++q by simp,ih (fun x hx=>h x (by simp[hx])),tellS_snoc,if_neg (h w (by simp))]
structure Co (b:List ByteArray) (p:List Wr) (f:Fnd) (w:Wd) (g:Fnd) (block:Nat):Prop where
 rg:10≤block∧block<b.length
 free:tr f.wd.now block=false
 e1:g.su=f.su
 e2:g.slot=f.slot
 e3:g.wd=w
 room:p.length+b.length+1≤2048
theorem blk_set {l:List ByteArray} {i:Nat} {s:ByteArray} (hi:i<l.length) (j:Nat):blk (l.set i s) j=if j=i then s else blk l j:=by
 unfold blk
 rw[Int.toNat_natCast]
 by_cases e:j=i
 · subst e;rw[if_pos rfl,List.getElem?_set_self hi];rfl
 · rw[if_neg e,List.getElem?_set_ne (fun h=>e h.symm)]
theorem blk_mem {l:List ByteArray} {i:Int}:blk l i∈l∨blk l i=empS:=by
 unfold blk
 cases h:l[i.toNat]? with
 | none=>exact .inr rfl
 | some s=>exact .inl (List.mem_of_getElem? h)
theorem Dk.block {b:List ByteArray} {f:Fnd} {h h':Nat} {P P':List Pr} {B B':List Int} (d:Dk b f h P B) {w:Wd} (m:Mk f w h' P' B') (hg:f.su.g+1<1099511627776) {p:List Wr} (hp:p.length+b.length+1≤2048) {g:Fnd} (e1:g.su=f.su) (e2:g.slot=f.slot) (e3:g.wd=w) {block:Nat} (hf:firstFree (gave g.wd g.su.m)=some block):
  Co b p f w g block∧(block:Int)∉B'∧WRight (comW w f.su.m block (mapP w.gen (nowC g block)))∧IsTree (comW w f.su.m block (mapP w.gen (nowC g block))) h' P' B'∧nowIs (nowC g block) (B'++[(block:Int)])∧(nowC g block).length=b.length:=by
 have hm:=d.mrg
 have hl:=d.len
 have hn:=m.nlen
 have hnl:(nowC g block).length=b.length:=by rw[nowC,gave,e3];simp;omega
 have hmx:(mapP w.gen (nowC g block)).size≤4096:=by
  have:=mapP_size (g:=w.gen) (now:=nowC g block) (by have:=m.gen;have:=d.gmax;omega) (by have:=m.gen;omega) (by rw[hnl];exact d.n24.2)
  omega
 rw[e3,e1]at hf
 obtain ⟨c1,c2,c3,c4,c5,c6⟩:=com_ok (s:=mapP w.gen (nowC g block)) m.wr m.tree ⟨hm.1,by omega,m.map⟩ m.now hf (by have:=m.gen;omega) hmx
 have hfree:tr f.wd.now block=false:=by
  have:=(ffUp_some hf).2.1
  unfold freeAt at this
  rw[Bool.and_eq_true]at this
  have h2:=this.1
  rw[show (gave w f.su.m).base=f.wd.now from m.base]at h2
  simpa using h2
 refine ⟨⟨⟨c1,by omega⟩,hfree,e1,e2,e3,hp⟩,c3,c4,c5,?_,hnl⟩
 have:nowC g block=(comW w f.su.m block (mapP w.gen (nowC g block))).now:=by rw[nowC,e3,e1];rfl
 rw[this]
 exact c6
theorem nwc_wm {b:List ByteArray} {c:Cl} (h:okC b c):Wm b.length (nwc c)=true:=by
 obtain ⟨h1,h2,h3⟩:=h
 rw[nwc,nwW,Wm]
 dsimp only
 rw[decide_eq_true h1,decide_eq_true h2,tm_of (by rw[trimS_trimmed];exact trimmed_self) (by have:=trimS_size c.2;omega)]
 rfl
theorem rt_app {b:List ByteArray} {p:List Wr} {l:List Cl} (h:Rt b p=true) (hc:∀x∈l,okC b x) (hl:p.length+l.length≤2048):Rt b (p++l.map nwc)=true:=by
 obtain ⟨h1,h2,h3⟩:=rt_tms h
 refine rt_mk ⟨h2.1,h2.2.1,by simp;exact hl⟩ h1 fun w hw => ?_
 rcases List.mem_append.1 hw with hw|hw
 · exact h3 w hw
 · obtain ⟨c,hc',rfl⟩:=List.mem_map.1 hw
   exact nwc_wm (hc c hc')
theorem suS_trim (s:Su):TrimS (SuS s)=SuS s:=trim_page _ _ _
end Go.Proofs.YtegndijbpiccgaaGreatDoor.M
