import Derived.Test.YtegndijbpiccgaaGreatDoorR5Read
import Derived.Test.YtegndijbpiccgaaGreatDoorR5Dv
import Derived.Test.YtegndijbpiccgaaGreatDoorMirM
namespace Go.Proofs.YtegndijbpiccgaaGreatDoor.M
set_option linter.unusedVariables false
set_option linter.unusedSimpArgs false
open Go Go.Mir Go.RowKit
set_option linter.unusedVariables false
def CheckE (b:List ByteArray) (p:List Wr) (i:Int):Int:=if Rt b p=false then 1 else if i<0∨(b.length:Int)≤i then 30 else 0
theorem p99 (b:List ByteArray) (p:List Wr) (i:Int) (hf:Fits b p):Runs Fs 99 [Dev b p,.n (.int .i64 i)] [] (.n (.int .i64 (CheckE b p i))) []:=by
 refine vc_eq fs99 rfl ?_
 rw[Dev,vc99,(V99e _ _ _ _).down,bk_len]
 refine ⟨_,p41 b p hf,sel_intro (fun h=>by rw[CheckE,if_pos (by simpa using h)]) (fun h => ?_)⟩
 have h:¬Rt b p=false:=by simpa using h
 refine sel_dec (fun h1=>by rw[CheckE,if_neg h,if_pos (by omega)]) (fun h1 => ?_)
 refine sel_dec (fun h2=>by rw[CheckE,if_neg h,if_pos (by omega)]) (fun h2 => ?_)
 rw[CheckE,if_neg h,if_neg (by omega)]
def TellS (b:List ByteArray) (p:List Wr) (i:Int):ByteArray:=match p.reverse.find? (fun w=>decide (w.1=i)) with
 | some w=>w.2.1
 | none=>(b[i.toNat]?).getD noS
def ReadR (b:List ByteArray) (p:List Wr) (i:Int):AV := .tup [.n (.str (if CheckE b p i=0 then TellS b p i else noS)),.n (.int .i64 (CheckE b p i))]
def prs (p:List Wr):List (Int×ByteArray):=p.map fun w=>(w.1,w.2.1)
theorem comes_take (ps:List (Int×ByteArray)):∀k,k≤ps.length→(comes ps k).map (·.2)=ps.reverse.take k
 | 0,_=>by simp[comes,upB]
 | k+1,h=>by
   have ih:=comes_take ps k (by omega)
   rw[comes,upB_succ,List.map_append,List.take_add_one,←ih]
   congr 1
   rw[List.getElem?_reverse (by omega)]
   simp only[List.map_cons,List.map_nil,wrAt,psAt]
   rw[List.getElem?_eq_getElem (by omega)]
   rfl
theorem tell_no {b:List ByteArray} {p:List Wr} {i:Int} (h:∀x∈comes (prs p) (prs p).length,x.2.1≠i):TellS b p i=(b[i.toNat]?).getD noS:=by
 have hc:=comes_take (prs p) (prs p).length (Nat.le_refl _)
 rw[List.take_of_length_le (by simp)]at hc
 have:p.reverse.find? (fun w=>decide (w.1=i))=none:=by
  rw[List.find?_eq_none]
  intro w hw
  have:(w.1,w.2.1)∈(prs p).reverse:=by rw[prs,←List.map_reverse];exact List.mem_map_of_mem (f:=fun w:Wr=>(w.1,w.2.1)) hw
  rw[←hc]at this
  obtain ⟨x,hx,e⟩:=List.mem_map.1 this
  have:=h x hx
  rw[e]at this
  simpa using this
 rw[TellS,this]
theorem tell_ok {b:List ByteArray} {p:List Wr} {i:Int} {k:Nat} (hk:k≤(prs p).length) (h:okPre i (comes (prs p) k)):TellS b p i=lastS (comes (prs p) k):=by
 obtain ⟨pre,x,e,hn,hx⟩:=h
 have hc:=comes_take (prs p) k hk
 rw[e,List.map_append,prs,←List.map_reverse,←List.map_take]at hc
 rw[e,lastS_snoc]
 -- the writes themselves
 have hsplit:p.reverse=p.reverse.take k++p.reverse.drop k:=(List.take_append_drop k _).symm
 have hl:=congrArg List.length hc
 simp only[List.length_append,List.length_map,List.length_cons,List.length_nil]at hl
 generalize hq:p.reverse.take k=q at *
 obtain ⟨q1,w,rfl⟩:∃q1 w,q=q1++[w]:=by
  rcases List.eq_nil_or_concat q with rfl|⟨q1,w,rfl⟩
  · simp at hl
  · exact ⟨q1,w,by simp⟩
 rw[List.map_append]at hc
 have hc2:=List.append_inj hc (by simp only[List.length_append,List.length_map,List.length_cons,List.length_nil]at hl ⊢;omega)
 have hw:(w.1,w.2.1)=x.2:=by simpa using hc2.2.symm
 have hf:p.reverse.find? (fun w=>decide (w.1=i))=some w:=by
  rw[hsplit,List.append_assoc,List.find?_append,List.find?_append]
  have h1:q1.find? (fun w=>decide (w.1=i))=none:=by
    rw[List.find?_eq_none]
    intro v hv
    have:(v.1,v.2.1)∈List.map (fun w:Wr=>(w.1,w.2.1)) q1:=List.mem_map_of_mem (f:=fun w:Wr=>(w.1,w.2.1)) hv
    rw[←hc2.1]at this
    obtain ⟨y,hy,e'⟩:=List.mem_map.1 this
    have:=hn y hy
    rw[e']at this
    simpa using this
  rw[h1]
  have:w.1=i:=by rw[←hx,←hw]
  simp[this]
 rw[TellS,hf,←hw]
def unbk:List Mir.D→Option (List ByteArray)
 | []=>some []
 | .str s :: r=>(unbk r).map (s :: ·)
 | _ :: _=>none
def unpk:List Mir.D→Option (List Wr)
 | []=>some []
 | .rcd [.int .i64 n,.str s] :: r=>(unpk r).map ((n,s,()) :: ·)
 | _ :: _=>none
theorem unbk_ok:∀ {l:List Mir.D} {b:List ByteArray},unbk l=some b→l=bk b
 | [],b,h=>by simp only[unbk,Option.some.injEq]at h;subst h;rfl
 | x :: r,b,h=>by
   unfold unbk at h
   split at h <;> try (simp at h;done)
   · rename_i e;cases e
   · rename_i s r' e
     cases e
     obtain ⟨b',hb,rfl⟩:=Option.map_eq_some_iff.1 h
     rw[unbk_ok hb];rfl
theorem unpk_ok:∀ {l:List Mir.D} {p:List Wr},unpk l=some p→l=pk p
 | [],b,h=>by simp only[unpk,Option.some.injEq]at h;subst h;rfl
 | x :: r,b,h=>by
   unfold unpk at h
   split at h <;> try (simp at h;done)
   · rename_i e;cases e
   · rename_i n s r' e
     cases e
     obtain ⟨b',hb,rfl⟩:=Option.map_eq_some_iff.1 h
     rw[unpk_ok hb];rfl
theorem unbk_bk:∀b:List ByteArray,unbk (bk b)=some b
 | []=>rfl
 | s :: r=>by
   have:=unbk_bk r
   show (unbk (bk r)).map (s :: ·)=_
   rw[this];rfl
theorem unpk_pk:∀p:List Wr,unpk (pk p)=some p
 | []=>rfl
 | (n,s,()) :: r=>by
   have:=unpk_pk r
   show (unpk (pk r)).map ((n,s,()) :: ·)=_
   rw[this];rfl
def fitB (b:List ByteArray) (p:List Wr):Bool:=decide (b.length≤9223372036854775807)&&decide (p.length≤9223372036854775807)&&b.all (fun s=>decide (s.size≤9223372036854775807))&&p.all (fun w=>decide (w.2.1.size≤9223372036854775807))
theorem fitB_ok {b:List ByteArray} {p:List Wr} (h:fitB b p=true):Fits b p:=by
 simp only[fitB,Bool.and_eq_true,decide_eq_true_eq,List.all_eq_true]at h
 exact ⟨h.1.1.1,h.1.1.2,h.1.2,h.2⟩
theorem fitB_of {b:List ByteArray} {p:List Wr} (h:Fits b p):fitB b p=true:=by
 simp only[fitB,Bool.and_eq_true,decide_eq_true_eq,List.all_eq_true]
 exact ⟨⟨⟨h.bl,h.pl⟩,h.bs⟩,h.ps⟩
def readP:List AV→Heap→Option (AV×Heap)
 | [.agg [.o (.sl 1 l),.o (.sl 2 m)],.n (.int .i64 i)],H=>match unbk l,unpk m with
   | some b,some p=>if fitB b p then some (ReadR b p i,H) else none
   | _,_=>none
 | _,_=>none
theorem read_runs {G:Nat→Option Fun} (hf:G 60=some (.prim none readP)) (b:List ByteArray) (p:List Wr) (i:Int) (h:Fits b p):Runs G 60 [Dev b p,.n (.int .i64 i)] [] (ReadR b p i) []:=by
 refine ⟨1,fun k hk => ?_⟩
 obtain ⟨k,rfl⟩:∃j,k=j+1:=⟨k - 1,by omega⟩
 simp only[run,hf,Dev,readP,unbk_bk,unpk_pk,fitB_of h,if_true]
theorem bk_lies {w:World} {ok:Nat→Prop} {b:List ByteArray} {v:Value} (h:DR w ok (.sl 1 (bk b)) v) {i:Nat} (hi:i<b.length):∃blk off c,v = .slice (some ⟨blk,off,none⟩) b.length c∧blk<w.heap.size∧w.cell? ⟨blk,off+i,none⟩=some (.string b[i]):=by
 generalize hl:bk b=l at h
 cases h with
 | sl0=>rw[←bk_len b,hl]at hi;cases hi
 | sle=>rw[←bk_len b,hl]at hi;cases hi
 | sl _ _ blk off c vs hb hs hc hsz hv hd=>
   subst hl
   refine ⟨blk,off,c,by rw[bk_len],hs,?_⟩
   have h1:=hv i _ 0 (.str b[i]) (bk_at hi) rfl
   have h2:=hd i _ 0 (.str b[i]) (bk_at hi) rfl
   generalize vs i 0=u at h1 h2
   cases h2
   simpa using h1
theorem pk_lies {w:World} {ok:Nat→Prop} {p:List Wr} {v:Value} (h:DR w ok (.sl 2 (pk p)) v):Holds2 w.heap.size w v (prs p):=by
 have e0:(prs p).length=p.length:=by simp[prs]
 generalize hl:pk p=l at h
 have hlen:=pk_len p
 cases h with
 | sl0=>rw[hl]at hlen;simp at hlen;exact ⟨none,0,by rw[e0,←hlen],.inl (List.eq_nil_of_length_eq_zero (by omega))⟩
 | sle _ a c=>rw[hl]at hlen;simp at hlen;exact ⟨some a,c,by rw[e0,←hlen],.inl (List.eq_nil_of_length_eq_zero (by omega))⟩
 | sl _ _ blk off c vs hb hs hc hsz hv hd=>
   subst hl
   refine ⟨some ⟨blk,off,none⟩,c,by rw[e0,hlen],.inr ⟨blk,off,rfl,hs,fun j q hj => ?_⟩⟩
   have hjl:j<p.length:=by rw[←e0];exact (List.getElem?_eq_some_iff.1 hj).1
   have hq:q=(p[j].1,p[j].2.1):=by simpa[prs,hjl] using hj.symm
   subst hq
   have h1:=hv j _ 0 (.int .i64 p[j].1) (pk_at hjl) rfl
   have h2:=hd j _ 0 (.int .i64 p[j].1) (pk_at hjl) rfl
   have h3:=hv j _ 1 (.str p[j].2.1) (pk_at hjl) rfl
   have h4:=hd j _ 1 (.str p[j].2.1) (pk_at hjl) rfl
   generalize vs j 0=u at h1 h2
   generalize vs j 1=u' at h3 h4
   cases h2
   cases h4
   exact ⟨by simpa using h1,by simpa[Nat.add_assoc] using h3⟩
theorem checkE_zero {b:List ByteArray} {p:List Wr} {i:Int} (h:CheckE b p i=0):Rt b p=true∧0≤i∧i<b.length:=by
 unfold CheckE at h
 split at h
 · cases h
 · rename_i h1
   split at h
   · cases h
   · rename_i h2
     exact ⟨by simpa using h1,by omega,by omega⟩
theorem read_fun:FunOK Tryz.prog 60 (.prim none readP):=by
 refine ⟨enters_of Tryz.func60 (by kernel_rfl) rfl,fun args H r H' h => ?_⟩
 unfold readP at h
 split at h <;> try (cases h;done)
 rename_i l m i
 split at h <;> try (cases h;done)
 rename_i b p hb hp
 split at h <;> simp only[Option.some.injEq,Prod.mk.injEq,reduceCtorEq]at h
 rename_i hfit
 obtain ⟨rfl,rfl⟩:=h
 obtain rfl:=unbk_ok hb
 obtain rfl:=unpk_ok hp
 have hf:=fitB_ok hfit
 obtain ⟨s,hs⟩:∃s,(if CheckE b p i=0 then TellS b p i else noS)=s:=⟨_,rfl⟩
 rw[ReadR,hs]
 refine spec_grow (u := .tuple #[.string s,.int .i64 (CheckE b p i)]) (fun w C ow m => .tup _ [.string s,.int .i64 (CheckE b p i)] rfl fun j c v hc hv => ?_) fun w C ow m vs hc => ?_
 · match j with
   | 0=>simp only[List.getElem?_cons_zero,Option.some.injEq]at hc hv;subst hc;subst hv;exact .n _ _ (.str _)
   | 1=>simp only[List.getElem?_cons_succ,List.getElem?_cons_zero,Option.some.injEq]at hc hv;subst hc;subst hv;exact .n _ _ (.int _ _)
   | j+2=>simp at hc
 · obtain ⟨u,v,rfl,hu,hv⟩:=cells_two hc
   obtain ⟨us,hul,hus,rfl⟩:=hu.agg_inv
   obtain ⟨vb,vp,rfl⟩:∃vb vp,us=[vb,vp]:=by
     match us,hul with
     | [a,b],_=>exact ⟨a,b,rfl⟩
   have hvb:=hus 0 _ vb rfl rfl
   have hvp:=hus 1 _ vp rfl rfl
   cases hv with
   | n _ _ hd=>
     cases hd
     cases hvb with
     | o _ _ hdb=>
       cases hvp with
       | o _ _ hdp=>
         have hck:∀W,Below w.heap.size w W→Calls Tryz.prog 99 #[.agg #[vb,vp],.int .i64 i] W fun e W'=>e = .returned (.int .i64 (CheckE b p i))∧Below W.heap.size W W':=fun W hW=>by
           have h1:DR W ((⟨W.heap.size,fun _=>True⟩:Cx).okm (fun _=>False)) (.sl 1 (bk b)) vb:=hdb.mono hW.size fun k _ hk=>⟨⟨.inl trivial,fun h=>h⟩,hW.block k hk⟩
           have h2:DR W ((⟨W.heap.size,fun _=>True⟩:Cx).okm (fun _=>False)) (.sl 2 (pk p)) vp:=hdp.mono hW.size fun k _ hk=>⟨⟨.inl trivial,fun h=>h⟩,hW.block k hk⟩
           have hcells:Cells W ⟨W.heap.size,fun _=>True⟩ (fun _=>False) (fun _ _=>none) [Dev b p,.n (.int .i64 i)] [.agg #[vb,vp],.int .i64 i]:=
             cells_cons (.agg _ [vb,vp] rfl fun j c v hc hv=>by
               match j with
               | 0=>simp only[List.getElem?_cons_zero,Option.some.injEq]at hc hv;subst hc;subst hv;exact .o _ _ h1
               | 1=>simp only[List.getElem?_cons_succ,List.getElem?_cons_zero,Option.some.injEq]at hc hv;subst hc;subst hv;exact .o _ _ h2
               | j+2=>simp at hc) (cells_cons (vr_int _ _) cells_nil)
           refine (calls_of_runs company (p99 b p i hf) hcells).mono fun e W' ⟨u,he,hu,hbl⟩ => ?_
           cases hu with
           | n _ _ hd=>cases hd;exact ⟨he,hbl⟩
         by_cases hc0:CheckE b p i=0
         · obtain ⟨hrt,hi0,hi1⟩:=checkE_zero hc0
           obtain ⟨hbl,hpl,_⟩:=(rt_tms hrt).2.1
           have hin:i.toNat<b.length:=by omega
           obtain ⟨blk,off,c,hvb',hblk,hcell⟩:=bk_lies hdb hin
           rw[hc0]at hck ⊢
           refine (callsIn_wide (n:=9)).1 ?_
           refine (read_ok _ 9 trivial trivial trivial trivial rfl (by omega) vb vp i b[i.toNat] (prs p) w (fun W hW=>callsIn_wide.2 (hck W hW)) (by simp[prs];omega) (pk_lies hdp)
             ⟨blk,off,b.length,c,hvb',hblk,hi0,hi1,hcell⟩).mono ?_
           rintro e W' ⟨⟨s',rfl,h⟩,hbw⟩
           refine ⟨?_,hbw⟩
           rw[←hs,if_pos hc0]
           rcases h with ⟨hno,rfl⟩|⟨k,hk,hok,rfl⟩
           · rw[tell_no hno,List.getElem?_eq_getElem hin];rfl
           · rw[tell_ok hk hok]
         · refine (callsIn_wide (n:=9)).1 ?_
           refine (read_bad _ 9 trivial trivial trivial rfl (by omega) vb vp i (CheckE b p i) w (fun W hW=>callsIn_wide.2 (hck W hW)) hc0).mono ?_
           rintro e W' ⟨rfl,hbw⟩
           rw[←hs,if_neg hc0]
           exact ⟨rfl,hbw⟩
end Go.Proofs.YtegndijbpiccgaaGreatDoor.M
namespace Go.Proofs.YtegndijbpiccgaaGreatDoor.M
set_option linter.unusedVariables false
set_option linter.unusedSimpArgs false
open Go Go.Mir
set_option linter.unusedVariables false
theorem tellS_snoc (b:List ByteArray) (p:List Wr) (w:Wr) (i:Int):TellS b (p++[w]) i=if w.1=i then w.2.1 else TellS b p i:=by
 unfold TellS
 rw[List.reverse_append,List.reverse_singleton,List.singleton_append,List.find?_cons]
 by_cases h:w.1=i
 · rw[decide_eq_true h,if_pos h]
 · rw[decide_eq_false h,if_neg h]
theorem tellS_nil (b:List ByteArray) (i:Int):TellS b [] i=(b[i.toNat]?).getD noS:=rfl
theorem take_succ_eq {α:Type} {l:List α} {k:Nat} (h:k<l.length):l.take (k+1)=l.take k++[l[k]]:=by
 rw[List.take_add_one,List.getElem?_eq_getElem h];rfl
theorem p109 (b:List ByteArray) (p:List Wr) (i:Int) (h0:0≤i) (h1:i<b.length) (hp:p.length≤2048):Runs Fs 109 [Dev b p,.n (.int .i64 i)] [] (.n (.str (TellS b p i))) []:=by
 refine vc_eq fs109 rfl ?_
 rw[Dev,vc109,(V109e _ _ _ _).down,pk_len]
 have hi:i.toNat<b.length:=by omega
 refine ⟨rfl,h0,_,bk_at hi,_,rfl,fun s k=>0≤k∧k≤p.length∧s=TellS b (p.take k.toNat) i,fun s k=>(p.length - k).toNat,⟨rfl,by omega,by omega,?_⟩,?_⟩
 · show b[i.toNat]=TellS b (p.take 0) i
   rw[List.take_zero,tellS_nil,List.getElem?_eq_getElem hi];rfl
 rintro s k ⟨hk0,hk1,rfl⟩ _
 refine sel_dec (fun h => ?_) (fun h => ?_)
 · have hk:k.toNat<p.length:=by omega
   have hs:=tellS_snoc b (p.take k.toNat) p[k.toNat] i
   rw[←take_succ_eq hk]at hs
   refine ⟨rfl,hk0,_,pk_at hk,_,_,rfl,Nat.le_refl _,sel_intro (fun he => ?_) (fun he => ?_)⟩
   · repeat (refine And.intro rfl ?_)
     rw[i64_in _ (by omega)]
     refine ⟨⟨by omega,by omega,?_⟩,by first|omega|(dsimp only;omega)⟩
     rw[show (k+1).toNat=k.toNat+1 by omega,hs,if_pos (by simpa using he)]
   · repeat (refine And.intro rfl ?_)
     rw[i64_in _ (by omega)]
     refine ⟨⟨by omega,by omega,?_⟩,by first|omega|(dsimp only;omega)⟩
     rw[show (k+1).toNat=k.toNat+1 by omega,hs,if_neg (fun e=>by rw[e]at he;simp at he)]
 · rw[List.take_of_length_le (by omega)]
def nwW (i:Int) (s:ByteArray):Wr:=(i,TrimS s,())
theorem pk_snoc (p:List Wr) (w:Wr):pk p++[.rcd [.int .i64 w.1,.str w.2.1]]=pk (p++[w]):=by simp[pk]
set_option maxRecDepth 4000 in
theorem p57 (b:List ByteArray) (p:List Wr) (i:Int) (s:ByteArray) (hp:p.length≤2048) (hs:(s.size:Int)≤9223372036854775807):Runs Fs 57 [Dev b p,.n (.int .i64 i),.n (.str s)] [] (Dev b (p++[nwW i s])) []:=by
 refine vc_eq fs57 rfl ?_
 rw[Dev,vc57,(V57e _ _ _ _ _).down,pk_len]
 refine ⟨fun k x r=>0≤k∧k≤p.length∧x.1=bk b∧r.1=x.2.1∧r.2=pk (p.take k.toNat),fun k x r=>(p.length - k).toNat,⟨rfl,by omega,by omega,rfl,rfl,rfl⟩,?_⟩
 rintro k ⟨xb,xv,u⟩ ⟨rv,rl⟩ ⟨hk0,hk1,hx,hv,hr⟩ _
 dsimp only at hx hv hr ⊢
 subst hx hv hr
 refine sel_dec (fun h => ?_) (fun h => ?_)
 · have hk:k.toNat<p.length:=by omega
   refine ⟨rfl,hk0,_,pk_at hk,_,_,rfl,Nat.le_refl _,rfl,.inl rfl,⟨⟨rfl,rfl⟩,rfl⟩,?_,?_⟩
   · rw[pk_len,List.length_take];simp only[List.length_singleton];omega
   repeat (refine And.intro rfl ?_)
   rw[i64_in _ (by omega),pk_snoc,←take_succ_eq hk]
   exact ⟨⟨by omega,by omega,rfl,rfl,by rw[show (k+1).toNat=k.toNat+1 by omega]⟩,by first|omega|(dsimp only;omega)⟩
 · rw[List.take_of_length_le (by omega)]
   refine ⟨_,p103 s hs,rfl,.inl rfl,⟨⟨rfl,rfl⟩,rfl⟩,?_,rfl,?_⟩
   · rw[pk_len];simp only[List.length_singleton];omega
   · have:=pk_snoc p (nwW i s)
     rw[nwW]at this
     dsimp only at this
     rw[this];rfl
theorem clone47 (p:List Wr) (h:p.length≤2048):Runs Fs 100 [.o (.sl 2 (pk p))] [] (.row 10000001 0) [(10000001,.row false false 0 88 2 (pk p))]:=
 clone_runs fs100 _ (by rw[pk_len];omega)
def WriteR (b:List ByteArray) (p:List Wr) (i:Int) (s:ByteArray):AV:=
 if CheckE b p i≠0 then .tup [Dev [] [],.n (.int .i64 (CheckE b p i))] else if 4096<s.size∨2048≤p.length then .tup [Dev [] [],.n (.int .i64 2)] else .tup [Dev b (p++[nwW i s]),.n (.int .i64 0)]
theorem p53 (b:List ByteArray) (p:List Wr) (i:Int) (s:ByteArray) (hf:Fits b p) (hs:(s.size:Int)≤9223372036854775807):Runs Fs 53 [Dev b p,.n (.int .i64 i),.n (.str s)] [] (WriteR b p i s) []:=by
 refine vc_eq fs53 rfl ?_
 rw[Dev,vc53,(V53e _ _ _ _ _).down,pk_len]
 have h45:=p99 b p i hf
 refine ⟨_,h45,sel_intro (fun h=>by rw[WriteR,if_pos (by simpa using h)];rfl) (fun h => ?_)⟩
 have h:¬CheckE b p i≠0:=by simpa using h
 refine sel_dec (fun h1=>by rw[WriteR,if_neg h,if_pos (by omega)];rfl) (fun h1 => ?_)
 refine sel_dec (fun h2=>by rw[WriteR,if_neg h,if_pos (by omega)];rfl) (fun h2 => ?_)
 refine ⟨_,_,clone47 p (by omega),_,p81 s hs,rfl,.inl rfl,⟨⟨rfl,rfl⟩,rfl⟩,?_,rfl,?_⟩
 · rw[pk_len];simp only[List.length_singleton];omega
 · rw[WriteR,if_neg h,if_neg (by omega)]
   have:=pk_snoc p (nwW i s)
   rw[nwW]at this
   dsimp only at this
   rw[this];rfl
def FlushR (b:List ByteArray) (p:List Wr):AV:=if Rt b p then .tup [Dev (CrL (fun _=>255) b p p.length) [],.n (.int .i64 0)] else .tup [Dev [] [],.n (.int .i64 1)]
theorem p54 (b:List ByteArray) (p:List Wr) (hf:Fits b p):Runs Fs 54 [Dev b p] [] (FlushR b p) []:=by
 refine vc_eq fs54 rfl ?_
 rewrite[Dev,vc54,(V54e _ _ _).down]
 refine ⟨_,p41 b p hf,sel_intro (fun h => ?_) (fun h => ?_)⟩
 · rw[FlushR,if_neg (by simpa using h)];rfl
 · have h:Rt b p=true:=by simpa using h
   refine ⟨_,_,p72f b p (ok_of hf h),?_⟩
   rw[FlushR,if_pos h];rfl
theorem mk_all:mk true []=fun _=>255:=funext fun k=>if_pos rfl
theorem tm_T {s:ByteArray} (h:Tm s=true):TrimS s=s∧s.size≤4096:=by
 rw[Tm,Bool.and_eq_true,decide_eq_true_iff,decide_eq_true_iff]at h
 exact ⟨h.2,by omega⟩
end Go.Proofs.YtegndijbpiccgaaGreatDoor.M
