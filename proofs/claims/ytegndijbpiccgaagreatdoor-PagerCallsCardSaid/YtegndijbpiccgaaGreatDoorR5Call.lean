import Derived.Test.YtegndijbpiccgaaGreatDoorR5Read
import Derived.Test.YtegndijbpiccgaaGreatDoorR5Dv
import Derived.Test.YtegndijbpiccgaaGreatDoorMirM
namespace Go.Proofs.YtegndijbpiccgaaGreatDoor.M
set_option linter.unusedVariables false
set_option linter.unusedSimpArgs false
open Go Go.Mir Go.RowKit
set_option linter.unusedVariables false
def CheckE (b:List ByteArray) (p:List Wr) (i:Int):Int:=if Rt b p=false then 1 else if i<0∨(b.length:Int)≤i then 30 else 0
theorem p99 (b:List ByteArray) (p:List Wr) (i:Int) (hf:Fits b p):Runs Fs 99 [Dev b p,.n (.int .i64 i)] [] (.n (.int .i64 (CheckE b p i))) []:=by
 refine vc_eq fs99 rfl ?_
 rw[Dev,vc99,(V99e _ _ _ _).down,bk_len]
 refine ⟨_,p41 b p hf,sel_intro (fun h=>by rw[CheckE,if_pos (by simpa using h)]) (fun h => ?_)⟩
 have h:¬Rt b p=false:=by simpa using h
 refine sel_dec (fun h1=>by rw[CheckE,if_neg h,if_pos (by omega)]) (fun h1 => ?_)
 refine sel_dec (fun h2=>by rw[CheckE,if_neg h,if_pos (by omega)]) (fun h2 => ?_)
 rw[CheckE,if_neg h,if_neg (by omega)]
def prs (p:List Wr):List (Int×ByteArray):=p.map fun w=>(w.1,w.2.1)
end Go.Proofs.YtegndijbpiccgaaGreatDoor.M
namespace Go.Proofs.YtegndijbpiccgaaGreatDoor.M
set_option linter.unusedVariables false
set_option linter.unusedSimpArgs false
open Go Go.Mir
set_option linter.unusedVariables false
theorem take_succ_eq {α:Type} {l:List α} {k:Nat} (h:k<l.length):l.take (k+1)=l.take k++[l[k]]:=by
 rw[List.take_add_one,List.getElem?_eq_getElem h];rfl
def nwW (i:Int) (s:ByteArray):Wr:=(i,TrimS s,())
theorem pk_snoc (p:List Wr) (w:Wr):pk p++[.rcd [.int .i64 w.1,.str w.2.1]]=pk (p++[w]):=by simp[pk]
set_option maxRecDepth 4000 in
theorem p57 (b:List ByteArray) (p:List Wr) (i:Int) (s:ByteArray) (hp:p.length≤2048) (hs:(s.size:Int)≤9223372036854775807):Runs Fs 57 [Dev b p,.n (.int .i64 i),.n (.str s)] [] (Dev b (p++[nwW i s])) []:=by
 refine vc_eq fs57 rfl ?_
 rw[Dev,vc57,(V57e _ _ _ _ _).down,pk_len]
 refine ⟨fun k x r=>0≤k∧k≤p.length∧x.1=bk b∧r.1=x.2.1∧r.2=pk (p.take k.toNat),fun k x r=>(p.length - k).toNat,⟨rfl,by omega,by omega,rfl,rfl,rfl⟩,?_⟩
 rintro k ⟨xb,xv,u⟩ ⟨rv,rl⟩ ⟨hk0,hk1,hx,hv,hr⟩ _
 dsimp only at hx hv hr ⊢
 subst hx hv hr
 refine sel_dec (fun h => ?_) (fun h => ?_)
 · have hk:k.toNat<p.length:=by omega
   refine ⟨rfl,hk0,_,pk_at hk,_,_,rfl,Nat.le_refl _,rfl,.inl rfl,⟨⟨rfl,rfl⟩,rfl⟩,?_,?_⟩
   · rw[pk_len,List.length_take];simp only[List.length_singleton];omega
   repeat (refine And.intro rfl ?_)
   rw[i64_in _ (by omega),pk_snoc,←take_succ_eq hk]
   exact ⟨⟨by omega,by omega,rfl,rfl,by rw[show (k+1).toNat=k.toNat+1 by omega]⟩,by first|omega|(dsimp only;omega)⟩
 · rw[List.take_of_length_le (by omega)]
   refine ⟨_,p103 s hs,rfl,.inl rfl,⟨⟨rfl,rfl⟩,rfl⟩,?_,rfl,?_⟩
   · rw[pk_len];simp only[List.length_singleton];omega
   · have:=pk_snoc p (nwW i s)
     rw[nwW]at this
     dsimp only at this
     rw[this];rfl
theorem clone47 (p:List Wr) (h:p.length≤2048):Runs Fs 100 [.o (.sl 2 (pk p))] [] (.row 10000001 0) [(10000001,.row false false 0 88 2 (pk p))]:=
 clone_runs fs100 _ (by rw[pk_len];omega)
def WriteR (b:List ByteArray) (p:List Wr) (i:Int) (s:ByteArray):AV:=
 if CheckE b p i≠0 then .tup [Dev [] [],.n (.int .i64 (CheckE b p i))] else if 4096<s.size∨2048≤p.length then .tup [Dev [] [],.n (.int .i64 2)] else .tup [Dev b (p++[nwW i s]),.n (.int .i64 0)]
theorem p53 (b:List ByteArray) (p:List Wr) (i:Int) (s:ByteArray) (hf:Fits b p) (hs:(s.size:Int)≤9223372036854775807):Runs Fs 53 [Dev b p,.n (.int .i64 i),.n (.str s)] [] (WriteR b p i s) []:=by
 refine vc_eq fs53 rfl ?_
 rw[Dev,vc53,(V53e _ _ _ _ _).down,pk_len]
 have h45:=p99 b p i hf
 refine ⟨_,h45,sel_intro (fun h=>by rw[WriteR,if_pos (by simpa using h)];rfl) (fun h => ?_)⟩
 have h:¬CheckE b p i≠0:=by simpa using h
 refine sel_dec (fun h1=>by rw[WriteR,if_neg h,if_pos (by omega)];rfl) (fun h1 => ?_)
 refine sel_dec (fun h2=>by rw[WriteR,if_neg h,if_pos (by omega)];rfl) (fun h2 => ?_)
 refine ⟨_,_,clone47 p (by omega),_,p81 s hs,rfl,.inl rfl,⟨⟨rfl,rfl⟩,rfl⟩,?_,rfl,?_⟩
 · rw[pk_len];simp only[List.length_singleton];omega
 · rw[WriteR,if_neg h,if_neg (by omega)]
   have:=pk_snoc p (nwW i s)
   rw[nwW]at this
   dsimp only at this
   rw[this];rfl
def FlushR (b:List ByteArray) (p:List Wr):AV:=if Rt b p then .tup [Dev (CrL (fun _=>255) b p p.length) [],.n (.int .i64 0)] else .tup [Dev [] [],.n (.int .i64 1)]
theorem p54 (b:List ByteArray) (p:List Wr) (hf:Fits b p):Runs Fs 54 [Dev b p] [] (FlushR b p) []:=by
 refine vc_eq fs54 rfl ?_
 rewrite[Dev,vc54,(V54e _ _ _).down]
 refine ⟨_,p41 b p hf,sel_intro (fun h => ?_) (fun h => ?_)⟩
 · rw[FlushR,if_neg (by simpa using h)];rfl
 · have h:Rt b p=true:=by simpa using h
   refine ⟨_,_,p72f b p (ok_of hf h),?_⟩
   rw[FlushR,if_pos h];rfl
theorem mk_all:mk true []=fun _=>255:=funext fun k=>if_pos rfl
theorem tm_T {s:ByteArray} (h:Tm s=true):TrimS s=s∧s.size≤4096:=by
 rw[Tm,Bool.and_eq_true,decide_eq_true_iff,decide_eq_true_iff]at h
 exact ⟨h.2,by omega⟩
end Go.Proofs.YtegndijbpiccgaaGreatDoor.M
