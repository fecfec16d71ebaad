import Derived.Test.YtegndijbpiccgaaGreatDoorR5FunB
import Derived.Test.YtegndijbpiccgaaGreatDoorR5L
import Derived.Test.YtegndijbpiccgaaGreatDoorMirO
namespace Go.Proofs.YtegndijbpiccgaaGreatDoor.M
set_option linter.unusedVariables false
set_option linter.unusedSimpArgs false
open Go Go.Mir
set_option linter.unusedVariables false
abbrev Wr:=Int×ByteArray×Unit
def bk (l:List ByteArray):List Mir.D:=l.map .str
def pk (l:List Wr):List Mir.D:=l.map fun p => .rcd [.int .i64 p.1,.str p.2.1]
def Dev (b:List ByteArray) (p:List Wr):AV := .agg [.o (.sl 1 (bk b)),.o (.sl 2 (pk p))]
theorem bk_len (l:List ByteArray):(bk l).length=l.length:=by simp[bk]
theorem pk_len (l:List Wr):(pk l).length=l.length:=by simp[pk]
theorem bk_at {l:List ByteArray} {i:Nat} (h:i<l.length):(bk l)[i]?=some (.str l[i]):=by simp[bk,h]
theorem pk_at {l:List Wr} {i:Nat} (h:i<l.length):(pk l)[i]?=some (.rcd [.int .i64 l[i].1,.str l[i].2.1]):=by simp[pk,h]
def Tm (s:ByteArray):Bool:=decide ((s.size:Int)≤4096)&&decide (TrimS s=s)
theorem p86 (s:ByteArray) (hs:(s.size:Int)≤9223372036854775807):Runs Fs 86 [.n (.str s)] [] (.n (.bool (Tm s))) []:=by
 refine vc_eq fs86 rfl ?_
 rewrite[vc86,(V86e _ _).down]
 refine sel_dec (fun h => ?_) (fun h => ?_)
 · refine ⟨_,p81 s hs,?_⟩
   rw[beq_dec,Tm,decide_eq_true h];rfl
 · rw[Tm,decide_eq_false h];rfl
theorem tz_last (l:List UInt8) (b:UInt8):tz (l++[b])=l++[b] ↔ b≠0:=by
 constructor
 · intro h e
   subst e
   rw[tz_snoc0]at h
   have:=congrArg List.length h
   have h2:=tz_len l
   simp at this
   omega
 · exact tz_snoc l b
theorem trimS_iff (s:ByteArray):TrimS s=s ↔ tz s.data.toList=s.data.toList:=
 ⟨fun h=>by rw[←trimS_data,h],fun h=>bytes_ext (by rw[trimS_data,h])⟩
def Wm (n:Int) (p:Wr):Bool:=decide (0≤p.1)&&(decide (p.1<n)&&Tm p.2.1)
theorem p88 (n:Int) (p:Wr) (hs:(p.2.1.size:Int)≤9223372036854775807):Runs Fs 88 [.agg [.n (.int .i64 p.1),.n (.str p.2.1)],.ptr 4100103 0] [(4100103,.box [.n (.int .i64 n)])] (.n (.bool (!(Wm n p)))) [(4100103,.box [.n (.int .i64 n)])]:=by
 refine vc_look fs88 rfl (by kernel_rfl) ?_
 rewrite[vc88r,(V88re _ _ _ _).down]
 refine sel_dec (fun h => ?_) (fun h => ?_)
 · refine ⟨?_,rfl⟩
   rw[Wm,decide_eq_false (by omega:¬0≤p.1)];rfl
 · refine sel_dec (fun h2 => ?_) (fun h2 => ?_)
   · refine ⟨?_,rfl⟩
     rw[Wm,decide_eq_false (by omega:¬p.1<n),decide_eq_true (by omega:0≤p.1)];rfl
   · refine ⟨_,p86 _ hs,?_,rfl⟩
     rw[Wm,decide_eq_true (by omega:p.1<n),decide_eq_true (by omega:0≤p.1)];rfl
def BadW (n:Int) (l:List Wr):Bool:=l.any fun p => !(Wm n p)
theorem p133 (n:Int) (l:List Wr) (hl:(l.length:Int)≤9223372036854775807) (hs:∀p∈l,(p.2.1.size:Int)≤9223372036854775807):∃r:Int,decide (r≥0)=BadW n l ∧
  Runs Fs 133 [.o (.sl 2 (pk l)),.fn 88 [.ptr 4100103 0]] [(4100103,.box [.n (.int .i64 n)])] (.n (.int .i64 r)) [(4100103,.box [.n (.int .i64 n)])]:=by
 have key:∃r H',Runs Fs 133 [.o (.sl 2 (pk l)),.fn 88 [.ptr 4100103 0]] [(4100103,.box [.n (.int .i64 n)])] r H'∧(H'=[(4100103,.box [.n (.int .i64 n)])]∧∃k:Int,r = .n (.int .i64 k)∧decide (k≥0)=BadW n l):=by
  refine vc_objs (R:=fun r H'=>H'=[(4100103,.box [.n (.int .i64 n)])]∧∃k:Int,r = .n (.int .i64 k)∧decide (k≥0)=BadW n l) fs133 rfl (by kernel_rfl) ?_
  rewrite[vc133r,(V133re _ _ _).down]
  refine ⟨fun i=>0≤i∧i≤l.length∧∀j:Nat,(j:Int)<i→∀h:j<l.length,Wm n l[j]=true,fun i=>(l.length - i).toNat,⟨rfl,by omega,by omega,fun j hj=>by omega⟩,?_⟩
  rintro i ⟨h0,h1,hok⟩ _
  rw[pk_len]
  refine sel_dec (fun h => ?_) (fun h => ?_)
  · have hi:i.toNat<l.length:=by omega
    refine ⟨rfl,h0,_,pk_at hi,_,_,rfl,Nat.le_refl _,_,p88 n l[i.toNat] (hs _ (List.getElem_mem hi)),sel_intro (fun hb => ?_) (fun hb => ?_)⟩
    · refine ⟨rfl,i,rfl,?_⟩
      rw[decide_eq_true (by omega:i≥0)]
      exact (List.any_eq_true.2 ⟨_,List.getElem_mem hi,hb⟩).symm
    · rw[i64_in _ (by omega)]
      refine ⟨rfl,rfl,rfl,rfl,⟨by omega,by omega,fun j hj hjl => ?_⟩,by dsimp only;omega⟩
      by_cases hji:(j:Int)<i
      · exact hok j hji hjl
      · obtain rfl:j=i.toNat:=by omega
        simpa using hb
  · refine ⟨rfl,-1,rfl,?_⟩
    rw[decide_eq_false (by omega)]
    refine (List.any_eq_false.2 fun p hp => ?_).symm
    obtain ⟨j,hj,rfl⟩:=List.getElem_of_mem hp
    rw[hok j (by omega) hj];simp
 obtain ⟨r,H',hr,rfl,k,rfl,hk⟩:=key
 exact ⟨k,hk,hr⟩
theorem p87 (n:Int) (l:List Wr) (hl:(l.length:Int)≤9223372036854775807) (hs:∀p∈l,(p.2.1.size:Int)≤9223372036854775807):
  Runs Fs 87 [.o (.sl 2 (pk l)),.fn 88 [.ptr 4100103 0]] [(4100103,.box [.n (.int .i64 n)])] (.n (.bool (BadW n l))) [(4100103,.box [.n (.int .i64 n)])]:=by
 refine vc_look fs87 rfl (by kernel_rfl) ?_
 rewrite[vc87r,(V87re _ _ _).down]
 obtain ⟨r,hr,h⟩:=p133 n l hl hs
 exact ⟨r,h,by rw[hr],rfl⟩
structure Fits (b:List ByteArray) (p:List Wr):Prop where
 bl:b.length≤9223372036854775807
 pl:p.length≤9223372036854775807
 bs:∀s∈b,s.size≤9223372036854775807
 ps:∀x∈p,x.2.1.size≤9223372036854775807
abbrev devT:Ty := .st [.sl .str,.sl (.st [.int .i64,.str])]
theorem fits_of (x:devT.T) (h:devT.fit x):Fits x.1 x.2.1:=by
 obtain ⟨⟨h1,h2⟩,⟨h3,h4⟩,_⟩:=h
 have e:maxLen=9223372036854775807:=rfl
 refine ⟨e▸h1,e▸h3,fun y hy=>e▸h2 y hy,fun y hy => ?_⟩
 have h5:y.2.1.size≤maxLen:=(h4 y hy).2.1
 exact e▸h5
def Rt (b:List ByteArray) (p:List Wr):Bool:=decide (1≤b.length∧b.length≤2048∧p.length≤2048)&&(b.all Tm&&p.all (Wm b.length))
theorem rt_count {b:List ByteArray} {p:List Wr} (h:¬(1≤b.length∧b.length≤2048∧p.length≤2048)):Rt b p=false:=by
 rw[Rt,decide_eq_false h];rfl
theorem rt_tm {b:List ByteArray} {p:List Wr} {i:Nat} (hi:i<b.length) (h:Tm b[i]=false):Rt b p=false:=by
 rw[Rt]
 have:b.all Tm=false:=List.all_eq_false.2 ⟨_,List.getElem_mem hi,by rw[h];simp⟩
 rw[this,Bool.false_and,Bool.and_false]
theorem rt_good {b:List ByteArray} {p:List Wr} (h:1≤b.length∧b.length≤2048∧p.length≤2048) (hb:∀j,∀h:j<b.length,Tm b[j]=true):Rt b p = !(BadW b.length p):=by
 have:b.all Tm=true:=List.all_eq_true.2 fun x hx=>by obtain ⟨j,hj,rfl⟩:=List.getElem_of_mem hx;exact hb j hj
 rw[Rt,decide_eq_true h,this,Bool.true_and,Bool.true_and,BadW,List.not_any_eq_all_not]
 simp
theorem p41 (b:List ByteArray) (p:List Wr) (hf:Fits b p):Runs Fs 41 [Dev b p] [] (.n (.bool (Rt b p))) []:=by
 refine vc_eq fs41 rfl ?_
 rw[Dev,vc41]
 rw[(V41e _ _ _).down,bk_len,pk_len]
 have hbl:=hf.bl
 have hpl:=hf.pl
 refine sel_dec (fun h=>by rw[rt_count (by omega)]) (fun h => ?_)
 refine sel_dec (fun h2=>by rw[rt_count (by omega)]) (fun h2 => ?_)
 refine sel_dec (fun h3=>by rw[rt_count (by omega)]) (fun h3 => ?_)
 refine ⟨fun i=>0≤i∧i≤b.length∧∀j:Nat,(j:Int)<i→∀h:j<b.length,Tm b[j]=true,fun i=>(b.length - i).toNat,⟨rfl,by omega,by omega,fun j hj=>by omega⟩,?_⟩
 rintro i ⟨h0,h1,hok⟩ _
 refine sel_dec (fun h => ?_) (fun h => ?_)
 · have hi:i.toNat<b.length:=by omega
   refine ⟨rfl,h0,_,bk_at hi,_,rfl,_,p86 _ (by have:=hf.bs _ (List.getElem_mem hi);omega),sel_intro (fun hb => ?_) (fun hb => ?_)⟩
   · rw[rt_tm hi (by simpa using hb)]
   · rw[i64_in _ (by omega)]
     refine ⟨rfl,rfl,rfl,rfl,rfl,⟨by omega,by omega,fun j hj hjl => ?_⟩,by dsimp only;omega⟩
     by_cases hji:(j:Int)<i
     · exact hok j hji hjl
     · obtain rfl:j=i.toNat:=by omega
       simpa using hb
 · refine ⟨_,p87 b.length p (by omega) (fun x hx=>by have:=hf.ps x hx;omega),?_⟩
   rw[rt_good ⟨by omega,by omega,by omega⟩ fun j hj=>hok j (by omega) hj]
def noS:ByteArray:=⟨#[]⟩
def Lk (b:List ByteArray) (p:List Wr) (b':List ByteArray) (p':List Wr):Bool:=decide (b=b')&&decide (p=p')
theorem lk_self (b:List ByteArray) (p:List Wr):Lk b p b p=true:=by simp[Lk]
theorem wr_eq {x y:Wr}:((x.1==y.1)&&((x.2.1.toList==y.2.1.toList)&&true))=decide (x=y):=by
 obtain ⟨x1,x2,_⟩:=x
 obtain ⟨y1,y2,_⟩:=y
 rw[beq_dec]
 rw[Bool.and_true]
 by_cases h1:x1=y1
 · by_cases h2:x2=y2
   · subst h1;subst h2;simp
   · rw[decide_eq_false h2,decide_eq_false (fun e=>h2 (by simpa using congrArg (fun z:Wr=>z.2.1) e)),Bool.and_false]
 · rw[show (x1==y1)=false from beq_eq_false_iff_ne.2 h1,Bool.false_and,decide_eq_false (fun e=>h1 (congrArg (Prod.fst:Wr→Int) e))]
def atL (l:List UInt8) (k:Nat):UInt8:=(l[k]?).getD 0
def row (n:Nat) (f:Nat→UInt8):List UInt8:=(List.range n).map f
theorem row_len (n:Nat) (f:Nat→UInt8):(row n f).length=n:=by simp[row]
theorem row_succ (n:Nat) (f:Nat→UInt8):row (n+1) f=row n f++[f n]:=by simp[row,List.range_succ]
theorem row_at (n:Nat) (f:Nat→UInt8) (k:Nat):atL (row n f) k=if k<n then f k else 0:=by
 unfold atL row
 rw[List.getElem?_map]
 by_cases h:k<n
 · rw[List.getElem?_range h,if_pos h];rfl
 · rw[List.getElem?_eq_none (by simpa using h),if_neg h];rfl
theorem row_congr {n:Nat} {f g:Nat→UInt8} (h:∀k,k<n→f k=g k):row n f=row n g:=by
 unfold row;exact List.map_congr_left fun k hk=>h k (List.mem_range.1 hk)
theorem at_app (l m:List UInt8) (k:Nat):atL (l++m) k=if k<l.length then atL l k else atL m (k - l.length):=by
 unfold atL;rw[List.getElem?_append];split <;> rfl
theorem at_zeros (l:List UInt8) (n k:Nat):atL (l++List.replicate n 0) k=atL l k:=by
 rw[at_app]
 split
 · rfl
 · rename_i h
   have:atL l k=0:=by unfold atL;rw[List.getElem?_eq_none (by omega)];rfl
   rw[this];unfold atL
   rw[List.getElem?_replicate];split <;> rfl
theorem list_row (l:List UInt8) (n:Nat) (h:l.length≤n):l++List.replicate (n - l.length) 0=row n (atL l):=by
 refine List.ext_getElem? fun k => ?_
 unfold row
 rw[List.getElem?_append,List.getElem?_map,List.getElem?_replicate]
 by_cases hk:k<l.length
 · rw[if_pos hk,List.getElem?_range (by omega)]
   simp[atL,hk]
 · rw[if_neg hk]
   by_cases hn:k<n
   · rw[if_pos (by omega),List.getElem?_range hn]
     simp[atL,hk]
   · rw[if_neg (by omega),List.getElem?_eq_none (by simpa using hn)];rfl
theorem tz_row (l:List UInt8) (n:Nat) (h:l.length≤n):tz (row n (atL l))=tz l:=by rw[←list_row l n h,tz_zeros]
theorem tz_at (l:List UInt8) (k:Nat):atL (tz l) k=atL l k:=by
 obtain ⟨n,hn,_⟩:=tz_split l.length l rfl
 conv=>rhs;rw[hn]
 rw[at_zeros]
theorem tz_ext {l m:List UInt8} (h:∀k,atL l k=atL m k):tz l=tz m:=by
 rw[←tz_row l (l.length+m.length) (by omega),←tz_row m (l.length+m.length) (by omega)]
 rw[row_congr fun k _=>h k]
def At (s:ByteArray) (k:Nat):UInt8:=atL s.data.toList k
def trimmed (l:List UInt8):ByteArray:=⟨(tz l).toArray⟩
theorem trimmed_data (l:List UInt8):(trimmed l).data.toList=tz l:=by simp[trimmed]
theorem trimmed_at (l:List UInt8) (k:Nat):At (trimmed l) k=atL l k:=by rw[At,trimmed_data,tz_at]
theorem trimmed_ext {l m:List UInt8} (h:∀k,atL l k=atL m k):trimmed l=trimmed m:=by rw[trimmed,trimmed,tz_ext h]
theorem trimmed_size (l:List UInt8):(trimmed l).size≤l.length:=by
 have:=tz_len l
 rw[←trimmed_data,size_list]at this;exact this
theorem trimS_trimmed (s:ByteArray):TrimS s=trimmed s.data.toList:=bytes_ext (by rw[trimS_data,trimmed_data])
theorem trimS_of (l:List UInt8) (s:ByteArray) (h:s.data.toList=l):TrimS s=trimmed l:=by rw[trimS_trimmed,h]
theorem trimmed_self {l:List UInt8}:TrimS (trimmed l)=trimmed l:=by
 rw[trimS_trimmed,trimmed_data];exact trimmed_ext fun k=>tz_at l k
def bd (l:List UInt8):List Mir.D:=l.map fun b => .int .u8 (b.toNat:Int)
theorem bd_len (l:List UInt8):(bd l).length=l.length:=by simp[bd]
theorem bd_all (l:List UInt8):List.all (bd l) Mir.D.isU8=true:=by simp[bd,Mir.D.isU8]
theorem bd_of (l:List UInt8):List.map Mir.byteOf (bd l)=l:=by
 unfold bd
 rw[List.map_map]
 conv=>rhs;rw[←List.map_id l]
 refine List.map_congr_left fun b _ => ?_
 simp only[Function.comp,Mir.byteOf,id]
 exact UInt8.ofNat_toNat
theorem bd_app (l m:List UInt8):bd l++bd m=bd (l++m):=by simp[bd]
theorem bd_one (b:UInt8):[Mir.D.int .u8 (b.toNat:Int)]=bd [b]:=rfl
theorem bytesD_bd (s:ByteArray):bytesD s=bd s.data.toList:=rfl
theorem of_bd (l:List UInt8):ByteArray.mk (List.toArray (List.map Mir.byteOf (bd l)))=⟨l.toArray⟩:=by rw[bd_of]
def secL (s:ByteArray) (i:Nat):List UInt8:=row 512 fun k=>At s (512*i+k)
def SecS (s:ByteArray) (i:Int):ByteArray:=if 0≤i∧i≤7 then trimmed (secL s i.toNat) else noS
def partL (s:ByteArray) (i:Nat):List UInt8:=(s.data.toList.take (512*(i+1))).drop (512*i)
theorem part_sec (s:ByteArray) (i:Nat):(partL s i).length≤512∧∀k,atL (partL s i) k=atL (secL s i) k:=by
 refine ⟨by simp[partL];omega,fun k => ?_⟩
 rw[secL,row_at]
 unfold partL At atL
 rw[List.getElem?_drop,List.getElem?_take]
 by_cases h:k<512
 · rw[if_pos h,if_pos (by omega)]
 · rw[if_neg h,if_neg (by omega)];rfl
theorem mmF (a b:Int):mmI false a b=min a b:=by
 unfold mmI
 simp only[Bool.false_eq_true,if_false]
 split <;> omega
theorem p186 (s:ByteArray) (i:Int) (h0:0≤i) (h1:i≤7):Runs Fs 186 [.o (.sl 1 (bytesD s)),.n (.int .i64 i)] [] (.n (.str ⟨(partL s i.toNat).toArray⟩)) []:=by
 refine vc_eq fs186 rfl ?_
 rw[vc186,V186]
 rw[i64_in (i+1) (by omega),i64_in ((i+1)*512) (by omega),i64_in (i*512) (by omega)]
 simp only[mmF]
 have hl:(bytesD s).length=s.data.toList.length:=bd_len _
 have e1:List.drop (min (i*512) ((bytesD s).length:Int)).toNat (List.take (min ((i+1)*512) ((bytesD s).length:Int)).toNat (bytesD s))=bd (partL s i.toNat):=by
  rw[hl,bytesD_bd,bd,bd,partL,List.map_drop,List.map_take]
  generalize hL:List.map (fun b:UInt8=>Mir.D.int .u8 (b.toNat:Int)) s.data.toList=L
  have hLl:s.data.toList.length=L.length:=by rw[←hL];simp
  rw[hLl]
  refine List.ext_getElem? fun k => ?_
  rw[List.getElem?_drop,List.getElem?_drop,List.getElem?_take,List.getElem?_take]
  by_cases hk:512*i.toNat+k<512*(i.toNat+1)∧512*i.toNat+k<L.length
  · rw[if_pos (by omega),if_pos (by omega),show (min (i*512) (L.length:Int)).toNat=512*i.toNat by omega]
  · have:∀(a b:Nat) (c:Nat),¬(b<a∧b<L.length)→(if b<a then L[b]? else none)=none:=fun a b c h=>by
     split
     · exact List.getElem?_eq_none (by omega)
     · rfl
    rw[this _ _ 0 (by omega),this _ _ 0 (by omega)]
 rw[e1]
 refine ⟨trivial,by omega,by omega,by omega,by omega,by omega,by omega,.inl trivial,bd_all _,?_⟩
 rw[of_bd]
theorem p155 (s:ByteArray) (i:Int) (hs:(s.size:Int)≤9223372036854775807):Runs Fs 155 [.n (.str s),.n (.int .i64 i)] [] (.n (.str (SecS s i))) []:=by
 refine vc_eq fs155 rfl ?_
 rewrite[vc155,(V155e _ _ _).down]
 refine sel_dec (fun h=>by rw[SecS,if_neg (by omega)];rfl) (fun h => ?_)
 refine sel_dec (fun h2=>by rw[SecS,if_neg (by omega)];rfl) (fun h2 => ?_)
 obtain ⟨hl,hat⟩:=part_sec s i.toNat
 refine ⟨_,p186 s i (by omega) (by omega),_,p81 _ ?_,?_⟩
 · have e:(ByteArray.mk (partL s i.toNat).toArray).size=(partL s i.toNat).length:=by rw[←size_list]
   rw[e];omega
 · rw[SecS,if_pos (by omega)]
   exact congrArg (fun z=>AV.n (Mir.D.str z)) ((trimS_of (partL s i.toNat) _ (by simp)).trans (trimmed_ext hat))
theorem secS_len (s:ByteArray) (i:Int):(SecS s i).size≤512:=by
 unfold SecS;split
 · have:=trimmed_size (secL s i.toNat);rw[secL,row_len]at this;exact this
 · decide
theorem secS_pad (s:ByteArray) (i:Int) (h:0≤i∧i≤7):padB (SecS s i) (512 - (SecS s i).size:Int).toNat=⟨(secL s i.toNat).toArray⟩:=by
 refine bytes_ext ?_
 have hl:=secS_len s i
 rw[padB_data,show (512 - ((SecS s i).size:Int)).toNat=512 - (SecS s i).data.toList.length by rw[size_list];omega,list_row _ _ (by rw[size_list];exact hl)]
 simp only[List.toList_toArray]
 unfold secL
 refine row_congr fun k hk => ?_
 have:=trimmed_at (secL s i.toNat) k
 rw[SecS,if_pos h]
 rw[At]at this
 rw[this,secL,row_at,if_pos hk]
def bt (mask:Int) (i:Nat):Bool:=decide ((mask.fdiv (2 ^ i)) % 2=1)
def mixL (old now:ByteArray) (mask:Int) (n:Nat):List UInt8:=row n fun k=>At (if bt mask (k / 512) then now else old) k
def MixS (old now:ByteArray) (mask:Int):ByteArray:=trimmed (mixL old now mask 4096)
theorem and_bit (x:Int):((IntKind.i64.wrap (((BitVec.ofInt 64 x) &&& (BitVec.ofInt 64 1)).toNat:Int))==1)=decide (x % 2=1):=by
 have h:((BitVec.ofInt 64 x) &&& (BitVec.ofInt 64 1)).toNat=(x % 2).toNat:=by
  rw[BitVec.toNat_and,show (BitVec.ofInt 64 1).toNat=1 from rfl,Nat.and_one_is_mod,BitVec.toNat_ofInt]
  have:((2 ^ 64:Nat):Int)=18446744073709551616:=by decide
  rw[this]
  omega
 rw[h]
 have h2:x % 2=0∨x % 2=1:=by omega
 rcases h2 with h2|h2 <;> rw[h2] <;> rfl
theorem mix_sec (old now:ByteArray) (mask:Int) (i:Nat):mixL old now mask (512*i)++secL (if bt mask i then now else old) i=mixL old now mask (512*(i+1)):=by
 refine List.ext_getElem? fun k => ?_
 have g:∀(n:Nat) (f:Nat→UInt8) (k:Nat),(row n f)[k]?=if k<n then some (f k) else none:=fun n f k=>by
   unfold row;rw[List.getElem?_map]
   by_cases h:k<n
   · rw[List.getElem?_range h,if_pos h];rfl
   · rw[List.getElem?_eq_none (by simpa using h),if_neg h];rfl
 unfold mixL secL
 rw[List.getElem?_append,row_len,g,g,g]
 by_cases h1:k<512*i
 · rw[if_pos h1,if_pos h1,if_pos (by omega:k<512*(i+1))]
 · rw[if_neg h1]
   by_cases h2:k<512*(i+1)
   · rw[if_pos (by omega),if_pos h2,show k / 512=i by omega,show 512*i+(k - 512*i)=k by omega]
   · rw[if_neg (by omega),if_neg h2]
theorem pad_sec (s:ByteArray) (i:Int) (h:0≤i∧i≤7):Runs Fs 156 [.n (.str (SecS s i)),.n (.int .i64 512)] [] (.tup [.n (.str ⟨(secL s i.toNat).toArray⟩),.n (.int .i64 0)]) []:=by
 have hl:=secS_len s i
 have:=p156 (SecS s i) 512 (by omega)
 rwa [padR_good (by omega) (by omega),secS_pad s i h]at this
theorem secL_bytes (s:ByteArray) (i:Nat):bytesD ⟨(secL s i).toArray⟩=bd (secL s i):=by rw[bytesD_bd]
theorem sec_size (s:ByteArray) (i:Nat):(ByteArray.mk (secL s i).toArray).size=512:=by rw[←size_list];simp[secL,row_len]
theorem mixL_len (old now:ByteArray) (mask:Int) (n:Nat):(mixL old now mask n).length=n:=row_len _ _
theorem p120 (old now:ByteArray) (mask:Int) (ho:(old.size:Int)≤9223372036854775807) (hn:(now.size:Int)≤9223372036854775807):
   Runs Fs 120 [.n (.str old),.n (.str now),.n (.int .i64 mask)] [] (.n (.str (MixS old now mask))) []:=by
 refine vc_eq fs120 rfl ?_
 rewrite[vc120,(V120e _ _ _ _).down]
 refine ⟨fun v i r=>v=r.1∧0≤i∧i≤8∧r.2=bd (mixL old now mask (512*i.toNat)),fun v i r=>(8 - i).toNat,⟨rfl,rfl,by omega,by omega,rfl⟩,?_⟩
 rintro v i ⟨ver,els⟩ ⟨rfl,h0,h1,hels⟩ _
 dsimp only at hels
 subst hels
 refine sel_dec (fun h3 => ?_) (fun h3 => ?_)
 · refine ⟨_,p155 old i ho,h0,?_⟩
   have hmin:Min.min (Int.toNat i) (IntKind.bits .i64)=i.toNat:=by
     show Min.min (Int.toNat i) 64=i.toNat
     omega
   rw[hmin,show IntKind.bits .i64=64 from rfl,and_bit,show decide (Int.fdiv mask (2 ^ i.toNat) % 2=1)=bt mask i.toNat from rfl]
   have hm:=mix_sec old now mask i.toNat
   have tail:∀(t:ByteArray),(if bt mask i.toNat then now else old)=t→(512*i.toNat+512≤140737488355328)∧bd (mixL old now mask (512*i.toNat))++bytesD ⟨(secL t i.toNat).toArray⟩=bd (mixL old now mask (512*(i+1).toNat)):=fun t ht=>by
     refine ⟨by omega,?_⟩
     rw[secL_bytes,bd_app,←ht,hm,show (i+1).toNat=i.toNat+1 by omega]
   refine sel_intro (fun hb => ?_) (fun hb => ?_)
   · obtain ⟨t1,t2⟩:=tail now (by rw[hb];rfl)
     refine ⟨_,p155 now i hn,_,_,pad_sec now i ⟨by omega,by omega⟩,⟨⟨rfl,rfl⟩,rfl⟩,?_,rfl,rfl,rfl,rfl,?_,?_⟩
     · rw[bd_len,mixL_len,sec_size];exact t1
     · rw[i64_in (i+1) (by omega)]
       exact ⟨rfl,by omega,by omega,t2⟩
     · rw[i64_in (i+1) (by omega)];dsimp only;omega
   · obtain ⟨t1,t2⟩:=tail old (by rw[hb];rfl)
     refine ⟨_,_,pad_sec old i ⟨by omega,by omega⟩,⟨⟨rfl,rfl⟩,rfl⟩,?_,rfl,rfl,rfl,rfl,?_,?_⟩
     · rw[bd_len,mixL_len,sec_size];exact t1
     · rw[i64_in (i+1) (by omega)]
       exact ⟨rfl,by omega,by omega,t2⟩
     · rw[i64_in (i+1) (by omega)];dsimp only;omega
 · have e8:512*i.toNat=4096:=by omega
   have em:MixS old now mask=trimmed (mixL old now mask (512*i.toNat)):=by rw[e8,MixS]
   refine ⟨rfl,.inl rfl,bd_all _,_,p81 _ ?_,?_⟩
   · have e:(ByteArray.mk (mixL old now mask (512*i.toNat)).toArray).size=(mixL old now mask (512*i.toNat)).length:=by rw[←size_list]
     rw[of_bd,e,mixL_len];omega
   · rw[of_bd,em]
     exact congrArg (fun z=>AV.n (Mir.D.str z)) (trimS_of (mixL old now mask (512*i.toNat)) _ (by simp))
theorem tmod_bit (x:Int):((x.tmod 2) != 0)=decide (x % 2=1):=by
 have:x.tmod 2=0 ↔ x % 2=0:=by
   rw[←Int.dvd_iff_tmod_eq_zero,←Int.dvd_iff_emod_eq_zero]
 have h2:x % 2=0∨x % 2=1:=by omega
 rcases h2 with h2|h2
 · rw[this.2 h2,h2];rfl
 · rw[h2,show (x.tmod 2 != 0)=true from bne_iff_ne.2 fun e=>by have:=this.1 e;omega];rfl
theorem mix_size (old now:ByteArray) (mask:Int):(MixS old now mask).size≤4096:=by
 have:=trimmed_size (mixL old now mask 4096)
 rw[mixL_len]at this;exact this
theorem mix_trim (old now:ByteArray) (mask:Int):TrimS (MixS old now mask)=MixS old now mask:=trimmed_self
def ml (ms:List Int):List Mir.D:=ms.map (.int .i64)
theorem ml_len (ms:List Int):(ml ms).length=ms.length:=by simp[ml]
theorem ml_at {ms:List Int} {i:Nat} (h:i<ms.length):(ml ms)[i]?=some (.int .i64 ms[i]):=by simp[ml,h]
def mk (all:Bool) (ms:List Int) (k:Nat):Int:=if all then 255 else (ms[k]?).getD 0
def CrL (f:Nat→Int) (b:List ByteArray) (p:List Wr):Nat→List ByteArray
 | 0=>b
 | i+1=>match p[i]? with
   | some w=>(CrL f b p i).set w.1.toNat (MixS (((CrL f b p i)[w.1.toNat]?).getD noS) w.2.1 (f i))
   | none=>CrL f b p i
theorem crL_len (f:Nat→Int) (b:List ByteArray) (p:List Wr):∀i,(CrL f b p i).length=b.length
 | 0=>rfl
 | i+1=>by
   rw[CrL]
   split
   · rw[List.length_set,crL_len]
   · exact crL_len f b p i
theorem crL_succ (f:Nat→Int) (b:List ByteArray) (p:List Wr) (i:Nat) (h:i<p.length) (hb:p[i].1.toNat<b.length):
  CrL f b p (i+1)=(CrL f b p i).set p[i].1.toNat (MixS ((CrL f b p i)[p[i].1.toNat]'(by rw[crL_len];exact hb)) p[i].2.1 (f i)):=by
 rw[CrL,List.getElem?_eq_getElem h]
 simp only
 rw[List.getElem?_eq_getElem (by rw[crL_len];exact hb)]
 rfl
theorem bk_set (l:List ByteArray) (i:Nat) (s:ByteArray):(bk l).set i (.str s)=bk (l.set i s):=by simp[bk,List.map_set]
theorem bk_snoc (l:List ByteArray) (s:ByteArray):bk l++[.str s]=bk (l++[s]):=by simp[bk]
theorem crL_all (P:ByteArray→Prop) (hm:∀a b m,P (MixS a b m)) (f:Nat→Int) (b:List ByteArray) (p:List Wr) (h:∀s∈b,P s):∀i,∀s∈CrL f b p i,P s
 | 0=>h
 | i+1=>by
   intro s hs
   rw[CrL]at hs
   split at hs
   · rcases List.mem_or_eq_of_mem_set hs with hs|rfl
     · exact crL_all P hm f b p h i s hs
     · exact hm _ _ _
   · exact crL_all P hm f b p h i s hs
structure Ok (b:List ByteArray) (p:List Wr):Prop where
 bl:b.length≤2048
 pl:p.length≤2048
 bs:∀s∈b,(s.size:Int)≤9223372036854775807
 ps:∀w∈p,(w.2.1.size:Int)≤9223372036854775807
 pb:∀w∈p,0≤w.1∧w.1<b.length
theorem ok_of {b:List ByteArray} {p:List Wr} (hf:Fits b p) (h:Rt b p=true):Ok b p:=by
 rw[Rt,Bool.and_eq_true,decide_eq_true_iff,Bool.and_eq_true]at h
 obtain ⟨⟨h1,h2,h3⟩,h4,h5⟩:=h
 refine ⟨h2,h3,fun s hs=>by have:=hf.bs s hs;omega,fun w hw=>by have:=hf.ps w hw;omega,fun w hw => ?_⟩
 have:=List.all_eq_true.1 h5 w hw
 rw[Wm,Bool.and_eq_true,Bool.and_eq_true,decide_eq_true_iff,decide_eq_true_iff]at this
 omega
theorem mix_le (a b:ByteArray) (m:Int):((MixS a b m).size:Int)≤9223372036854775807:=by
 have:=mix_size a b m;omega
theorem crL_bs {b:List ByteArray} {p:List Wr} (h:Ok b p) (f:Nat→Int) (i:Nat):∀s∈CrL f b p i,(s.size:Int)≤9223372036854775807:=
 crL_all (fun s=>(s.size:Int)≤9223372036854775807) mix_le f b p h.bs i
theorem clone60 (b:List ByteArray) (h:b.length≤2048):Runs Fs 119 [.o (.sl 1 (bk b))] [] (.row 11900001 0) [(11900001,.row false false 0 9 1 (bk b))]:=
 clone_runs fs119 _ (by rw[bk_len];omega)
theorem tm_of {s:ByteArray} (h1:TrimS s=s) (h2:(s.size:Int)≤4096):Tm s=true:=by rw[Tm,decide_eq_true h1,decide_eq_true h2];rfl
theorem tm_mix (a b:ByteArray) (m:Int):Tm (MixS a b m)=true:=tm_of (mix_trim a b m) (by have:=mix_size a b m;omega)
theorem rt_tms {b:List ByteArray} {p:List Wr} (h:Rt b p=true):(∀s∈b,Tm s=true)∧(1≤b.length∧b.length≤2048∧p.length≤2048)∧∀w∈p,Wm b.length w=true:=by
 rw[Rt,Bool.and_eq_true,decide_eq_true_iff,Bool.and_eq_true]at h
 exact ⟨fun s hs=>List.all_eq_true.1 h.2.1 s hs,h.1,fun w hw=>List.all_eq_true.1 h.2.2 w hw⟩
theorem rt_mk {b:List ByteArray} {p:List Wr} (h:1≤b.length∧b.length≤2048∧p.length≤2048) (hb:∀s∈b,Tm s=true) (hp:∀w∈p,Wm b.length w=true):Rt b p=true:=by
 rw[Rt,decide_eq_true h,List.all_eq_true.2 hb,List.all_eq_true.2 hp];rfl
theorem rt_cr {b:List ByteArray} {p:List Wr} (h:Rt b p=true) (f:Nat→Int) (i:Nat):Rt (CrL f b p i) []=true:=by
 obtain ⟨h1,h2,h3⟩:=rt_tms h
 exact rt_mk (by rw[crL_len];exact ⟨h2.1,h2.2.1,by simp⟩) (crL_all (fun s=>Tm s=true) tm_mix f b p h1 i) (fun w hw=>by cases hw)
def RecB (no:Int) (body:ByteArray):ByteArray:=cat [strOf (be no 1),body]
def rGet (p:AV) (gen:Int):Int×ByteArray×Int:=
 match p with
 | .tup [.agg [.n (.int _ k),.n (.int _ g),.n (.str b)],.n (.int _ e)]=>
   if e≠0 then (0,empS,e) else if k≠5 then (0,empS,40) else if g≠gen∨b.size<1∨481<b.size∨7<num (piece b 0 1) then (0,empS,4) else (num (piece b 0 1),b.extract 1 b.size,0)
 | _=>(0,empS,0)
def tri (x:Int×ByteArray×Int):AV := .tup [.n (.int .i64 x.1),.n (.str x.2.1),.n (.int .i64 x.2.2)]
def RGet (s:ByteArray) (gen:Int):Int×ByteArray×Int:=rGet (GetPR s) gen
theorem rGet_err {e:Int} (he:e≠0) (gen:Int):rGet (pErr e) gen=(0,empS,e):=by
 simp only[rGet,pErr,pg,if_pos he]
theorem rGet_ok (k g:Int) (b:ByteArray) (gen:Int):rGet (.tup [pg k g b,.n (.int .i64 0)]) gen=if k≠5 then (0,empS,40) else if g≠gen∨b.size<1∨481<b.size∨7<num (piece b 0 1) then (0,empS,4) else (num (piece b 0 1),b.extract 1 b.size,0):=by
 simp only[rGet,pg];rw[if_neg (by simp)]
theorem getR_first {b:ByteArray} (h:1≤b.size):GetR b 0 1 = .tup [.n (.int .i64 (num (piece b 0 1))),.n (.int .i64 1),.n (.int .i64 0)]:=getR_good (by omega) (by omega)
theorem p93 (s:ByteArray) (hs:(s.size:Int)≤9223372036854775807) (gen:Int):Runs Fs 93 [.n (.str s),.n (.int .i64 gen)] [] (tri (RGet s gen)) []:=by
 refine vc_eq fs93 rfl ?_
 rewrite[vc93,(V93e _ _ _).down]
 rw[RGet]
 rcases getP_cases s with ⟨e,he,h⟩|⟨k,g,b,h,hok,_⟩
 · have g:=p90_err s hs [5] e he h
   rw[h,rGet_err he]
   refine ⟨rfl,_,_,_,_,g,sel_intro (fun _=>rfl) (fun h=>absurd (by simpa using h) he)⟩
 · have h53:=p90_ok s hs [5] (by simp) k g b h
   rw[h,rGet_ok]
   by_cases hk:k=5
   · rw[if_pos (by simp[hk])]at h53
     rw[if_neg (by simp[hk])]
     refine ⟨rfl,_,_,_,_,h53,sel_intro (fun h=>by cases h) (fun _ => ?_)⟩
     obtain ⟨_,_,_,_,hb⟩:=hok
     have h54:=p134 b (by omega) 0 1
     by_cases h1:b.size<1
     · rw[getR_short (by omega) (by omega)]at h54
       rw[if_pos (.inr (.inl h1))]
       exact ⟨_,_,_,h54,sel_intro (fun _=>rfl) (fun h=>by cases h)⟩
     · rw[getR_first (by omega)]at h54
       refine ⟨_,_,_,h54,sel_intro (fun h=>by cases h) (fun _ => ?_)⟩
       refine sel_intro (fun hg=>by rw[if_pos (.inl (by simpa using hg))];rfl) (fun hg => ?_)
       rw[i64_in _ (by omega)]
       refine sel_dec (fun hz=>by rw[if_pos (.inr (.inr (.inl (by omega))))];rfl) (fun hz => ?_)
       refine sel_dec (fun hn=>by rw[if_pos (.inr (.inr (.inr (by omega))))];rfl) (fun hn => ?_)
       have hg:g=gen:=by simpa using hg
       rw[if_neg (by omega)]
       exact ⟨by omega,by omega,rfl⟩
   · rw[if_neg (by simp[hk])]at h53
     rw[if_pos hk]
     exact ⟨rfl,_,_,_,_,h53,sel_intro (fun _=>rfl) (fun h=>by cases h)⟩
theorem p55 (s:ByteArray) (hs:(s.size:Int)≤9223372036854775807):Runs Fs 55 [.n (.str s)] [] (.n (.bool (Tm s))) []:=by
 refine vc_eq fs55 rfl ?_
 rewrite[vc55,(V55e _ _).down]
 refine sel_dec (fun h => ?_) (fun h => ?_)
 · refine sel_intro (fun h0 => ?_) (fun h0 => ?_)
   · have h0:s.size=0:=by have:=beq_iff_eq.1 h0;omega
     have:s.data.toList=[]:=List.length_eq_zero_iff.1 (by rw[size_list];exact h0)
     rw[Tm,decide_eq_true h,decide_eq_true ((trimS_iff s).2 (by rw[this,tz_nil]))];rfl
   · have h0:s.size≠0:=fun e=>by rw[e]at h0;simp at h0
     rw[i64_in _ (by omega)]
     have hlt:((s.size:Int) - 1).toNat<s.data.toList.length:=by rw[size_list];omega
     refine ⟨by omega,_,List.getElem?_eq_getElem hlt,?_⟩
     rw[Tm,decide_eq_true h,Bool.true_and]
     congr 2
     rw[Bool.eq_iff_iff,decide_eq_true_iff,bne_iff_ne,trimS_iff]
     have hsp:∃r,s.data.toList=r++[s.data.toList[((s.size:Int) - 1).toNat]]:=by
       have:=List.take_add_one (l:=s.data.toList) (i:=((s.size:Int) - 1).toNat)
       rw[List.getElem?_eq_getElem hlt,List.take_of_length_le (by rw[size_list];omega)]at this
       exact ⟨_,this⟩
     obtain ⟨r,hsp⟩:=hsp
     generalize s.data.toList[((s.size:Int) - 1).toNat]=b at hsp ⊢
     rw[hsp,tz_last]
     constructor
     · intro h e;subst e;exact h rfl
     · intro h e
       refine h (UInt8.toNat_inj.1 ?_)
       have:(0:UInt8).toNat=0:=rfl
       omega
 · rw[Tm,decide_eq_false h];rfl
theorem p22 (b:List ByteArray) (p:List Wr) (hf:Fits b p):Runs Fs 22 [Dev b p] [] (.n (.bool (Rt b p))) []:=by
 refine vc_eq fs22 rfl ?_
 rw[Dev,vc22]
 rw[(V22e _ _ _).down,bk_len,pk_len]
 have hbl:=hf.bl
 have hpl:=hf.pl
 refine sel_dec (fun h=>by rw[rt_count (by omega)]) (fun h => ?_)
 refine sel_dec (fun h2=>by rw[rt_count (by omega)]) (fun h2 => ?_)
 refine sel_dec (fun h3=>by rw[rt_count (by omega)]) (fun h3 => ?_)
 refine ⟨fun i=>0≤i∧i≤b.length∧∀j:Nat,(j:Int)<i→∀h:j<b.length,Tm b[j]=true,fun i=>(b.length - i).toNat,⟨rfl,by omega,by omega,fun j hj=>by omega⟩,?_⟩
 rintro i ⟨h0,h1,hok⟩ _
 refine sel_dec (fun h => ?_) (fun h => ?_)
 · have hi:i.toNat<b.length:=by omega
   refine ⟨rfl,h0,_,bk_at hi,_,rfl,_,p55 _ (by have:=hf.bs _ (List.getElem_mem hi);omega),sel_intro (fun hb => ?_) (fun hb => ?_)⟩
   · rw[rt_tm hi (by simpa using hb)]
   · rw[i64_in _ (by omega)]
     refine ⟨rfl,rfl,rfl,rfl,rfl,⟨by omega,by omega,fun j hj hjl => ?_⟩,by dsimp only;omega⟩
     by_cases hji:(j:Int)<i
     · exact hok j hji hjl
     · obtain rfl:j=i.toNat:=by omega
       simpa using hb
 · have hgood:=rt_good (b:=b) (p:=p) ⟨by omega,by omega,by omega⟩ fun j hj=>hok j (by omega) hj
   refine ⟨fun i=>0≤i∧i≤p.length∧∀j:Nat,(j:Int)<i→∀h:j<p.length,Wm b.length p[j]=true,fun i=>(p.length - i).toNat,⟨rfl,by omega,by omega,fun j hj=>by omega⟩,?_⟩
   rintro i ⟨h0,h1,hok⟩ _
   refine sel_dec (fun h => ?_) (fun h => ?_)
   · have hi:i.toNat<p.length:=by omega
     have bad:Wm b.length p[i.toNat]=false→Rt b p=false:=fun hb=>by
       rw[hgood,BadW]
       have:(p.any fun x => !(Wm b.length x))=true:=List.any_eq_true.2 ⟨_,List.getElem_mem hi,by rw[hb];rfl⟩
       rw[this];rfl
     refine ⟨rfl,h0,_,pk_at hi,_,_,rfl,Nat.le_refl _,?_⟩
     refine sel_dec (fun h => ?_) (fun h => ?_)
     · rw[bad (by rw[Wm,decide_eq_false (by omega)];rfl)]
     refine sel_dec (fun h2 => ?_) (fun h2 => ?_)
     · rw[bad (by rw[Wm,decide_eq_false (by omega:¬p[i.toNat].1<(b.length:Int)),Bool.false_and,Bool.and_false])]
     refine ⟨_,p55 _ (by have:=hf.ps _ (List.getElem_mem hi);omega),sel_intro (fun hb => ?_) (fun hb => ?_)⟩
     · rw[bad (by rw[Wm,show Tm p[i.toNat].2.1=false by simpa using hb,Bool.and_false,Bool.and_false])]
     · rw[i64_in _ (by omega)]
       refine ⟨rfl,rfl,rfl,rfl,⟨by omega,by omega,fun j hj hjl => ?_⟩,by dsimp only;omega⟩
       by_cases hji:(j:Int)<i
       · exact hok j hji hjl
       · obtain rfl:j=i.toNat:=by omega
         rw[Wm,decide_eq_true (by omega:(0:Int)≤p[i.toNat].1),decide_eq_true (by omega:p[i.toNat].1<(b.length:Int)),Bool.true_and,Bool.true_and]
         simpa using hb
   · rw[hgood,BadW]
     have:(p.any fun x => !(Wm b.length x))=false:=List.any_eq_false.2 fun x hx=>by
       obtain ⟨j,hj,rfl⟩:=List.getElem_of_mem hx
       rw[hok j (by omega) hj];simp
     rw[this];rfl
theorem p13 (b:List ByteArray) (p:List Wr) (b':List ByteArray) (p':List Wr) (hf:Fits b p) (hf':Fits b' p'):Runs Fs 13 [Dev b p,Dev b' p'] [] (.n (.bool (Lk b p b' p'))) []:=by
 refine vc_eq fs13 rfl ?_
 rw[Dev,Dev,vc13,(V13e _ _ _ _ _).down]
 rw[bk_len b,bk_len b',pk_len p,pk_len p']
 have hbl:=hf.bl
 have hpl:=hf.pl
 have no:¬(b=b'∧p=p')→AV.n (Mir.D.bool false)=AV.n (Mir.D.bool (Lk b p b' p')):=fun h=>by
   rw[Lk,←Bool.decide_and,decide_eq_false h]
 refine sel_intro (fun h=>no fun e=>by rw[e.1]at h;simp at h) (fun h => ?_)
 refine sel_intro (fun h2=>no fun e=>by rw[e.2]at h2;simp at h2) (fun h2 => ?_)
 have e1:b.length=b'.length:=by have:=bne_eq_false_iff_eq.1 h;omega
 have e2:p.length=p'.length:=by have:=bne_eq_false_iff_eq.1 h2;omega
 refine ⟨fun i=>0≤i∧i≤b.length∧∀j:Nat,(j:Int)<i→b[j]?=b'[j]?,fun i=>(b.length - i).toNat,⟨rfl,by omega,by omega,fun j hj=>by omega⟩,?_⟩
 rintro i ⟨h0,h1,hok⟩ _
 refine sel_dec (fun h => ?_) (fun h => ?_)
 · have hi:i.toNat<b.length:=by omega
   have hi':i.toNat<b'.length:=by omega
   refine ⟨rfl,h0,_,bk_at hi,_,rfl,rfl,h0,_,bk_at hi',_,rfl,sel_nb (fun hne=>no fun e=>hne ?_) (fun he => ?_)⟩
   · have:=e.1;subst this;rfl
   · rw[i64_in _ (by omega)]
     refine ⟨rfl,rfl,rfl,rfl,⟨by omega,by omega,fun j hj => ?_⟩,by dsimp only;omega⟩
     by_cases hji:(j:Int)<i
     · exact hok j hji
     · obtain rfl:j=i.toNat:=by omega
       rw[List.getElem?_eq_getElem hi,List.getElem?_eq_getElem hi',he]
 · have hb:b=b':=List.ext_getElem? fun j=>by
     by_cases hj:(j:Int)<i
     · exact hok j hj
     · rw[List.getElem?_eq_none (by omega),List.getElem?_eq_none (by omega)]
   refine ⟨fun i=>0≤i∧i≤p.length∧∀j:Nat,(j:Int)<i→p[j]?=p'[j]?,fun i=>(p.length - i).toNat,⟨rfl,by omega,by omega,fun j hj=>by omega⟩,?_⟩
   rintro i ⟨h0,h1,hok⟩ _
   refine sel_dec (fun h => ?_) (fun h => ?_)
   · have hi:i.toNat<p.length:=by omega
     have hi':i.toNat<p'.length:=by omega
     refine ⟨rfl,h0,_,pk_at hi,_,_,rfl,Nat.le_refl _,rfl,h0,_,pk_at hi',_,_,rfl,Nat.le_refl _,?_⟩
     rw[wr_eq]
     refine sel_intro (fun hne=>no fun e => ?_) (fun he => ?_)
     · have:=e.2;subst this;simp at hne
     · rw[i64_in _ (by omega)]
       have he:p[i.toNat]=p'[i.toNat]:=by simpa using he
       refine ⟨rfl,rfl,rfl,rfl,⟨by omega,by omega,fun j hj => ?_⟩,by dsimp only;omega⟩
       by_cases hji:(j:Int)<i
       · exact hok j hji
       · obtain rfl:j=i.toNat:=by omega
         rw[List.getElem?_eq_getElem hi,List.getElem?_eq_getElem hi',he]
   · have hp:p=p':=List.ext_getElem? fun j=>by
       by_cases hj:(j:Int)<i
       · exact hok j hj
       · rw[List.getElem?_eq_none (by omega),List.getElem?_eq_none (by omega)]
     rw[Lk,decide_eq_true hb,decide_eq_true hp];rfl
theorem p142 (s:ByteArray) (k:Int) (hk:0≤k):Runs Fs 142 [.n (.str s),.n (.int .i64 k)] [] (.n (.int .u8 ((At s k.toNat).toNat:Int))) []:=by
 refine vc_eq fs142 rfl ?_
 rewrite[vc142,(V142e _ _ _).down]
 refine sel_dec (fun h => ?_) (fun h => ?_)
 · have hlt:k.toNat<s.data.toList.length:=by rw[size_list];omega
   refine ⟨hk,_,List.getElem?_eq_getElem hlt,?_⟩
   rw[At,atL,List.getElem?_eq_getElem hlt];rfl
 · rw[At,atL,List.getElem?_eq_none (by rw[size_list];omega)];rfl
theorem p102 (old now:ByteArray) (mask:Int):
   Runs Fs 102 [.n (.str old),.n (.str now),.n (.int .i64 mask)] [] (.n (.str (MixS old now mask))) []:=by
 refine vc_eq fs102 rfl ?_
 rewrite[vc102,(V102e _ _ _ _).down]
 refine ⟨fun v i r=>v=r.1∧0≤i∧i≤4096∧r.2=bd (mixL old now mask i.toNat),fun v i r=>(4096 - i).toNat,⟨rfl,rfl,by omega,by omega,rfl⟩,?_⟩
 rintro v i ⟨ver,els⟩ ⟨rfl,h0,h1,hels⟩ _
 dsimp only at hels
 subst hels
 refine sel_dec (fun h3 => ?_) (fun h3 => ?_)
 · have ht:Int.tdiv i 512=((i.toNat / 512:Nat):Int):=by
     rw[Int.tdiv_eq_ediv_of_nonneg h0];omega
   rw[ht,i64_in _ (by omega),u64_in _ (by omega)]
   have hmin:Min.min (Int.toNat ((i.toNat / 512:Nat):Int)) (IntKind.bits .i64)=i.toNat / 512:=by
     show Min.min (Int.toNat ((i.toNat / 512:Nat):Int)) 64=i.toNat / 512
     omega
   refine ⟨by omega,by omega,by omega,?_⟩
   rw[hmin,tmod_bit,show decide (Int.fdiv mask (2 ^ (i.toNat / 512)) % 2=1)=bt mask (i.toNat / 512) from rfl]
   have tail:∀(t:ByteArray),(if bt mask (i.toNat / 512) then now else old)=t→bd (mixL old now mask i.toNat)++[Mir.D.int .u8 ((At t i.toNat).toNat:Int)]=bd (mixL old now mask (i+1).toNat):=fun t ht=>by
     rw[bd_one,bd_app,show (i+1).toNat=i.toNat+1 by omega,mixL,mixL,row_succ,ht]
   refine sel_intro (fun hb => ?_) (fun hb => ?_)
   · refine ⟨_,p142 now i h0,rfl,.inl rfl,⟨⟨rfl,rfl⟩,rfl⟩,?_,rfl,rfl,rfl,rfl,?_,?_⟩
     · rw[bd_len,mixL_len];simp only[List.length_singleton];omega
     · rw[i64_in (i+1) (by omega)]
       exact ⟨rfl,by omega,by omega,tail now (by rw[hb];rfl)⟩
     · rw[i64_in (i+1) (by omega)];dsimp only;omega
   · refine ⟨_,p142 old i h0,rfl,.inl rfl,⟨⟨rfl,rfl⟩,rfl⟩,?_,rfl,rfl,rfl,rfl,?_,?_⟩
     · rw[bd_len,mixL_len];simp only[List.length_singleton];omega
     · rw[i64_in (i+1) (by omega)]
       exact ⟨rfl,by omega,by omega,tail old (by rw[hb];rfl)⟩
     · rw[i64_in (i+1) (by omega)];dsimp only;omega
 · have e8:i.toNat=4096:=by omega
   have em:MixS old now mask=trimmed (mixL old now mask (i.toNat)):=by rw[e8,MixS]
   refine ⟨rfl,.inl rfl,bd_all _,_,p103 _ ?_,?_⟩
   · have e:(ByteArray.mk (mixL old now mask (i.toNat)).toArray).size=(mixL old now mask (i.toNat)).length:=by rw[←size_list]
     rw[of_bd,e,mixL_len];omega
   · rw[of_bd,em]
     exact congrArg (fun z=>AV.n (Mir.D.str z)) (trimS_of (mixL old now mask (i.toNat)) _ (by simp))
set_option maxRecDepth 10000 in
theorem p56 (b:List ByteArray) (p:List Wr) (all:Bool) (ms:List Int) (h:Ok b p):Runs Fs 56 [Dev b p,.n (.bool all),.o (.sl 1 (ml ms))] [] (Dev (CrL (mk all ms) b p p.length) []) []:=by
 refine vc_eq fs56 rfl ?_
 rw[Dev,vc56,(V56e _ _ _ _ _).down,bk_len,pk_len,ml_len]
 have hbl:=h.bl
 have hpl:=h.pl
 refine ⟨fun i s r=>0≤i∧i≤b.length∧r.1=s.1∧r.2=bk (b.take i.toNat),fun i s r=>(b.length - i).toNat,⟨rfl,by omega,by omega,rfl,rfl⟩,?_⟩
 rintro i s r ⟨h0,h1,hr1,hr2⟩ _
 refine sel_dec (fun hlt => ?_) (fun hge => ?_)
 · have hi:i.toNat<b.length:=by omega
   refine ⟨rfl,h0,_,bk_at hi,_,rfl,rfl,.inl rfl,⟨⟨hr1,rfl⟩,rfl⟩,?_,?_⟩
   · rw[hr2,bk_len,List.length_take]
     simp only[List.length_singleton]
     omega
   repeat (refine And.intro rfl ?_)
   rw[i64_in _ (by omega),hr2,bk_snoc]
   refine ⟨⟨by omega,by omega,rfl,?_⟩,by dsimp only;omega⟩
   rw[show (i+1).toNat=i.toNat+1 by omega,List.take_add_one,List.getElem?_eq_getElem hi];rfl
 · have hall:b.take i.toNat=b:=List.take_of_length_le (by omega)
   rw[hall]at hr2
   refine ⟨fun i s r=>0≤i∧i≤p.length∧r.1=s.1∧r.2=bk (CrL (mk all ms) b p i.toNat),fun i s r=>(p.length - i).toNat,⟨by rw[←hr1],by omega,by omega,hr1,hr2⟩,?_⟩
   rintro i s r ⟨h0,h1,hr1,hr2⟩ _
   refine sel_dec (fun hlt => ?_) (fun hge => ?_)
   · have hi:i.toNat<p.length:=by omega
     obtain ⟨hb0,hb1⟩:=h.pb _ (List.getElem_mem hi)
     have hbi:p[i.toNat].1.toNat<(CrL (mk all ms) b p i.toNat).length:=by rw[crL_len];omega
     refine ⟨rfl,h0,_,pk_at hi,_,_,rfl,Nat.le_refl _,?_⟩
     have step:∀m:Int,m=mk all ms i.toNat→bk ((CrL (mk all ms) b p i.toNat).set p[i.toNat].1.toNat (MixS ((CrL (mk all ms) b p i.toNat)[p[i.toNat].1.toNat]) p[i.toNat].2.1 m))=bk (CrL (mk all ms) b p (i+1).toNat):=fun m hm=>by
       rw[show (i+1).toNat=i.toNat+1 by omega,crL_succ _ _ _ _ hi (by omega),hm]
     refine sel_dec (fun hm => ?_) (fun hm => ?_)
     · have hmi:i.toNat<ms.length:=by omega
       refine ⟨rfl,h0,_,ml_at hmi,_,rfl,sel_intro (fun ha => ?_) (fun ha => ?_)⟩
       · refine ⟨⟨hr1,rfl⟩,hb0,by rw[hr2,bk_len,crL_len];exact hb1,⟨hr1.symm,rfl⟩,_,by rw[hr2];exact bk_at hbi,_,rfl,_,p102 _ _ _,⟨hr1,rfl⟩,hb0,by rw[hr2,bk_len,crL_len];exact hb1,⟨⟨⟨hr1.symm,rfl⟩,rfl⟩,rfl⟩,by rw[hr2,bk_len];exact hbi,?_⟩
         repeat (refine And.intro rfl ?_)
         rw[i64_in _ (by omega),hr2,bk_set,step _ (by rw[mk,if_pos ha])]
         exact ⟨⟨by omega,by omega,hr1,rfl⟩,by dsimp only;omega⟩
       · refine ⟨⟨hr1,rfl⟩,hb0,by rw[hr2,bk_len,crL_len];exact hb1,⟨hr1.symm,rfl⟩,_,by rw[hr2];exact bk_at hbi,_,rfl,_,p102 _ _ _,⟨hr1,rfl⟩,hb0,by rw[hr2,bk_len,crL_len];exact hb1,⟨⟨⟨hr1.symm,rfl⟩,rfl⟩,rfl⟩,by rw[hr2,bk_len];exact hbi,?_⟩
         repeat (refine And.intro rfl ?_)
         rw[i64_in _ (by omega),hr2,bk_set,step _ (by rw[mk,if_neg (by rw[ha];simp),List.getElem?_eq_getElem hmi];rfl)]
         exact ⟨⟨by omega,by omega,hr1,rfl⟩,by dsimp only;omega⟩
     · refine sel_intro (fun ha => ?_) (fun ha => ?_)
       · refine ⟨⟨hr1,rfl⟩,hb0,by rw[hr2,bk_len,crL_len];exact hb1,⟨hr1.symm,rfl⟩,_,by rw[hr2];exact bk_at hbi,_,rfl,_,p102 _ _ _,⟨hr1,rfl⟩,hb0,by rw[hr2,bk_len,crL_len];exact hb1,⟨⟨⟨hr1.symm,rfl⟩,rfl⟩,rfl⟩,by rw[hr2,bk_len];exact hbi,?_⟩
         repeat (refine And.intro rfl ?_)
         rw[i64_in _ (by omega),hr2,bk_set,step _ (by rw[mk,if_pos ha])]
         exact ⟨⟨by omega,by omega,hr1,rfl⟩,by dsimp only;omega⟩
       · refine ⟨⟨hr1,rfl⟩,hb0,by rw[hr2,bk_len,crL_len];exact hb1,⟨hr1.symm,rfl⟩,_,by rw[hr2];exact bk_at hbi,_,rfl,_,p102 _ _ _,⟨hr1,rfl⟩,hb0,by rw[hr2,bk_len,crL_len];exact hb1,⟨⟨⟨hr1.symm,rfl⟩,rfl⟩,rfl⟩,by rw[hr2,bk_len];exact hbi,?_⟩
         repeat (refine And.intro rfl ?_)
         rw[i64_in _ (by omega),hr2,bk_set,step _ (by rw[mk,if_neg (by rw[ha];simp),List.getElem?_eq_none (by omega)];rfl)]
         exact ⟨⟨by omega,by omega,hr1,rfl⟩,by dsimp only;omega⟩
   · refine ⟨hr1,?_⟩
     rw[hr2,show i.toNat=p.length by omega]
     rfl
theorem p101 (k:Int):Runs Fs 101 [.n (.int .i64 k)] [] (.n (.int .i64 255)) []:=by
 refine vc_eq fs101 rfl ?_
 rw[vc101]
 exact rfl
theorem p72f (b:List ByteArray) (p:List Wr) (h:Ok b p):Runs Fs 72 [Dev b p,.fn 101 []] [] (Dev (CrL (fun _=>255) b p p.length) []) []:=by
 refine vc_eq fs72 rfl ?_
 rw[Dev,vc72f,(V72fe _ _ _).down,pk_len]
 have hpl:=h.pl
 refine ⟨_,_,clone60 b h.bl,fun i r=>0≤i∧i≤p.length∧r.1=0∧r.2=bk (CrL (fun _=>255) b p i.toNat),fun i r=>(p.length - i).toNat,⟨rfl,by omega,by omega,rfl,rfl⟩,?_⟩
 rintro i r ⟨h0,h1,hr1,hr2⟩ _
 refine sel_dec (fun hlt => ?_) (fun hge => ?_)
 · have hi:i.toNat<p.length:=by omega
   obtain ⟨hb0,hb1⟩:=h.pb _ (List.getElem_mem hi)
   have hbi:p[i.toNat].1.toNat<(CrL (fun _=>255) b p i.toNat).length:=by rw[crL_len];omega
   refine ⟨rfl,h0,_,pk_at hi,_,_,rfl,Nat.le_refl _,⟨hr1,rfl⟩,hb0,by rw[hr2,bk_len,crL_len];exact hb1,⟨hr1.symm,rfl⟩,_,by rw[hr2];exact bk_at hbi,_,rfl,_,p101 i,_,
    p120 _ _ _ (crL_bs h _ _ _ (List.getElem_mem hbi)) (h.ps _ (List.getElem_mem hi)),⟨hr1,rfl⟩,hb0,by rw[hr2,bk_len,crL_len];exact hb1,⟨⟨⟨hr1.symm,rfl⟩,rfl⟩,rfl⟩,by rw[hr2,bk_len];exact hbi,?_⟩
   repeat (refine And.intro rfl ?_)
   rw[i64_in _ (by omega),hr2,bk_set]
   refine ⟨⟨by omega,by omega,hr1,?_⟩,by dsimp only;omega⟩
   rw[show (i+1).toNat=i.toNat+1 by omega,crL_succ _ _ _ _ hi (by omega)]
 · refine ⟨hr1,?_⟩
   rw[hr2,show i.toNat=p.length by omega]
   rfl
end Go.Proofs.YtegndijbpiccgaaGreatDoor.M
