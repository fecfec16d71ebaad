import Derived.Test.YtclgengkohbjjaaGreatDoorR4EdW
import Derived.Test.YtclgengkohbjjaaGreatDoorProg
import Derived.Test.YtclgengkohbjjaaGreatDoorMirI
import Derived.Test.YtclgengkohbjjaaGreatDoorMirL
import Derived.KernelRfl
namespace Go.Proofs.YtclgengkohbjjaaGreatDoor.M
set_option linter.unusedVariables false
set_option linter.unusedSimpArgs false
open Go Go.Mir
set_option linter.unusedVariables false
theorem strOf_be (n:Int) (s:Nat):strOf (be n s)=sOf (beB n s):=by rw[strOf,be_bytes,sOf]
theorem cat_two (A:List UInt8) (t:ByteArray):cat [sOf A,t]=sOf (A++t.data.toList):=bytes_ext (by rw[cat_data,sOf_data];simp[sOf])
theorem sizes_two (a b:ByteArray):sizes [a,b]=a.size+b.size:=by simp[sizes]
def hPut (A:List UInt8):Heap:=[(7600307,.box [.n (.str (sOf A))])]
theorem p107 (A:List UInt8) (s:ByteArray) (hs:s.size≤65535) (hA:A.length≤1000000):Runs Fs3 107 [.n (.str s),.ptr 7600307 0] (hPut A) (.tup []) (hPut (A++txB s)):=by
 have g:=((p108 s).up up2).up up3
 rw[textR_small hs]at g
 refine vc_mut fs107 rfl (by kernel_rfl) ?_
 rw[hPut,vc107h,V107h]
 have g2:=((p109 [sOf A,TextOf s] (by simp) (by rw[sizes_two,sOf_size,textOf_size];omega)).up up2).up up3
 refine ⟨_,_,g,rfl,_,g2,rfl,?_⟩
 rw[cat_two,textOf_data];rfl
theorem lfB_snoc:∀(ks vs:List ByteArray) (k v:ByteArray),vs.length=ks.length→lfB (ks++[k]) (vs++[v])=lfB ks vs++(txB k++txB v)
 | [],[],k,v,_=>by simp[lfB]
 | [],_ :: _,_,_,h=>by simp at h
 | _ :: _,[],_,_,h=>by simp at h
 | a :: ks,b :: vs,k,v,h=>by
   have:=lfB_snoc ks vs k v (by simpa using h)
   simp only[List.cons_append,lfB,this,List.append_assoc]
theorem inB_snoc:∀(bs:List Int) (ks:List ByteArray) (b:Int) (k:ByteArray),bs.length=ks.length→inB (bs++[b]) (ks++[k])=inB bs ks++(beB b 2++txB k)
 | [],[],b,k,_=>by simp[inB]
 | [],_ :: _,_,_,h=>by simp at h
 | _ :: _,[],_,_,h=>by simp at h
 | a :: bs,c :: ks,b,k,h=>by
   have:=inB_snoc bs ks b k (by simpa using h)
   simp only[List.cons_append,inB,this,List.append_assoc]
theorem inB_last:∀(bs:List Int) (ks:List ByteArray) (b:Int),bs.length=ks.length→inB (bs++[b]) ks=inB bs ks++beB b 2
 | [],[],b,_=>by simp[inB]
 | [],_ :: _,_,h=>by simp at h
 | _ :: _,[],_,h=>by simp at h
 | a :: bs,c :: ks,b,h=>by
   have:=inB_last bs ks b (by simpa using h)
   simp only[List.cons_append,inB,this,List.append_assoc]
theorem lfB_small {ks vs:List ByteArray} (i:Nat) (hk:∀k∈ks,k.size≤32) (hv:∀v∈vs,v.size≤200) (h:i≤9):(lfB (ks.take i) (vs.take i)).length≤2124:=by
 have:=lfB_len (ks.take i) (vs.take i) (fun x hx=>hk x (List.mem_of_mem_take hx)) (fun x hx=>hv x (List.mem_of_mem_take hx))
 have h2:(ks.take i).length≤9:=by rw[List.length_take];omega
 omega
theorem inB_small {bs:List Int} {ks:List ByteArray} (i:Nat) (hk:∀k∈ks,k.size≤32) (h:ks.length≤9):(inB (bs.take i) (ks.take i)).length≤326:=by
 have:=inB_len (bs.take i) (ks.take i) (fun x hx=>hk x (List.mem_of_mem_take hx))
 have h2:(ks.take i).length≤9:=by rw[List.length_take];omega
 omega
noncomputable def NPutV (n:Nd):AV:=if NdOK n true then .tup [.n (.str (nodeB n)),.n (.int .i64 0)] else .tup [.n (.str (ByteArray.mk (List.toArray []))),.n (.int .i64 1)]
theorem p76 (n:Nd) (hf:NdFits n):Runs Fs3 76 [ndV n] [] (NPutV n) []:=by
 have g:=(p92 n true hf).up up3
 refine vc_eq fs76 rfl ?_
 rw[ndV,vc76,(V76e _ _ _ _ _).down,sl_len,il_len]
 refine ⟨_,g,?_⟩
 by_cases hok:NdOK n true
 · rw[decide_eq_true hok,NPutV,if_pos hok]
   obtain ⟨hs,h8,_⟩:=hok
   have hks:=kok_size hs.2.1
   have g1:=((p106_good (n.keys.length:Int) 1 (by omega) (by omega) (by omega) (by rw[show (256:Int) ^ (1:Int).toNat=256 by decide];omega)).up up2).up up3
   rw[Good,show (1:Int).toNat=1 from rfl,strOf_be]at g1
   have hb1:(beB (n.keys.length:Int) 1).length=1:=beB_length _ _
   refine sel_intro (fun h=>by cases h) (fun _=>⟨_,_,g1,?_⟩)
   refine sel_intro (fun hl => ?_) (fun hl => ?_)
   · have hv:n.vals.length=n.keys.length∧∀v∈n.vals,v.size≤200:=by
       rcases hs.2.2 with ⟨_,_,h2,h3⟩|⟨h,_⟩
       · exact ⟨h2,h3⟩
       · rw[hl]at h;cases h
     refine ⟨fun i p=>0≤i∧i≤n.keys.length∧p.1=sOf (beB (n.keys.length:Int) 1++lfB (n.keys.take i.toNat) (n.vals.take i.toNat)),fun i _=>(n.keys.length - i).toNat,⟨rfl,by omega,by omega,by simp[lfB]⟩,?_⟩
     rintro i ⟨o,_⟩ ⟨h0,h1,rfl⟩ _
     dsimp only
     refine sel_dec (fun hlt => ?_) (fun hge => ?_)
     · have hi:i.toNat<n.keys.length:=by omega
       have hj:i.toNat<n.vals.length:=by omega
       have hsm:=lfB_small (ks:=n.keys) (vs:=n.vals) i.toNat (fun k hk=>(hks k hk).2) hv.2 (by omega)
       have hk1:=(hks _ (List.getElem_mem hi)).2
       have hv1:=hv.2 _ (List.getElem_mem hj)
       have c1:=p107 (beB (n.keys.length:Int) 1++lfB (n.keys.take i.toNat) (n.vals.take i.toNat)) n.keys[i.toNat] (by omega) (by rw[List.length_append];omega)
       have c2:=p107 (beB (n.keys.length:Int) 1++lfB (n.keys.take i.toNat) (n.vals.take i.toNat)++txB n.keys[i.toNat]) n.vals[i.toNat] (by omega) (by simp only[List.length_append,txB,beB_length,size_list];omega)
       refine ⟨rfl,h0,_,sl_at hi,_,rfl,_,c1,rfl,h0,_,sl_at hj,_,rfl,_,c2,?_⟩
       repeat (refine And.intro rfl ?_)
       rw[i64_in _ (by omega)]
       refine ⟨⟨by omega,by omega,?_⟩,by first|omega|(dsimp only;omega)⟩
       rw[show (i+1).toNat=i.toNat+1 by omega,take_snoc hi,take_snoc hj,lfB_snoc _ _ _ _ (by rw[List.length_take,List.length_take];omega)]
       simp only[List.append_assoc]
     · rw[List.take_of_length_le (by omega),List.take_of_length_le (by omega),nodeB,nodeL,hl];rfl
   · have hv:n.kids.length=n.keys.length+1∧∀b∈n.kids,10≤b∧b<2048:=by
       rcases hs.2.2 with ⟨h,_⟩|⟨_,_,_,h2,h3⟩
       · rw[hl]at h;cases h
       · exact ⟨h2,h3⟩
     refine ⟨fun i p=>0≤i∧i≤n.kids.length∧p.1=sOf (beB (n.keys.length:Int) 1++inB (n.kids.take i.toNat) (n.keys.take i.toNat)),fun i _=>(n.kids.length - i).toNat,⟨rfl,by omega,by omega,by simp[inB]⟩,?_⟩
     rintro i ⟨o,_⟩ ⟨h0,h1,rfl⟩ _
     dsimp only
     refine sel_dec (fun hlt => ?_) (fun hge => ?_)
     · have hi:i.toNat<n.kids.length:=by omega
       have hb:=hv.2 _ (List.getElem_mem hi)
       have hsm:=inB_small (bs:=n.kids) (ks:=n.keys) i.toNat (fun k hk=>(hks k hk).2) (by omega)
       have c1:=((p106_good n.kids[i.toNat] 2 (by omega) (by omega) (by omega) (by rw[show (256:Int) ^ (2:Int).toNat=65536 by decide];omega)).up up2).up up3
       rw[Good,show (2:Int).toNat=2 from rfl,strOf_be]at c1
       have c2:=((p109 [sOf (beB (n.keys.length:Int) 1++inB (n.kids.take i.toNat) (n.keys.take i.toNat)),sOf (beB n.kids[i.toNat] 2)] (by simp) (by rw[sizes_two,sOf_size,sOf_size,List.length_append,beB_length,beB_length];omega)).up up2).up up3
       rw[cat_two,sOf_data]at c2
       refine ⟨rfl,h0,_,il_at hi,_,rfl,_,_,c1,rfl,_,c2,sel_dec (fun hk => ?_) (fun hk => ?_)⟩
       · have hj:i.toNat<n.keys.length:=by omega
         have hk1:=(hks _ (List.getElem_mem hj)).2
         have c3:=p107 (beB (n.keys.length:Int) 1++inB (n.kids.take i.toNat) (n.keys.take i.toNat)++beB n.kids[i.toNat] 2) n.keys[i.toNat] (by omega) (by simp only[List.length_append,beB_length];omega)
         refine ⟨rfl,h0,_,sl_at hj,_,rfl,_,c3,?_⟩
         repeat (refine And.intro rfl ?_)
         rw[i64_in _ (by omega)]
         refine ⟨⟨by omega,by omega,?_⟩,by first|omega|(dsimp only;omega)⟩
         rw[show (i+1).toNat=i.toNat+1 by omega,take_snoc hi,take_snoc hj,inB_snoc _ _ _ _ (by rw[List.length_take,List.length_take];omega)]
         simp only[List.append_assoc]
       · repeat (refine And.intro rfl ?_)
         rw[i64_in _ (by omega)]
         refine ⟨⟨by omega,by omega,?_⟩,by first|omega|(dsimp only;omega)⟩
         have e1:n.keys.take i.toNat=n.keys:=List.take_of_length_le (by omega)
         have e2:n.keys.take (i.toNat+1)=n.keys:=List.take_of_length_le (by omega)
         rw[show (i+1).toNat=i.toNat+1 by omega,take_snoc hi,e2,inB_last _ _ _ (by rw[List.length_take];omega),e1]
         simp only[List.append_assoc]
     · rw[List.take_of_length_le (by omega),List.take_of_length_le (by omega),nodeB,nodeL,hl];rfl
 · rw[decide_eq_false hok,NPutV,if_neg hok]
   exact sel_intro (fun _=>rfl) (fun h=>by cases h)
def fl (L:List (List D)):List D:=L.flatten
theorem fl_take {L:List (List D)} {i:Nat} (h:i<L.length):(L.take (i+1)).flatten=(L.take i).flatten++L[i]:=by
 rw[take_snoc h,List.flatten_append,List.flatten_cons,List.flatten_nil,List.append_nil]
theorem fl_le {L:List (List D)} (i:Nat):(L.take i).flatten.length≤L.flatten.length:=by
 have:L.flatten=(L.take i).flatten++(L.drop i).flatten:=by rw[←List.flatten_append,List.take_append_drop]
 rw[this,List.length_append];omega
theorem p140 (L:List (List D)) (h1:L.length≤100) (h2:L.flatten.length≤100000):Runs Fs3 140 [.o (.sl 1 (L.map (D.sl 1)))] [] (.o (.sl 1 L.flatten)) []:=by
 have hat:∀ {i:Nat} (h:i<L.length),(L.map (D.sl 1))[i]?=some (.sl 1 L[i]):=fun {i} h=>by simp[h]
 have hlen:(L.map (D.sl 1)).length=L.length:=by simp
 refine vc_eq fs140 rfl ?_
 rw[vc140,(V140e _ _).down,hlen]
 refine ⟨fun s i=>0≤i∧i≤L.length∧s=((L.take i.toNat).flatten.length:Nat),fun _ i=>(L.length - i).toNat,⟨rfl,by omega,by omega,rfl⟩,?_⟩
 rintro s i ⟨h0,hi,rfl⟩ _
 have hle:=fl_le (L:=L) i.toNat
 refine sel_dec (fun hlt => ?_) (fun hge => ?_)
 · have hi':i.toNat<L.length:=by omega
   have hle':=fl_le (L:=L) (i.toNat+1)
   have e:=fl_take hi'
   have e':(L.take (i.toNat+1)).flatten.length=(L.take i.toNat).flatten.length+L[i.toNat].length:=by rw[e,List.length_append]
   refine ⟨rfl,h0,_,hat hi',_,rfl,?_⟩
   rw[i64_in _ (by omega),i64_in _ (by omega)]
   refine sel_dec (fun h=>by omega) (fun _ => ?_)
   repeat (refine And.intro rfl ?_)
   refine ⟨⟨by omega,by omega,?_⟩,by first|omega|(dsimp only;omega)⟩
   rw[show (i+1).toNat=i.toNat+1 by omega,e'];omega
 · refine ⟨_,_,grow_runs fs158 _ (by omega),fun v i r=>0≤i∧i≤L.length∧r.1=v∧r.2=(L.take i.toNat).flatten,fun _ i _=>(L.length - i).toNat,⟨rfl,by omega,by omega,rfl,rfl⟩,?_⟩
   rintro v i ⟨v',els⟩ ⟨h0,hi,rfl,rfl⟩ _
   dsimp only
   have hle:=fl_le (L:=L) i.toNat
   refine sel_dec (fun hlt => ?_) (fun hge => ?_)
   · have hi':i.toNat<L.length:=by omega
     have hle':=fl_le (L:=L) (i.toNat+1)
     have e:=fl_take hi'
     have e':(L.take (i.toNat+1)).flatten.length=(L.take i.toNat).flatten.length+L[i.toNat].length:=by rw[e,List.length_append]
     refine ⟨rfl,h0,_,hat hi',_,rfl,.inl rfl,⟨⟨rfl,rfl⟩,rfl⟩,by omega,?_⟩
     repeat (refine And.intro rfl ?_)
     rw[i64_in _ (by omega)]
     refine ⟨⟨by omega,by omega,rfl,?_⟩,by first|omega|(dsimp only;omega)⟩
     rw[show (i+1).toNat=i.toNat+1 by omega,e]
   · refine ⟨rfl,?_⟩
     rw[List.take_of_length_le (by omega)]
theorem p141 (L:List (List D)) (h1:L.length≤100) (h2:L.flatten.length≤100000):Runs Fs3 141 [.o (.sl 1 (L.map (D.sl 1)))] [] (.o (.sl 1 L.flatten)) []:=by
 have hat:∀ {i:Nat} (h:i<L.length),(L.map (D.sl 1))[i]?=some (.sl 1 L[i]):=fun {i} h=>by simp[h]
 have hlen:(L.map (D.sl 1)).length=L.length:=by simp
 refine vc_eq fs141 rfl ?_
 rw[vc141,(V141e _ _).down,hlen]
 refine ⟨fun s i=>0≤i∧i≤L.length∧s=((L.take i.toNat).flatten.length:Nat),fun _ i=>(L.length - i).toNat,⟨rfl,by omega,by omega,rfl⟩,?_⟩
 rintro s i ⟨h0,hi,rfl⟩ _
 have hle:=fl_le (L:=L) i.toNat
 refine sel_dec (fun hlt => ?_) (fun hge => ?_)
 · have hi':i.toNat<L.length:=by omega
   have hle':=fl_le (L:=L) (i.toNat+1)
   have e:=fl_take hi'
   have e':(L.take (i.toNat+1)).flatten.length=(L.take i.toNat).flatten.length+L[i.toNat].length:=by rw[e,List.length_append]
   refine ⟨rfl,h0,_,hat hi',_,rfl,?_⟩
   rw[i64_in _ (by omega),i64_in _ (by omega)]
   refine sel_dec (fun h=>by omega) (fun _ => ?_)
   repeat (refine And.intro rfl ?_)
   refine ⟨⟨by omega,by omega,?_⟩,by first|omega|(dsimp only;omega)⟩
   rw[show (i+1).toNat=i.toNat+1 by omega,e'];omega
 · refine ⟨_,_,grow_runs fs159 _ (by omega),fun v i r=>0≤i∧i≤L.length∧r.1=v∧r.2=(L.take i.toNat).flatten,fun _ i _=>(L.length - i).toNat,⟨rfl,by omega,by omega,rfl,rfl⟩,?_⟩
   rintro v i ⟨v',els⟩ ⟨h0,hi,rfl,rfl⟩ _
   dsimp only
   have hle:=fl_le (L:=L) i.toNat
   refine sel_dec (fun hlt => ?_) (fun hge => ?_)
   · have hi':i.toNat<L.length:=by omega
     have hle':=fl_le (L:=L) (i.toNat+1)
     have e:=fl_take hi'
     have e':(L.take (i.toNat+1)).flatten.length=(L.take i.toNat).flatten.length+L[i.toNat].length:=by rw[e,List.length_append]
     refine ⟨rfl,h0,_,hat hi',_,rfl,.inl rfl,⟨⟨rfl,rfl⟩,rfl⟩,by omega,?_⟩
     repeat (refine And.intro rfl ?_)
     rw[i64_in _ (by omega)]
     refine ⟨⟨by omega,by omega,rfl,?_⟩,by first|omega|(dsimp only;omega)⟩
     rw[show (i+1).toNat=i.toNat+1 by omega,e]
   · refine ⟨rfl,?_⟩
     rw[List.take_of_length_le (by omega)]
theorem p138 (L:List (List D)) (h1:L.length≤100) (h2:L.flatten.length≤100000):Runs Fs3 138 [.o (.sl 1 (L.map (D.sl 1)))] [] (.o (.sl 1 L.flatten)) []:=by
 refine vc_eq fs138 rfl ?_
 rw[vc138,V138]
 exact ⟨_,p140 L h1 h2,rfl⟩
theorem p139 (L:List (List D)) (h1:L.length≤100) (h2:L.flatten.length≤100000):Runs Fs3 139 [.o (.sl 1 (L.map (D.sl 1)))] [] (.o (.sl 1 L.flatten)) []:=by
 refine vc_eq fs139 rfl ?_
 rw[vc139,V139]
 exact ⟨_,p141 L h1 h2,rfl⟩
theorem sl_drop (l:List ByteArray) (n:Nat):(sl_ l).drop n=sl_ (l.drop n):=by simp[sl_,List.map_drop]
theorem il_drop (l:List Int) (n:Nat):(il l).drop n=il (l.drop n):=by simp[il,List.map_drop]
theorem sl_tk (l:List ByteArray) (n:Nat):(sl_ l).take n=sl_ (l.take n):=by simp[sl_,List.map_take]
theorem il_tk (l:List Int) (n:Nat):(il l).take n=il (l.take n):=by simp[il,List.map_take]
theorem p138_1 (a:List ByteArray) (h:a.length≤1000):Runs Fs3 138 [.o (.sl 1 [.sl 1 (sl_ a)])] [] (.o (.sl 1 (sl_ a))) []:=by
 have:=p138 [sl_ a] (by simp) (by simp[sl_len];omega)
 simpa using this
theorem p139_1 (a:List Int) (h:a.length≤1000):Runs Fs3 139 [.o (.sl 1 [.sl 1 (il a)])] [] (.o (.sl 1 (il a))) []:=by
 have:=p139 [il a] (by simp) (by simp[il_len];omega)
 simpa using this
noncomputable def CutV (n:Nd):AV:=if Stands n∧n.keys.length=9 then .tup [ndV (cutL n),.n (.str (cutK n)),ndV (cutR n),.n (.int .i64 0)] else .tup [ndV nd0,.n (.str (ByteArray.mk (List.toArray []))),ndV nd0,.n (.int .i64 1)]
theorem p118 (n:Nd) (hf:NdFits n):Runs Fs3 118 [ndV n] [] (CutV n) []:=by
 have g:=(p93 n hf).up up3
 refine vc_eq fs118 rfl ?_
 rw[ndV,vc118,(V118e _ _ _ _ _).down,sl_len,sl_len,il_len]
 refine ⟨_,g,?_⟩
 by_cases hs:Stands n
 · rw[decide_eq_true hs]
   refine sel_intro (fun h=>by cases h) (fun _=>sel_intro (fun h => ?_) (fun h => ?_))
   · rw[CutV,if_neg]
     · rfl
     · rintro ⟨_,h9⟩
       rw[h9]at h;simp at h
   · have h9:n.keys.length=9:=by
       have:(n.keys.length:Int)=9:=by simpa using h
       omega
     rw[CutV,if_pos ⟨hs,h9⟩]
     have hk4:4<n.keys.length:=by omega
     have ek:cutK n=n.keys[4]:=by rw[cutK,List.getElem?_eq_getElem hk4];rfl
     refine ⟨rfl,by decide,_,sl_at hk4,_,rfl,?_⟩
     rw[show Int.toNat 4=4 from rfl,show Int.toNat 5=5 from rfl]
     simp only[List.drop_zero,List.take_length,sl_tk,sl_drop,il_tk,il_drop]
     refine sel_intro (fun hl => ?_) (fun hl => ?_)
     · have hv:n.vals.length=9:=by
        rcases hs.2.2 with ⟨_,_,h2,_⟩|⟨h,_⟩
        · omega
        · rw[hl]at h;cases h
       refine ⟨trivial,by decide,by omega,trivial,_,p138_1 _ (by rw[List.length_take];omega),trivial,by decide,by omega,trivial,_,p138_1 _ (by rw[List.length_take];omega),trivial,by decide,by omega,trivial,_,p138_1 _ (by rw[List.length_drop];omega),trivial,by decide,by omega,trivial,_,p138_1 _ (by rw[List.length_drop];omega),?_⟩
       rw[ek,cutL,cutR,hl];rfl
     · have hv:n.kids.length=10:=by
        rcases hs.2.2 with ⟨h,_⟩|⟨_,_,_,h2,_⟩
        · rw[hl]at h;cases h
        · omega
       refine ⟨trivial,by decide,by omega,trivial,_,p138_1 _ (by rw[List.length_take];omega),trivial,by decide,by omega,trivial,_,p139_1 _ (by rw[List.length_take];omega),trivial,by decide,by omega,trivial,_,p138_1 _ (by rw[List.length_drop];omega),trivial,by decide,by omega,trivial,_,p139_1 _ (by rw[List.length_drop];omega),?_⟩
       rw[ek,cutL,cutR,hl];rfl
 · rw[decide_eq_false hs,CutV,if_neg fun h=>hs h.1]
   exact sel_intro (fun _=>rfl) (fun h=>by cases h)
theorem st_leaf {n:Nd} (hs:Stands n) (hl:n.leaf=true):n.kids=[]∧n.vals.length=n.keys.length:=by
 rcases hs.2.2 with ⟨_,h1,h2,_⟩|⟨h,_⟩
 · exact ⟨h1,h2⟩
 · rw[hl]at h;cases h
theorem st_inner {n:Nd} (hs:Stands n) (hl:n.leaf=false):n.vals=[]∧n.kids.length=n.keys.length+1:=by
 rcases hs.2.2 with ⟨h,_⟩|⟨_,h1,_,h2,_⟩
 · rw[hl]at h;cases h
 · exact ⟨h1,h2⟩
theorem st_lens {n:Nd} (hs:Stands n):n.keys.length≤9∧n.vals.length≤9∧n.kids.length≤10:=by
 have h9:=hs.1
 cases hl:n.leaf with
 | true=>
   obtain ⟨h1,h2⟩:=st_leaf hs hl
   rw[h1]
   exact ⟨by omega,by omega,by simp⟩
 | false=>
   obtain ⟨h1,h2⟩:=st_inner hs hl
   rw[h1]
   exact ⟨by omega,by simp,by omega⟩
theorem wr_fits {w:Wd} (h:WRight w):WFits w:=by
 obtain ⟨⟨h1,_,h2,_⟩,h3,_,_,_,h4⟩:=h
 exact ⟨by omega,by omega,by omega,fun x hx=>by have:=h4 x hx;omega⟩
def wuo (x:Wd×Int):AV := .tup [wdV x.1,.n (.int .i64 x.2)]
def hEz (e:Ed) (v:Nat) (fz:Bool):Heap:=[(5000202,.box [.o (.sl 1 (blD e.w.base)),.o (.sl 1 (blD e.w.now)),.row 5050102 v,.n (.int .i64 e.w.root),.n (.int .i64 e.w.gen),.n (.int .i64 e.bad)]),(5050102,.row fz false v 9 1 (sl_ e.w.pages))]
def hE (e:Ed) (v:Nat):Heap:=hEz e v false
theorem p50 (w:Wd) (hp:w.pages.length≤100000):Runs Fs3 50 [wdV w] [] (.ptr 5000202 0) (hE ⟨w,0⟩ 0):=by
 have key:∃r H',Runs Fs3 50 [wdV w] [] r H'∧r = .ptr 5000202 0∧H'=hE ⟨w,0⟩ 0:=by
  refine vc_own (R:=fun r H'=>r = .ptr 5000202 0∧H'=hE ⟨w,0⟩ 0) fs50 rfl ?_
  rw[wdV,vc50o,(V50oe _ _ _ _ _ _).down]
  exact ⟨_,_,clone_runs fs70 (sl_ w.pages) (by rw[sl_len];omega),rfl,rfl⟩
 obtain ⟨r,H',h,rfl,rfl⟩:=key
 exact h
theorem p71 (e:Ed) (v:Nat) (hw:WRight e.w) (b d:Int):Runs Fs3 71 [.ptr 5000202 0,.n (.int .i64 b),.n (.int .i64 d)] (hE e v) (ndN (loadE e b d).1) (hE (loadE e b d).2 v):=by
 have g:=(p99 e.w (wr_fits hw) b (d==1)).up up3
 rw[LoadR,if_pos hw]at g
 refine vc_mut fs71 rfl (by kernel_rfl) ?_
 unfold hE hEz
 rw[vc71h,(V71he _ _ _ _ _ _ _ _ _ _).down]
 refine sel_intro (fun h => ?_) (fun h=>⟨rfl,?_⟩)
 · rw[loadE,if_pos (by simpa using h)]
   exact ⟨rfl,rfl⟩
 · have hb:¬(e.bad≠0):=by simpa using h
   rw[loadE,if_neg hb]
   cases hh:Hold e.w b (d==1) with
   | none=>
     rw[hh]at g
     exact ⟨_,_,_,_,_,g,sel_intro (fun _=>⟨rfl,rfl⟩) (fun h=>by simp at h)⟩
   | some n=>
     rw[hh]at g
     refine ⟨_,_,_,_,_,g,sel_intro (fun h=>by simp at h) (fun _=>sel_dec (fun h => ?_) (fun h => ?_))⟩
     · dsimp only;rw[if_pos h];exact ⟨rfl,rfl⟩
     · dsimp only;rw[if_neg h];exact ⟨rfl,rfl⟩
theorem p72 (e:Ed) (v:Nat) (hw:WRight e.w) (b:Int):Runs Fs3 72 [.ptr 5000202 0,.n (.int .i64 b)] (hE e v) (.tup []) (hE (dropE e b) v):=by
 have g:=p100 e.w.base e.w.now hw.1 b
 refine vc_mut fs72 rfl (by kernel_rfl) ?_
 unfold hE hEz
 rw[vc72h,(V72he _ _ _ _ _ _ _ _ _).down]
 refine sel_intro (fun h => ?_) (fun h=>⟨rfl,?_⟩)
 · rw[dropE,if_pos (by simpa using h)]
   exact ⟨rfl,rfl⟩
 · rw[dropE,if_neg (by simpa using h)]
   by_cases hc:b<10∨b≥e.w.now.length∨tr e.w.now b.toNat=false
   · rw[if_pos hc]at g ⊢
     exact ⟨_,_,_,g,sel_intro (fun _=>⟨rfl,rfl⟩) (fun h=>by simp at h)⟩
   · rw[if_neg hc]at g ⊢
     exact ⟨_,_,_,g,sel_intro (fun h=>by simp at h) (fun _=>⟨rfl,rfl⟩)⟩
theorem sl_set (l:List ByteArray) (i:Nat) (x:ByteArray):(sl_ l).set i (.str x)=sl_ (l.set i x):=by simp[sl_,List.map_set]
theorem il_set (l:List Int) (i:Nat) (x:Int):(il l).set i (.int .i64 x)=il (l.set i x):=by simp[il,List.map_set]
theorem p52 (e:Ed) (v:Nat) (hw0:e.bad=0→WRight e.w) (n:Nd) (hf:NdFits n):Runs Fs3 52 [.ptr 5000202 0,ndV n] (hE e v) (.n (.int .i64 (storeE e n).1)) (hE (storeE e n).2 v):=by
 have g1:=p76 n hf
 refine vc_mut fs52 rfl (by kernel_rfl) ?_
 unfold hE hEz
 rw[ndV,vc52h,(V52he _ _ _ _ _ _ _ _ _ _ _ _).down,sl_len]
 refine sel_intro (fun h => ?_) (fun h => ?_)
 · rw[storeE,if_pos (by simpa using h)]
   exact ⟨rfl,rfl⟩
 · have hb:¬(e.bad≠0):=by simpa using h
   rw[storeE,if_neg hb]
   have hw:=hw0 (by simpa using hb)
   have g3:=p78 e.w hw.1
   have hgen:1≤e.w.gen∧e.w.gen≤1099511627776:=⟨hw.2.2.1,hw.2.2.2.1⟩
   by_cases hok:NdOK n true
   · rw[if_neg (by simpa using hok)]
     rw[NPutV,if_pos hok]at g1
     have g2:Runs Fs3 77 [pg (kindOf n) e.w.gen (nodeB n)] [] (.tup [.n (.str (pageB e.w.gen n)),.n (.int .i64 0)]) []:=by
       have:=((p77 (kindOf n) e.w.gen (nodeB n)).up up2).up up3
       rw[PutPR,if_pos (page_ok hok (by omega) (by omega))]at this
       exact this
     have hlen:=hw.2.1
     have fin:sel (((0:Int)) != 0) False True:=trivial
     cases hx:firstFree e.w with
     | none=>
       rw[hx]at g3
       dsimp only at g3 ⊢
       refine sel_intro (fun hl => ?_) (fun hl => ?_)
       all_goals
        rw[kindOf,hl]at g2
        exact ⟨_,_,g1,sel_intro (fun h=>by simp at h) (fun _=>⟨_,_,g2,sel_intro (fun h=>by simp at h) (fun _=>⟨_,_,_,_,g3,sel_intro (fun _=>⟨rfl,rfl⟩) (fun h=>by simp at h)⟩)⟩)⟩
     | some k=>
       have hk:=(ffUp_some hx).1
       rw[hx]at g3
       dsimp only at g3 ⊢
       refine sel_intro (fun hl => ?_) (fun hl => ?_)
       all_goals
        rw[kindOf,hl]at g2
        refine ⟨_,_,g1,sel_intro (fun h=>by simp at h) (fun _=>⟨_,_,g2,sel_intro (fun h=>by simp at h) (fun _=>⟨_,_,_,_,g3,sel_intro (fun h=>by simp at h) (fun _ => ?_)⟩)⟩)⟩
        rw[show Int.toNat ((k:Nat):Int)=k from rfl,sl_set]
        exact ⟨⟨rfl,rfl⟩,by omega,by omega,⟨⟨⟨rfl,rfl⟩,rfl⟩,rfl⟩,by omega,rfl,rfl⟩
   · rw[if_pos (by simpa using hok)]
     rw[NPutV,if_neg hok]at g1
     exact sel_intro (fun hl=>⟨_,_,g1,sel_intro (fun _=>⟨rfl,rfl⟩) (fun h=>by simp at h)⟩) (fun hl=>⟨_,_,g1,sel_intro (fun _=>⟨rfl,rfl⟩) (fun h=>by simp at h)⟩)
theorem p53 (e:Ed) (v:Nat):Runs Fs3 53 [.ptr 5000202 0] (hE e v) (wuo (endE e)) (hEz e v (decide (e.bad=0))):=by
 refine vc_mut fs53 rfl (by kernel_rfl) ?_
 unfold hE hEz
 rw[vc53h,(V53he _ _ _ _ _ _ _ _).down]
 refine sel_intro (fun h => ?_) (fun h=>⟨rfl,?_⟩)
 · have hb:e.bad≠0:=by simpa using h
   rw[endE,if_pos hb,decide_eq_false hb]
   exact ⟨rfl,rfl⟩
 · have hb:e.bad=0:=by simpa using h
   rw[endE,if_neg (by simpa using hb),decide_eq_true hb]
   exact ⟨rfl,rfl⟩
def splV (s:Spl):AV := .agg [.n (.int .i64 s.left),.n (.int .i64 s.right),.n (.str s.key),.n (.bool s.two)]
def hG (key val:ByteArray) (e:Ed) (v:Nat):Heap:=(3000305,.box [.ptr 5000202 0,.n (.str key),.n (.str val)]) :: hE e v
theorem p86 {w0:Wd} (key val:ByteArray) (e:Ed) (v:Nat) (h:Inv w0 e) (n:Nd) (hf:NdFits n):Runs Fs3 86 [.ptr 3000305 0,ndV n] (hG key val e v) (splV (keepE e n).1) (hG key val (keepE e n).2 v):=by
 have g:=p118 n hf
 have s1:=p52 e v (fun _=>h.right) n hf
 refine vc_mut fs86 rfl (by kernel_rfl) ?_
 unfold hG hE hEz
 rw[ndV,vc86h,(V86he _ _ _ _ _ _ _ _ _ _ _ _ _ _).down,sl_len]
 refine sel_dec (fun h8 => ?_) (fun h8 => ?_)
 · rw[keepE,if_pos (by omega)]
   exact ⟨_,_,_,_,_,_,_,_,_,s1,rfl,rfl⟩
 · rw[keepE,if_neg (by omega)]
   by_cases hc:Stands n∧n.keys.length=9
   · rw[if_neg (by simpa using hc)]
     rw[CutV,if_pos hc]at g
     obtain ⟨l1,l2,l3⟩:=st_lens hc.1
     have fL:NdFits (cutL n):=by
      unfold cutL
      split <;> refine ⟨?_,?_,?_⟩ <;> (dsimp only;simp only[List.length_take,List.length_nil];omega)
     have fR:NdFits (cutR n):=by
      unfold cutR
      split <;> refine ⟨?_,?_,?_⟩ <;> (dsimp only;simp only[List.length_drop,List.length_nil];omega)
     have c1:=p52 e v (fun _=>h.right) (cutL n) fL
     have c2:=p52 (storeE e (cutL n)).2 v (fun _=>(store_inv h).1.right) (cutR n) fR
     refine ⟨_,_,_,_,_,_,_,_,_,_,g,sel_intro (fun h=>by simp at h) (fun _ => ?_)⟩
     exact ⟨_,_,_,_,_,_,_,_,_,c1,_,_,_,_,_,_,_,_,_,c2,rfl,rfl⟩
   · rw[if_pos hc]
     rw[CutV,if_neg hc]at g
     exact ⟨_,_,_,_,_,_,_,_,_,_,g,sel_intro (fun _=>⟨rfl,rfl⟩) (fun h=>by simp at h)⟩
theorem nd_fits {n:Nd} (hs:Stands n):NdFits n:=by
 obtain ⟨h1,h2,h3⟩:=st_lens hs
 exact ⟨by omega,by omega,by omega⟩
theorem sl_ins (l:List ByteArray) (i:Nat) (x:ByteArray):(sl_ l).take i++D.str x :: (sl_ l).drop i=sl_ (insAt l i x):=by simp[sl_,insAt,List.map_take,List.map_drop]
theorem il_ins (l:List Int) (i:Nat) (x:Int):(il l).take i++D.int .i64 x :: (il l).drop i=il (insAt l i x):=by simp[il,insAt,List.map_take,List.map_drop]
theorem ins_s {i1 i2:Nat} (h12:i1≠i2) (l:List ByteArray) (x:ByteArray) (k:Nat) (hk:k≤l.length) (hl:l.length≤1000) {H:Heap} (h1:H.get i1=some (.row false false 0 9 1 (sl_ l))) (h2:H.get i2=some (.row false false 0 9 1 [.str x])):
  Runs Fs3 87 [.row i1 0,.n (.int .i64 k),.row i2 0] H (.row i1 1) (H.ins i1 (.row false false 1 9 1 (sl_ (insAt l k x)))):=by
 have:=upd_runs fs87 h1 (els':=sl_ (insAt l k x)) (r:=[.n (.int .i64 k),.row i2 0]) (by
  simp only[insL,h2]
  rw[if_pos ⟨h12,trivial,by omega,by rw[sl_len];omega,by rw[sl_len];omega⟩,show Int.toNat (k:Int)=k from rfl,sl_ins])
 exact this
theorem ins_i {i1 i2 v:Nat} (h12:i1≠i2) (l:List Int) (x:Int) (k:Nat) (hk:k≤l.length) (hl:l.length≤1000) {H:Heap} (h1:H.get i1=some (.row false false v 3 1 (il l))) (h2:H.get i2=some (.row false false 0 3 1 [.int .i64 x])):
  Runs Fs3 88 [.row i1 v,.n (.int .i64 k),.row i2 0] H (.row i1 (v+1)) (H.ins i1 (.row false false (v+1) 3 1 (il (insAt l k x)))):=by
 have:=upd_runs fs88 h1 (els':=il (insAt l k x)) (r:=[.n (.int .i64 k),.row i2 0]) (by
  simp only[insL,h2]
  rw[if_pos ⟨h12,trivial,by omega,by rw[il_len];omega,by rw[il_len];omega⟩,show Int.toNat (k:Int)=k from rfl,il_ins])
 exact this
set_option maxHeartbeats 4000000 in
theorem p59 {w0:Wd} (key val:ByteArray):∀(f:Nat) (e:Ed) (v:Nat) (b d:Int),d+f=10→1≤d→1≤f→Inv w0 e →
   Runs Fs3 59 [.ptr 3000305 0,.n (.int .i64 b),.n (.int .i64 d)] (hG key val e v) (splV (putE key val f e b d).1) (hG key val (putE key val f e b d).2 v)
 | 0,e,v,b,d,_,_,h,_=>absurd h (by omega)
 | f+1,e,v,b,d,hd,h1,_,hI=>by
   have c1:=p71 e v hI.right b d
   obtain ⟨l1,l2⟩:=load_inv (b:=b) (d:=d) hI
   refine vc_mut fs59 rfl (by kernel_rfl) ?_
   unfold hG hE hEz
   rw[vc59h,(V59he _ _ _ _ _ _ _ _ _ _ _ _).down]
   refine ⟨_,_,_,_,_,_,_,_,_,_,_,_,c1,sel_intro (fun h => ?_) (fun h => ?_)⟩
   · have hb:(loadE e b d).2.bad≠0:=by simpa using h
     rw[putE]
     dsimp only
     rw[if_pos hb]
     exact ⟨rfl,rfl⟩
   · have hb:(loadE e b d).2.bad=0:=by simpa using h
     obtain ⟨l3,l4,l5,l6⟩:=l2 hb
     have hok:=hold_ok l5
     have hs:=hok.1
     have hfit:=nd_fits hs
     obtain ⟨k1,k2,k3⟩:=st_lens hs
     obtain ⟨d1,d2⟩:=drop_inv l1 hb (by rw[l4];exact l5)
     rw[putE]
     dsimp only
     rw[if_neg (by simpa using hb)]
     have c2:=p72 (loadE e b d).2 v l1.right b
     generalize (loadE e b d).1=n at l5 hok hs hfit k1 k2 k3 ⊢
     generalize (loadE e b d).2=e1 at l1 hb d1 d2 c2 ⊢
     refine ⟨_,_,_,_,_,_,_,_,c2,?_⟩
     generalize dropE e1 b=e2 at d1 d2 ⊢
     refine sel_intro (fun hl => ?_) (fun hl => ?_)
     · rw[if_pos hl]
       obtain ⟨v1,v2⟩:=st_leaf hs hl
       have hsr:=srch_le n.keys key
       refine ⟨_,_,(p64 n key hfit hs).up up3,sel_intro (fun ha => ?_) (fun ha => ?_)⟩
       · have hsl:=at_lt ha
         have c3:=p86 key val e2 v d1 (leafPut n key val) (by
           rw[leafPut,if_pos ha];exact ⟨by dsimp only;omega,by dsimp only;rw[List.length_set];omega,by dsimp only;omega⟩)
         rw[leafPut,if_pos ha,ndV]at c3
         refine ⟨_,_,clone_runs fs70 (sl_ n.vals) (by rw[sl_len];omega),⟨rfl,rfl⟩,by omega,by rw[sl_len];omega,⟨⟨⟨rfl,rfl⟩,rfl⟩,rfl⟩,by rw[sl_len];omega,rfl,?_⟩
         rw[show Int.toNat ((srch n.keys key:Nat):Int)=srch n.keys key from rfl,sl_set,leafPut,if_pos ha]
         exact ⟨_,_,_,_,_,_,_,_,_,_,_,_,_,_,c3,rfl,rfl⟩
       · have c3:=p86 key val e2 v d1 (leafPut n key val) (by
           rw[leafPut,if_neg (by rw[ha];simp)];exact ⟨by dsimp only;rw[insAt_len _ hsr];omega,by dsimp only;rw[insAt_len _ (by omega)];omega,by dsimp only;omega⟩)
         rw[leafPut,if_neg (by rw[ha];simp),ndV]at c3
         rw[leafPut,if_neg (by rw[ha];simp)]
         refine ⟨_,_,clone_runs fs70 (sl_ n.keys) (by rw[sl_len];omega),_,ins_s (by decide) n.keys key (srch n.keys key) hsr (by omega) rfl rfl,_,_,clone_runs fs70 (sl_ n.vals) (by rw[sl_len];omega),_,ins_s (by decide) n.vals val (srch n.keys key) (by omega) (by omega) rfl rfl,rfl,rfl,?_⟩
         exact ⟨_,_,_,_,_,_,_,_,_,_,_,_,_,_,c3,rfl,rfl⟩
     · rw[if_neg (by rw[hl];simp)]
       obtain ⟨v1,v2⟩:=st_inner hs hl
       have hk:=kid_lt hs hl key
       have hki:=kidI_of hs.2.1 key
       have hkle:=kidOf_le n.keys key
       rw[hki]at hk
       have c3:=(p63i n key hfit hs hl).up up3
       rw[hki]at c3
       have hd9:d≤8:=l6
       have ih:=p59 key val f e2 v ((n.kids[kidOf n.keys key]?).getD 0) (d+1) (by omega) (by omega) (by omega) d1
       have pi:=(put_inv (key:=key) (val:=val) f e2 ((n.kids[kidOf n.keys key]?).getD 0) (d+1) d1).1
       generalize hrr:putE key val f e2 ((n.kids[kidOf n.keys key]?).getD 0) (d+1)=r at ih pi ⊢
       rw[List.getElem?_eq_getElem hk]at ih
       obtain ⟨s,e3⟩:=r
       dsimp only at ih pi ⊢
       rw[i64_in (d+1) (by omega)]
       refine ⟨_,c3,rfl,by omega,_,il_at hk,_,rfl,_,_,_,_,_,_,_,_,_,_,_,_,_,_,ih,sel_intro (fun hb3 => ?_) (fun hb3 => ?_)⟩
       · rw[if_pos (by simpa using hb3)]
         exact ⟨rfl,rfl⟩
       · rw[if_neg (by simpa using hb3)]
         refine ⟨_,_,clone_runs fs74 (il n.kids) (by rw[il_len];omega),⟨rfl,rfl⟩,by omega,by rw[il_len];omega,⟨⟨⟨rfl,rfl⟩,rfl⟩,rfl⟩,by rw[il_len];exact hk,?_⟩
         rw[show Int.toNat ((kidOf n.keys key:Nat):Int)=kidOf n.keys key from rfl,il_set]
         refine sel_intro (fun ht => ?_) (fun ht => ?_)
         · have c4:=p86 key val e3 v pi (innerPut n (kidOf n.keys key) s) (by
            rw[innerPut,if_pos ht];exact ⟨by dsimp only;rw[insAt_len _ hkle];omega,by dsimp only;omega,by dsimp only;rw[insAt_len _ (by rw[List.length_set];omega),List.length_set];omega⟩)
           rw[innerPut,if_pos ht,ndV]at c4
           rw[innerPut,if_pos ht]
           rw[i64_in _ (by omega)]
           refine ⟨_,_,clone_runs fs70 (sl_ n.keys) (by rw[sl_len];omega),_,ins_s (by decide) n.keys s.key (kidOf n.keys key) hkle (by omega) rfl rfl,_,ins_i (v:=0) (by decide) (n.kids.set (kidOf n.keys key) s.left) s.right (kidOf n.keys key+1) (by rw[List.length_set];omega) (by rw[List.length_set];omega) rfl rfl,rfl,rfl,?_⟩
           exact ⟨_,_,_,_,_,_,_,_,_,_,_,_,_,_,c4,rfl,rfl⟩
         · have c4:=p86 key val e3 v pi (innerPut n (kidOf n.keys key) s) (by
            rw[innerPut,if_neg (by rw[ht];simp)];exact ⟨by dsimp only;omega,by dsimp only;omega,by dsimp only;rw[List.length_set];omega⟩)
           rw[innerPut,if_neg (by rw[ht];simp),ndV]at c4
           rw[innerPut,if_neg (by rw[ht];simp)]
           exact ⟨rfl,_,_,_,_,_,_,_,_,_,_,_,_,_,_,c4,rfl,rfl⟩
theorem p58 (key val:ByteArray):Runs Fs3 58 [.n (.str key),.n (.str val)] [] (.n (.bool (decide (isPair key val)))) []:=by
 refine vc_eq fs58 rfl ?_
 rw[vc58,(V58e _ _ _).down]
 refine sel_dec (fun h1=>sel_dec (fun h2 => ?_) (fun h2 => ?_)) (fun h1 => ?_)
 · congr 2
   rw[decide_eq_decide,isPair]
   omega
 · rw[decide_eq_false (by unfold isPair;omega)]
 · rw[decide_eq_false (by unfold isPair;omega)]
theorem ff_root (w:Wd) (r:Int) (i:Nat):ffUp { w with root:=r } i=ffUp w i:=by
 induction i with
 | zero=>rfl
 | succ i ih=>
   simp only[ffUp,ih]
   rfl
theorem store_root (e:Ed) (r:Int) (n:Nd):storeE { e with w := { e.w with root:=r } } n=((storeE e n).1,{ (storeE e n).2 with w := { (storeE e n).2.w with root:=r } }):=by
 unfold storeE
 dsimp only
 split
 · rfl
 · split
   · rfl
   · rw[show firstFree { e.w with root:=r } = firstFree e.w from ff_root e.w r _]
     cases firstFree e.w <;> rfl
theorem wr_root {w:Wd} {r:Int} (h:WRight w) (hr:r=0∨(10≤r∧r<w.now.length)):WRight { w with root:=r }:=⟨h.1,h.2.1,h.2.2.1,h.2.2.2.1,hr,h.2.2.2.2.2⟩
theorem p30 (w:Wd) (hf:WFits w) (key val:ByteArray):Runs Fs3 30 [wdV w,.n (.str key),.n (.str val)] [] (wuo (putW w key val)) []:=by
 have g1:=(p48 w hf).up up3
 have g2:=p58 key val
 refine vc_eq fs30 rfl ?_
 rw[wdV,vc30,(V30e _ _ _ _ _ _ _ _).down]
 refine ⟨_,g1,?_⟩
 by_cases hr:WRight w
 · rw[decide_eq_true hr]
   refine sel_intro (fun h=>by cases h) (fun _=>⟨_,g2,?_⟩)
   by_cases hp:isPair key val
   · rw[decide_eq_true hp]
     refine sel_intro (fun h=>by cases h) (fun _ => ?_)
     have hlen:w.pages.length≤100000:=by have:=hr.2.1;have:=hr.1.2.2.1;omega
     have hI:=Inv.start hr
     rw[putW,if_neg (by simpa using ⟨hr,hp⟩)]
     refine ⟨(),_,_,_,_,_,_,_,_,p50 w hlen,sel_intro (fun h0 => ?_) (fun h0 => ?_)⟩
     · have h0:w.root=0:=by simpa using h0
       rw[putR,if_pos h0]
       have c1:=p52 ⟨w,0⟩ 0 (fun _=>hr) ⟨true,[key],[val],[]⟩ ⟨by simp,by simp,by simp⟩
       have c2:=p53 (setRoot (storeE ⟨w,0⟩ ⟨true,[key],[val],[]⟩)) 0
       exact ⟨rfl,rfl,_,_,_,_,_,_,_,_,_,c1,_,_,_,_,_,_,_,_,_,_,_,_,_,_,_,c2,rfl⟩
     · have h0:w.root≠0:=by simpa using h0
       have c1:=p59 key val 9 ⟨w,0⟩ 0 w.root 1 (by omega) (by omega) (by omega) hI
       obtain ⟨q1,q2⟩:=put_inv (key:=key) (val:=val) 9 ⟨w,0⟩ w.root 1 hI
       rw[putR,if_neg h0]
       dsimp only
       generalize putE key val 9 ⟨w,0⟩ w.root 1=r at c1 q1 q2 ⊢
       obtain ⟨s,e1⟩:=r
       dsimp only at c1 q1 q2 ⊢
       refine ⟨_,_,_,_,_,_,_,_,_,_,_,_,_,_,c1,sel_intro (fun ht => ?_) (fun ht => ?_)⟩
       · rw[if_pos ht]
         have hl:(setRoot (s.left,e1)).bad=0→WRight (setRoot (s.left,e1)).w:=fun hb=>wr_root q1.right (.inr (by
          have:=(q2 hb).1
          have h2:=q1.nlen
          unfold Blk at this
          show 10≤s.left∧s.left<(e1.w.now.length:Int)
          omega))
         have c2:=p52 (setRoot (s.left,e1)) 0 hl ⟨false,[s.key],[],[s.left,s.right]⟩ ⟨by simp,by simp,by simp⟩
         have e3:storeE (setRoot (s.left,e1)) ⟨false,[s.key],[],[s.left,s.right]⟩=_:=store_root e1 s.left ⟨false,[s.key],[],[s.left,s.right]⟩
         rw[e3]at c2
         have c3:=p53 (setRoot (storeE e1 ⟨false,[s.key],[],[s.left,s.right]⟩)) 0
         exact ⟨rfl,rfl,_,_,_,_,_,_,_,_,_,c2,_,_,_,_,_,_,_,_,_,_,_,_,_,_,_,c3,rfl⟩
       · rw[if_neg (by rw[ht];simp)]
         have c3:=p53 (setRoot (s.left,e1)) 0
         exact ⟨_,_,_,_,_,_,_,_,_,_,_,_,_,_,_,c3,rfl⟩
   · rw[decide_eq_false hp]
     refine sel_intro (fun _ => ?_) (fun h=>by cases h)
     rw[putW,if_pos (fun h=>hp h.2)];rfl
 · rw[decide_eq_false hr]
   refine sel_intro (fun _ => ?_) (fun h=>by cases h)
   rw[putW,if_pos (fun h=>hr h.1)];rfl
def Shp (n:Nd):Prop:=n.keys.length≤8∧((n.leaf=true∧n.vals.length=n.keys.length∧n.kids=[])∨(n.leaf=false∧n.vals=[]∧n.kids.length=n.keys.length+1))
theorem Shp.lens {n:Nd} (h:Shp n):n.keys.length≤8∧n.vals.length≤8∧n.kids.length≤9:=by
 obtain ⟨h8,⟨_,h1,h2⟩|⟨_,h1,h2⟩⟩:=h
 · rw[h2];exact ⟨h8,by omega,by simp⟩
 · rw[h1];exact ⟨h8,by simp,by omega⟩
theorem Shp.fits {n:Nd} (h:Shp n):NdFits n:=by
 obtain ⟨h1,h2,h3⟩:=h.lens
 exact ⟨by omega,by omega,by omega⟩
theorem Shp.leaf {n:Nd} (h:Shp n) (hl:n.leaf=true):n.vals.length=n.keys.length∧n.kids=[]:=by
 rcases h.2 with ⟨_,h1,h2⟩|⟨h0,_⟩
 · exact ⟨h1,h2⟩
 · rw[hl]at h0;cases h0
def hP (key:ByteArray) (e:Ed) (v:Nat):Heap:=(1700504,.box [.ptr 5000202 0,.n (.str key)]) :: hE e v
def hF (key:ByteArray) (e:Ed) (v:Nat) (fz:Bool) (a b:Nat) (K C:List D):Heap:=(1700504,.box [.ptr 5000202 0,.n (.str key)]) :: (hE e v++[(5151502,.row fz false a 9 1 K),(5151505,.row fz false b 3 1 C)])
theorem putW_right {w:Wd} {key val:ByteArray} (h:(putW w key val).2=0):WRight (putW w key val).1:=by
 by_cases hc:WRight w∧isPair key val
 · rcases putW_any hc.1 hc.2 with (e|e)|⟨x,e,hx,_⟩
   · rw[e]at h;cases h
   · rw[e]at h;cases h
   · rw[e];exact hx
 · rw[putW,if_pos hc]at h;cases h
noncomputable abbrev putP (w:Wd) (p:Pr):Wd×Int:=putW w p.1 p.2
abbrev wT:=List D×(List D×(List D×(Int×(Int×Unit))))
def wdC (w:Wd):wT:=(blD w.base,blD w.now,sl_ w.pages,w.root,w.gen,())
theorem drop_at' {α:Type} {l:List α} {i:Nat} (h:i<l.length):l.drop i=l[i] :: l.drop (i+1):=List.drop_eq_getElem_cons h
theorem p35 (w:Wd) (hf:WFits w) (l:List Pr) (hl:Small l.length):Runs Fs3 35 [wdV w,.o (.sl 2 (psD l))] [] (wuo (allW putP w l)) []:=by
 have g1:=(p48 w hf).up up3
 refine vc_eq fs35 rfl ?_
 rw[wdV,vc35,(V35e _ _ _ _ _ _ _).down,psD_len]
 refine ⟨_,g1,?_⟩
 by_cases hr:WRight w
 · rw[decide_eq_true hr,allW,if_neg (by simpa using hr)]
   refine sel_intro (fun h=>by cases h) (fun _ => ?_)
   refine ⟨fun i q _=>0≤i∧i≤l.length∧∃w',q=wdC w'∧WRight w'∧foldW putP w l=foldW putP w' (l.drop i.toNat),fun i _ _=>(l.length - i).toNat,⟨rfl,by omega,by omega,w,rfl,hr,rfl⟩,?_⟩
   rintro i q z ⟨h0,h1,w',rfl,hr',hq⟩ _
   refine sel_dec (fun hlt => ?_) (fun hge => ?_)
   · have hi:i.toNat<l.length:=by omega
     rw[drop_at' hi,foldW]at hq
     have c:=p30 w' (wr_fits hr') l[i.toNat].1 l[i.toNat].2
     refine ⟨rfl,h0,_,psD_at hi,_,_,rfl,by simp[D.cells],_,_,_,_,_,_,c,sel_intro (fun hb => ?_) (fun hb => ?_)⟩
     · have hb:(putW w' l[i.toNat].1 l[i.toNat].2).2≠0:=by simpa using hb
       rw[hq,if_pos hb];rfl
     · have hb:(putW w' l[i.toNat].1 l[i.toNat].2).2=0:=by simpa using hb
       rw[if_neg (by simpa using hb)]at hq
       repeat (refine And.intro rfl ?_)
       rw[i64_in _ (by omega)]
       refine ⟨⟨by omega,by omega,(putW w' l[i.toNat].1 l[i.toNat].2).1,rfl,putW_right hb,?_⟩,by first|omega|(dsimp only;omega)⟩
       rw[show (i+1).toNat=i.toNat+1 by omega];exact hq
   · rw[List.drop_eq_nil_of_le (by omega),foldW]at hq
     rw[hq];rfl
 · rw[decide_eq_false hr,allW,if_pos hr]
   exact sel_intro (fun _=>rfl) (fun h=>by cases h)
end Go.Proofs.YtclgengkohbjjaaGreatDoor.M
namespace Go.Proofs.YtclgengkohbjjaaGreatDoor.M
set_option linter.unusedVariables false
set_option linter.unusedSimpArgs false
open Go Go.Mir Go.Proofs
@[irreducible] noncomputable def b23:Cmd:=((Tryz.f23.body).bind (trC Tryz.prog [50,1000021] 23 [] [(5,[.keepF 23,.keep 1,.slot 3 (.one (.int .i64)),.keep 10,.slot 11 (.one (.int .i64)),.keepO 2300000])])).getD .skip
noncomputable def c23:FnC:=⟨23,21,[(.tmp 2)],b23,false,[(.agg [(.slo 1),(.slo 1)])],.val (.one (.int .i64)),none,false,[]⟩
theorem is23:IsFn Tryz.prog 23 c23:=⟨⟨_,_,[50,1000021],[],[(5,[.keepF 23,.keep 1,.slot 3 (.one (.int .i64)),.keep 10,.slot 11 (.one (.int .i64)),.keepO 2300000])],Tryz.func23,rfl,(by kernel_rfl),rfl,(by kernel_rfl),(by kernel_rfl)⟩⟩
@[irreducible] noncomputable def b24:Cmd:=((Tryz.f24.body).bind (trC Tryz.prog [50,1000021] 24 [(11,([2,3,4,5],[2401409],[],[])),(12,([2,4,5,117,118,119],[2401409],[],[])),(18,([2,4,5,117,118,119],[2401409],[],[]))] [(4,[.keepF 24,.keep 2,.keep 3,.keep 4,.keep 5,.keep 54,.slot 55 (.one (.int .i64)),.keepO 2400000,.keepO 2400001]),(12,[.keepF 24,.keep 2,.keep 4,.keep 5,.keep 117,.keep 118,.slot 119 (.one (.int .i64)),.keepO 2400000,.keepO 2400001])])).getD .skip
noncomputable def c24:FnC:=⟨24,162,[(.tmp 8)],b24,false,[(.agg [(.slo 1),(.slo 1),(.slo 1),(.int .i64),(.int .i64)]),(.agg [(.slo 1),(.slo 1),(.slo 1),(.int .i64),(.int .i64)]),(.one (.slo 1)),(.one (.slo 1))],.val (.one .bool),none,false,[]⟩
theorem is24:IsFn Tryz.prog 24 c24:=⟨⟨_,_,[50,1000021],[(11,([2,3,4,5],[2401409],[],[])),(12,([2,4,5,117,118,119],[2401409],[],[])),(18,([2,4,5,117,118,119],[2401409],[],[]))],[(4,[.keepF 24,.keep 2,.keep 3,.keep 4,.keep 5,.keep 54,.slot 55 (.one (.int .i64)),.keepO 2400000,.keepO 2400001]),(12,[.keepF 24,.keep 2,.keep 4,.keep 5,.keep 117,.keep 118,.slot 119 (.one (.int .i64)),.keepO 2400000,.keepO 2400001])],Tryz.func24,rfl,(by kernel_rfl),rfl,(by kernel_rfl),(by kernel_rfl)⟩⟩
@[irreducible] noncomputable def b28:Cmd:=((Tryz.f28.body).bind (trC Tryz.prog [50,1000021] 28 [] [])).getD .skip
noncomputable def c28:FnC:=⟨28,14,[(.tmp 2)],b28,false,[(.agg [(.slo 1),(.slo 1),(.slo 1),(.int .i64),(.int .i64)])],.val (.one .bool),none,false,[]⟩
theorem is28:IsFn Tryz.prog 28 c28:=⟨⟨_,_,[50,1000021],[],[],Tryz.func28,rfl,(by kernel_rfl),rfl,(by kernel_rfl),(by kernel_rfl)⟩⟩
@[irreducible] noncomputable def b29:Cmd:=((Tryz.f29.body).bind (trC Tryz.prog [50,1000021] 29 [] [])).getD .skip
noncomputable def c29:FnC:=⟨29,21,[(.tmp 0)],b29,false,[],.val (.one .bool),none,false,[]⟩
theorem is29:IsFn Tryz.prog 29 c29:=⟨⟨_,_,[50,1000021],[],[],Tryz.func29,rfl,(by kernel_rfl),rfl,(by kernel_rfl),(by kernel_rfl)⟩⟩
@[irreducible] noncomputable def b31:Cmd:=((Tryz.f31.body).bind (trC Tryz.prog [50,1000021] 31 [] [])).getD .skip
noncomputable def c31:FnC:=⟨31,18,[(.tmp 4)],b31,false,[(.one .str),(.one .str)],.val (.one .bool),none,false,[]⟩
theorem is31:IsFn Tryz.prog 31 c31:=⟨⟨_,_,[50,1000021],[],[],Tryz.func31,rfl,(by kernel_rfl),rfl,(by kernel_rfl),(by kernel_rfl)⟩⟩
def b32:Cmd:=(.seq (.region [(o 1 (.box 3200000 (T 0))),(o 2 (.mov (.const (.bool false))))]) (.seq (.region [(os 3 (.ld (T 1) (some 5)) (.val (.agg [(.slo 1),(.slo 1),(.slo 1),(.int .i64),(.int .i64)]))),(o 4 (.build [(.n .nil),(.n .nil),(.n .nil),(.n (.int .i64 0)),(.n (.int .i64 0))] [])),(os 5 (.call false 36 [(T 3),(T 4)]) sB),(m 2 5)]) .ret))
noncomputable def c32:FnC:=⟨32,6,[(.tmp 2)],b32,false,[(.agg [(.slo 1),(.slo 1),(.slo 1),(.int .i64),(.int .i64)])],.val (.one .bool),none,false,[]⟩
theorem is32:IsFn Tryz.prog 32 c32:=⟨⟨_,_,[50,1000021],[],[],Tryz.func32,rfl,(by kernel_rfl),rfl,(by kernel_rfl),(by kernel_rfl)⟩⟩
@[irreducible] noncomputable def b33:Cmd:=((Tryz.f33.body).bind (trC Tryz.prog [50,1000021] 33 [(3,([0,1,2,7,8],[3300502,3300704,3300705,3301002,3301003],[],[])),(4,([1,2,7,8,12,13,14],[3300502,3300704,3300705,3301002,3301003],[],[])),(11,([1,2,7,8,12,13,14],[3300502,3300704,3300705,3301002,3301003],[],[]))] [(4,[.keepF 33,.keep 1,.keep 2,.rowIn 7 3300100,.slot 8 (.one .bool),.keep 12,.keep 13,.slot 14 (.one (.int .i64)),.row 3300100 48 2 true])])).getD .skip
noncomputable def c33:FnC:=⟨33,50,[(.tmp 6)],b33,false,[(.one (.slo 2)),(.one .str),(.one .str)],.val (.one (.slo 2)),none,false,[]⟩
theorem is33:IsFn Tryz.prog 33 c33:=⟨⟨_,_,[50,1000021],[(3,([0,1,2,7,8],[3300502,3300704,3300705,3301002,3301003],[],[])),(4,([1,2,7,8,12,13,14],[3300502,3300704,3300705,3301002,3301003],[],[])),(11,([1,2,7,8,12,13,14],[3300502,3300704,3300705,3301002,3301003],[],[]))],[(4,[.keepF 33,.keep 1,.keep 2,.rowIn 7 3300100,.slot 8 (.one .bool),.keep 12,.keep 13,.slot 14 (.one (.int .i64)),.row 3300100 48 2 true])],Tryz.func33,rfl,(by kernel_rfl),rfl,(by kernel_rfl),(by kernel_rfl)⟩⟩
@[irreducible] noncomputable def b34:Cmd:=((Tryz.f34.body).bind (trC Tryz.prog [50,1000021] 34 [] [])).getD .skip
noncomputable def c34:FnC:=⟨34,11,[(.cell 2 (some 5))],b34,false,[(.one (.int .i64))],.val (.agg [(.slo 1),(.slo 1),(.slo 1),(.int .i64),(.int .i64)]),none,false,[]⟩
theorem is34:IsFn Tryz.prog 34 c34:=⟨⟨_,_,[50,1000021],[],[],Tryz.func34,rfl,(by kernel_rfl),rfl,(by kernel_rfl),(by kernel_rfl)⟩⟩
@[irreducible] noncomputable def b36:Cmd:=((Tryz.f36.body).bind (trC Tryz.prog [50,1000021] 36 [] [(4,[.keepF 36,.keep 2,.keep 3,.keep 47,.slot 48 (.one (.int .i64)),.keepO 3600000,.keepO 3600001])])).getD .skip
noncomputable def c36:FnC:=⟨36,63,[(.tmp 4)],b36,false,[(.agg [(.slo 1),(.slo 1),(.slo 1),(.int .i64),(.int .i64)]),(.agg [(.slo 1),(.slo 1),(.slo 1),(.int .i64),(.int .i64)])],.val (.one .bool),none,false,[]⟩
theorem is36:IsFn Tryz.prog 36 c36:=⟨⟨_,_,[50,1000021],[],[(4,[.keepF 36,.keep 2,.keep 3,.keep 47,.slot 48 (.one (.int .i64)),.keepO 3600000,.keepO 3600001])],Tryz.func36,rfl,(by kernel_rfl),rfl,(by kernel_rfl),(by kernel_rfl)⟩⟩
@[irreducible] noncomputable def b37:Cmd:=((Tryz.f37.body).bind (trC Tryz.prog [50,1000021] 37 [] [])).getD .skip
noncomputable def c37:FnC:=⟨37,30,[(.tmp 4)],b37,false,[(.one (.int .i64))],.val (.one .bool),none,false,[]⟩
theorem is37:IsFn Tryz.prog 37 c37:=⟨⟨_,_,[50,1000021],[],[],Tryz.func37,rfl,(by kernel_rfl),rfl,(by kernel_rfl),(by kernel_rfl)⟩⟩
@[irreducible] noncomputable def b56:Cmd:=((Tryz.f56.body).bind (trC Tryz.prog [50,1000021] 56 [] [])).getD .skip
noncomputable def c56:FnC:=⟨56,30,[(.tmp 4)],b56,false,[(.agg [(.slo 1),(.slo 1)]),(.one (.int .i64))],.val (.one .bool),none,false,[]⟩
theorem is56:IsFn Tryz.prog 56 c56:=⟨⟨_,_,[50,1000021],[],[],Tryz.func56,rfl,(by kernel_rfl),rfl,(by kernel_rfl),(by kernel_rfl)⟩⟩
@[irreducible] noncomputable def b61:Cmd:=((Tryz.f61.body).bind (trC Tryz.prog [50,1000021] 61 [] [])).getD .skip
noncomputable def c61:FnC:=⟨61,17,[(.tmp 4)],b61,false,[(.agg [(.slo 1),(.slo 1)]),(.agg [(.slo 1),(.slo 1)])],.val (.one .bool),none,false,[]⟩
theorem is61:IsFn Tryz.prog 61 c61:=⟨⟨_,_,[50,1000021],[],[],Tryz.func61,rfl,(by kernel_rfl),rfl,(by kernel_rfl),(by kernel_rfl)⟩⟩
@[irreducible] noncomputable def b89:Cmd:=((Tryz.f89.body).bind (trC Tryz.prog [50,1000021] 89 [] [(4,[.keepF 89,.keep 0,.keep 1,.keep 12,.slot 13 (.one (.int .i64))])])).getD .skip
noncomputable def c89:FnC:=⟨89,26,[(.tmp 4)],b89,false,[(.one (.slo 1)),(.one (.slo 1))],.val (.one .bool),none,false,[]⟩
theorem is89:IsFn Tryz.prog 89 c89:=⟨⟨_,_,[50,1000021],[],[(4,[.keepF 89,.keep 0,.keep 1,.keep 12,.slot 13 (.one (.int .i64))])],Tryz.func89,rfl,(by kernel_rfl),rfl,(by kernel_rfl),(by kernel_rfl)⟩⟩
@[irreducible] noncomputable def b5:Cmd:=((Tryz.f5.body).bind (trC Tryz.prog [50,1000021] 5 [] [])).getD .skip
noncomputable def c5:FnC:=⟨5,145,[(.tmp 6)],b5,false,[(.agg [(.slo 1),(.slo 1),(.slo 1),(.int .i64),(.int .i64)]),(.one .str),(.one .str)],.val (.one .bool),none,false,[]⟩
theorem is5:IsFn Tryz.prog 5 c5:=⟨⟨_,_,[50,1000021],[],[],Tryz.func5,rfl,(by kernel_rfl),rfl,(by kernel_rfl),(by kernel_rfl)⟩⟩
@[irreducible] noncomputable def b6:Cmd:=((Tryz.f6.body).bind (trC Tryz.prog [50,1000021] 6 [(3,([1,5,6],[600503,600709],[],[6])),(4,([5,6,15,16,17],[600503,600709],[],[])),(14,([5,6,15,16,17],[600503,600709],[],[]))] [(4,[.keepF 6,.keep 5,.slot 6 (.one (.slo 2)),.keep 15,.keep 16,.slot 17 (.one (.int .i64)),.box 600102 [(.slo 1),(.slo 1),(.slo 1),(.int .i64),(.int .i64)]])])).getD .skip
noncomputable def c6:FnC:=⟨6,113,[(.tmp 4)],b6,false,[(.one (.int .i64)),(.one (.slo 2))],.val (.one .bool),none,false,[]⟩
theorem is6:IsFn Tryz.prog 6 c6:=⟨⟨_,_,[50,1000021],[(3,([1,5,6],[600503,600709],[],[6])),(4,([5,6,15,16,17],[600503,600709],[],[])),(14,([5,6,15,16,17],[600503,600709],[],[]))],[(4,[.keepF 6,.keep 5,.slot 6 (.one (.slo 2)),.keep 15,.keep 16,.slot 17 (.one (.int .i64)),.box 600102 [(.slo 1),(.slo 1),(.slo 1),(.int .i64),(.int .i64)]])],Tryz.func6,rfl,(by kernel_rfl),rfl,(by kernel_rfl),(by kernel_rfl)⟩⟩
@[irreducible] noncomputable def b7:Cmd:=((Tryz.f7.body).bind (trC Tryz.prog [50,1000021] 7 [(2,([1,2,7],[700403,700509],[],[])),(3,([2,7,23,24,25],[700403,700509],[],[])),(8,([2,7,23,24,25],[700403,700509],[],[])),(10,([2,7],[],[],[10044806528])),(12,([2,7,12,13,14],[701403,701509],[],[])),(13,([7,12,13,14,65,66,67],[701403,701509],[],[])),(18,([7,12,13,14,65,66,67],[701403,701509],[],[]))] [(3,[.keepF 7,.keep 2,.keep 7,.keep 23,.keep 24,.slot 25 (.one (.int .i64)),.box 700102 [(.slo 1),(.slo 1),(.slo 1),(.int .i64),(.int .i64)]]),(13,[.keepF 7,.keep 7,.keep 12,.keep 13,.keep 14,.keep 65,.keep 66,.slot 67 (.one (.int .i64)),.box 700102 [(.slo 1),(.slo 1),(.slo 1),(.int .i64),(.int .i64)],.keepO 700900,.keepO 751006,.keepO 761006,.keepO 771006])])).getD .skip
noncomputable def c7:FnC:=⟨7,126,[(.tmp 6)],b7,false,[(.one (.int .i64)),(.one (.slo 2)),(.one (.slo 2))],.val (.one .bool),none,false,[]⟩
theorem is7:IsFn Tryz.prog 7 c7:=⟨⟨_,_,[50,1000021],[(2,([1,2,7],[700403,700509],[],[])),(3,([2,7,23,24,25],[700403,700509],[],[])),(8,([2,7,23,24,25],[700403,700509],[],[])),(10,([2,7],[],[],[10044806528])),(12,([2,7,12,13,14],[701403,701509],[],[])),(13,([7,12,13,14,65,66,67],[701403,701509],[],[])),(18,([7,12,13,14,65,66,67],[701403,701509],[],[]))],[(3,[.keepF 7,.keep 2,.keep 7,.keep 23,.keep 24,.slot 25 (.one (.int .i64)),.box 700102 [(.slo 1),(.slo 1),(.slo 1),(.int .i64),(.int .i64)]]),(13,[.keepF 7,.keep 7,.keep 12,.keep 13,.keep 14,.keep 65,.keep 66,.slot 67 (.one (.int .i64)),.box 700102 [(.slo 1),(.slo 1),(.slo 1),(.int .i64),(.int .i64)],.keepO 700900,.keepO 751006,.keepO 761006,.keepO 771006])],Tryz.func7,rfl,(by kernel_rfl),rfl,(by kernel_rfl),(by kernel_rfl)⟩⟩
@[irreducible] noncomputable def b9:Cmd:=((Tryz.f9.body).bind (trC Tryz.prog [50,1000021] 9 [] [])).getD .skip
noncomputable def c9:FnC:=⟨9,128,[(.tmp 6)],b9,false,[(.agg [(.slo 1),(.slo 1),(.slo 1),(.int .i64),(.int .i64)]),(.agg [.str,.str]),(.agg [.str,.str])],.val (.one .bool),none,false,[]⟩
theorem is9:IsFn Tryz.prog 9 c9:=⟨⟨_,_,[50,1000021],[],[],Tryz.func9,rfl,(by kernel_rfl),rfl,(by kernel_rfl),(by kernel_rfl)⟩⟩
@[irreducible] noncomputable def b10:Cmd:=((Tryz.f10.body).bind (trC Tryz.prog [50,1000021] 10 [] [])).getD .skip
noncomputable def c10:FnC:=⟨10,96,[(.tmp 8)],b10,false,[(.agg [(.slo 1),(.slo 1),(.slo 1),(.int .i64),(.int .i64)]),(.one .str),(.one .str),(.one .str)],.val (.one .bool),none,false,[]⟩
theorem is10:IsFn Tryz.prog 10 c10:=⟨⟨_,_,[50,1000021],[],[],Tryz.func10,rfl,(by kernel_rfl),rfl,(by kernel_rfl),(by kernel_rfl)⟩⟩
noncomputable def own4:List (Nat×Fun):=[(23,.code c23),(24,.code c24),(28,.code c28),(29,.code c29),(31,.code c31),(32,.code c32),(33,.code c33),(34,.code c34),(36,.code c36),(37,.code c37),(56,.code c56),(61,.code c61),(89,.code c89),(5,.code c5),(6,.code c6),(7,.code c7),(9,.code c9),(10,.code c10)]
noncomputable def funs4:List (Nat×Fun):=own4++funs3
noncomputable def Fs4:Nat→Option Fun:=table funs4
set_option maxRecDepth 100000 in
theorem company4:Company Tryz.prog Fs4:=
 .cons is23 <| .cons is24 <| .cons is28 <| .cons is29 <| .cons is31 <| .cons is32 <| .cons is33 <| .cons is34 <| .cons is36 <| .cons is37 <| .cons is56 <| .cons is61 <| .cons is89 <| .cons is5 <| .cons is6 <| .cons is7 <| .cons is9 <| .cons is10 <| company3
theorem up4:FsLe Fs3 Fs4:=table_up (by kernel_rfl)
theorem fs23:Fs4 23=some (.code c23):=rfl
theorem fs24:Fs4 24=some (.code c24):=rfl
theorem fs28:Fs4 28=some (.code c28):=rfl
theorem fs29:Fs4 29=some (.code c29):=rfl
theorem fs31:Fs4 31=some (.code c31):=rfl
theorem fs32:Fs4 32=some (.code c32):=rfl
theorem fs33:Fs4 33=some (.code c33):=rfl
theorem fs34:Fs4 34=some (.code c34):=rfl
theorem fs36:Fs4 36=some (.code c36):=rfl
theorem fs37:Fs4 37=some (.code c37):=rfl
theorem fs56:Fs4 56=some (.code c56):=rfl
theorem fs61:Fs4 61=some (.code c61):=rfl
theorem fs89:Fs4 89=some (.code c89):=rfl
theorem fs5:Fs4 5=some (.code c5):=rfl
theorem fs6:Fs4 6=some (.code c6):=rfl
theorem fs7:Fs4 7=some (.code c7):=rfl
theorem fs9:Fs4 9=some (.code c9):=rfl
theorem fs10:Fs4 10=some (.code c10):=rfl
end Go.Proofs.YtclgengkohbjjaaGreatDoor.M
