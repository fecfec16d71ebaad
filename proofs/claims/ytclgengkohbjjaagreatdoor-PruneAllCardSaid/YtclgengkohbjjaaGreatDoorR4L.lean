import Derived.Test.YtclgengkohbjjaaGreatDoorR4Base
import Derived.Test.YtclgengkohbjjaaGreatDoorR4FunB
import Derived.Test.YtclgengkohbjjaaGreatDoorProg
import Derived.Test.YtclgengkohbjjaaGreatDoorMirI
import Derived.Test.YtclgengkohbjjaaGreatDoorMirL
import Derived.KernelRfl
import Derived.Test.YtclgengkohbjjaaGreatDoorMirM
namespace Go.Proofs.YtclgengkohbjjaaGreatDoor.M
set_option linter.unusedVariables false
set_option linter.unusedSimpArgs false
open Go Go.Mir
set_option linter.unusedVariables false
theorem getR_three (s:ByteArray) (at_ k:Int):∃a b c,GetR s at_ k = .tup [.n (.int .i64 a),.n (.int .i64 b),.n (.int .i64 c)]:=by
 unfold GetR
 split
 · exact ⟨_,_,_,rfl⟩
 · split <;> exact ⟨_,_,_,rfl⟩
def CutR (s:ByteArray) (at_:Int):AV:=
 if at_<0∨(s.size:Int)<at_ then .tup [.n (.str (ByteArray.mk (List.toArray []))),.n (.int .i64 0),.n (.int .i64 1)]
 else if (s.size:Int) - at_<2 then .tup [.n (.str (ByteArray.mk (List.toArray []))),.n (.int .i64 0),.n (.int .i64 3)]
 else if (s.size:Int) - (at_+2)<num (piece s at_ 2) then .tup [.n (.str (ByteArray.mk (List.toArray []))),.n (.int .i64 0),.n (.int .i64 3)]
 else .tup [.n (.str (s.extract (at_+2).toNat (at_+2+num (piece s at_ 2)).toNat)),.n (.int .i64 (at_+2+num (piece s at_ 2))),.n (.int .i64 0)]
theorem cutR_three (s:ByteArray) (at_:Int):∃a b c,CutR s at_ = .tup [.n (.str a),.n (.int .i64 b),.n (.int .i64 c)]:=by
 unfold CutR
 split
 · exact ⟨_,_,_,rfl⟩
 · split
   · exact ⟨_,_,_,rfl⟩
   · split <;> exact ⟨_,_,_,rfl⟩
theorem cut_law (s:ByteArray) (hs:(s.size:Int)≤9223372036854775807) (at_:Int) (G:Int→Int→Int→Prop) (hG:∀a b c,GetR s at_ 2 = .tup [.n (.int .i64 a),.n (.int .i64 b),.n (.int .i64 c)]→G a b c):
   ∃x0 x1 x2:Int,G x0 x1 x2 ∧
    (sel (x2 != 0)
     (Mir.AV.tup [(Mir.AV.n (Mir.D.str (ByteArray.mk (List.toArray [])))),(Mir.AV.n (Mir.D.int .i64 0)),(Mir.AV.n (Mir.D.int .i64 x2))]=CutR s at_)
     (sel (decide ((Go.IntKind.wrap .i64 ((((ByteArray.size s):Nat):Int) - x1))<x0))
      (Mir.AV.tup [(Mir.AV.n (Mir.D.str (ByteArray.mk (List.toArray [])))),(Mir.AV.n (Mir.D.int .i64 0)),(Mir.AV.n (Mir.D.int .i64 3))]=CutR s at_)
      (((0:Int)≤(Go.IntKind.wrap .i64 (x1+x0))) ∧
       ((((Go.IntKind.wrap .i64 (x1+x0)):Int)≤(((ByteArray.size s):Nat):Int)) ∧
        (((0:Int)≤x1) ∧
         (((x1:Int)≤(((Int.toNat (Go.IntKind.wrap .i64 (x1+x0))):Nat):Int)) ∧
          (Mir.AV.tup [(Mir.AV.n (Mir.D.str (ByteArray.extract s (Int.toNat x1) (Int.toNat (Go.IntKind.wrap .i64 (x1+x0)))))),(Mir.AV.n (Mir.D.int .i64 (Go.IntKind.wrap .i64 (x1+x0)))),(Mir.AV.n (Mir.D.int .i64 0))]=CutR s at_))))))):=by
 by_cases h:at_<0∨(s.size:Int)<at_
 · refine ⟨_,_,_,hG _ _ _ (getR_bad (by omega)),sel_intro (fun _ => ?_) (fun h=>by cases h)⟩
   unfold CutR;rw[if_pos h]
 · by_cases h2:(s.size:Int) - at_<2
   · refine ⟨_,_,_,hG _ _ _ (getR_short (by omega) h2),sel_intro (fun _ => ?_) (fun h=>by cases h)⟩
     unfold CutR;rw[if_neg h,if_pos h2]
   · have hn:=num_le (l:=piece s at_ 2) (by have:=piece_len s at_ 2;omega)
     refine ⟨_,_,_,hG _ _ _ (getR_good (by omega) h2),sel_intro (fun h=>by cases h) (fun _ => ?_)⟩
     rw[i64_in _ (by omega)]
     refine sel_dec (fun h3 => ?_) (fun h3 => ?_)
     · unfold CutR;rw[if_neg h,if_neg h2,if_pos h3]
     · rw[i64_in _ (by omega)]
       refine ⟨by omega,by omega,by omega,by omega,?_⟩
       unfold CutR;rw[if_neg h,if_neg h2,if_neg h3]
theorem p155 (s:ByteArray) (hs:(s.size:Int)≤9223372036854775807) (at_:Int):Runs Fs 155 [.n (.str s),.n (.int .i64 at_)] [] (CutR s at_) []:=by
 refine vc_eq fs155 rfl ?_
 rewrite[vc155,(V155e _ _ _).down]
 exact cut_law s hs at_ _ fun a b c h=>h▸(p152 s hs at_ 2)
theorem p146 (s:ByteArray) (hs:(s.size:Int)≤9223372036854775807) (at_:Int):Runs Fs 146 [.n (.str s),.n (.int .i64 at_)] [] (CutR s at_) []:=by
 refine vc_eq fs146 rfl ?_
 rewrite[vc146,(V146e _ _ _).down]
 exact cut_law s hs at_ _ fun a b c h=>h▸(p83 s hs at_ 2)
theorem cut_back (s a c:ByteArray) (hs:(s.size:Int)≤65535):CutR (cat [a,TextOf s,c]) a.size = .tup [.n (.str s),.n (.int .i64 (a.size+2+s.size)),.n (.int .i64 0)]:=by
 have hz:((cat [a,TextOf s,c]).size:Int)=a.size+2+s.size+c.size:=by rw[cat3_size,textOf_size];omega
 have hnum:num (piece (cat [a,TextOf s,c]) a.size 2)=s.size:=by
  rw[piece_cat _ _ _ _ (by rw[textOf_size];omega),textOf_data,List.take_append_of_le_length (by rw[beB_length];decide),List.take_of_length_le (by rw[beB_length];decide),num_beB]
  omega
 unfold CutR
 rw[if_neg (by omega),if_neg (by omega),hnum,if_neg (by omega)]
 congr 3
 congr 2
 refine bytes_ext ?_
 rw[ext_data,cat3,textOf_data]
 have e1:((a.size:Int)+2+s.size).toNat=a.data.toList.length+(2+s.data.toList.length):=by simp only[size_list];omega
 have e2:((a.size:Int)+2).toNat=a.data.toList.length+2:=by simp only[size_list];omega
 have hb:=beB_length s.size 2
 rw[e1,e2,←List.drop_drop,List.take_length_add_append,List.drop_left,List.take_append_of_le_length (by simp[hb]),List.take_of_length_le (by simp[hb])]
 generalize beB s.size 2=l at hb
 rw[←hb,List.drop_left]
theorem piece_mid {f:ByteArray} {A B C:List UInt8} {at_ k:Int} (h:f.data.toList=A++(B++C)) (ha:A.length=at_.toNat) (hb:B.length=k.toNat):piece f at_ k=B:=by
 unfold piece
 rw[h,←ha,List.drop_left,←hb,List.take_left]
theorem ext_pre {f:ByteArray} {t:ByteArray} {C:List UInt8} {n:Nat} (h:f.data.toList=t.data.toList++C) (hn:n=t.size):f.extract 0 n=t:=by
 refine bytes_ext ?_
 rw[ext_data,h,hn,←size_list,List.take_left,List.drop_zero]
theorem ext_mid {f:ByteArray} {A C:List UInt8} {b:ByteArray} {i j:Nat} (h:f.data.toList=A++(b.data.toList++C)) (hi:i=A.length) (hj:j=A.length+b.size):f.extract i j=b:=by
 refine bytes_ext ?_
 rw[ext_data,h,hi,hj,←size_list,List.take_length_add_append,List.take_left,List.drop_left]
theorem pageB_data (k g:Int) (b:ByteArray):(PageB k g b).data.toList=beB k 1++(beB g 6++(beB b.size 2++b.data.toList)):=by
 unfold PageB
 rw[cat3,strOf_data,strOf_data,be_bytes,be_bytes,textOf_data]
theorem sealS_data (t:ByteArray):∃c:List UInt8,c.length=4∧(SealS t).data.toList=t.data.toList++c:=by
 refine ⟨(le4 (tv (crc t))).map Mir.byteOf,by simp[le4],?_⟩
 unfold SealS
 rw[cat_data]
 simp[strOf_data]
theorem F_data {s:ByteArray}:(F s).data.toList=s.data.toList++List.replicate (4096 - s.size) 0:=by
 unfold F;rw[padB_data]
theorem F_trim {s t:ByteArray} (hs:s.size≤4096) (ht:t.size≤4096) (h:TrimS s=TrimS t):F s=F t:=by
 have e:tz s.data.toList=tz t.data.toList:=by rw[←trimS_data,←trimS_data,h]
 refine bytes_ext ?_
 rw[F_data,F_data]
 obtain ⟨m,h1,_⟩:=tz_split _ s.data.toList rfl
 obtain ⟨n,h2,_⟩:=tz_split _ t.data.toList rfl
 have l1:=congrArg List.length h1
 have l2:=congrArg List.length h2
 rw[List.length_append,List.length_replicate,size_list]at l1 l2
 rw[h1,h2,e,List.append_assoc,List.append_assoc,List.replicate_append_replicate,List.replicate_append_replicate]
 rw[e]at l1
 congr 2
 omega
theorem get_back' (k g:Int) (b s:ByteArray) (h:pgOK k g b) (hs:s.size≤4096) (ht:TrimS s=PageS k g b):GetPR s = .tup [pg k g b,.n (.int .i64 0)]:=by
 obtain ⟨k1,k5,g0,g1,hb⟩:=id h
 have hT:(SealS (PageB k g b)).size=13+b.size:=by rw[sealS_size,pageB_size];omega
 have hF:F s=F (SealS (PageB k g b)):=F_trim hs (by rw[hT];omega) (by rw[ht];rfl)
 obtain ⟨c,hc,hS⟩:=sealS_data (PageB k g b)
 have hd:(F s).data.toList=(SealS (PageB k g b)).data.toList++List.replicate (4096 - (13+b.size)) 0:=by rw[hF,F_data,hT]
 have hd2:(F s).data.toList=beB k 1++(beB g 6++(beB b.size 2++(b.data.toList++(c++List.replicate (4096 - (13+b.size)) 0)))):=by
  rw[hd,hS,pageB_data];simp only[List.append_assoc]
 have q0:piece (F s) 0 1=beB k 1:=piece_mid (A:=[]) hd2 rfl (beB_length _ _)
 have q1:piece (F s) 1 6=beB g 6:=piece_mid (A:=beB k 1) hd2 (beB_length _ _) (beB_length _ _)
 have q7:piece (F s) 7 2=beB b.size 2:=piece_mid (A:=beB k 1++beB g 6) (B:=beB b.size 2) (by rw[hd2];simp only[List.append_assoc];rfl) (by simp[beB_length]) (beB_length _ _)
 have n0:num (piece (F s) 0 1)=k:=by rw[q0,num_beB];show k % 256=k;omega
 have n1:num (piece (F s) 1 6)=g:=by rw[q1,num_beB];show g % 281474976710656=g;omega
 have n7:nOf (F s)=b.size:=by
  unfold nOf
  rw[q7,num_beB]
  show ((b.size:Int) % 65536).toNat=b.size
  omega
 have x0:(F s).extract 0 (9+b.size)=PageB k g b:=ext_pre (C:=c++List.replicate (4096 - (13+b.size)) 0) (by rw[hd,hS,List.append_assoc]) (by rw[pageB_size])
 have x1:(F s).extract 0 (13+b.size)=SealS (PageB k g b):=ext_pre hd hT.symm
 have x2:(F s).extract 9 (9+b.size)=b:=ext_mid (A:=beB k 1++(beB g 6++beB b.size 2)) (C:=c++List.replicate (4096 - (13+b.size)) 0) (by rw[hd2];simp only[List.append_assoc]) (by simp[beB_length]) (by simp[beB_length])
 have x3:TrimS ((F s).extract (13+b.size) 4096)=ByteArray.mk (List.toArray []):=by
  refine bytes_ext ?_
  rw[trimS_data,ext_data,hd,List.take_of_length_le (by rw[List.length_append,size_list,hT,List.length_replicate];omega),←hT,←size_list,List.drop_left]
  have:=tz_zeros [] (4096 - (SealS (PageB k g b)).data.toList.length)
  simpa[tz_nil] using this
 unfold GetPR
 rw[n7,n0,n1,x0,x1,x2,x3,if_neg (by omega),if_neg (by omega),if_neg (by simp),if_neg (by omega),if_neg (by simpa using h),if_neg (by simp)]
theorem pageS_size (k g:Int) (b:ByteArray) (h:pgOK k g b):(PageS k g b).size≤4013:=by
 have:=trimS_size (SealS (PageB k g b))
 rw[sealS_size,pageB_size]at this
 have:=h.2.2.2.2
 unfold PageS
 omega
theorem p154 (ks:List Int) (hl:ks.length≤9223372036854775807) (k:Int):∃i,Runs Fs 154 [.o (.sl 1 (ks.map (Mir.D.int .i64))),.n (.int .i64 k)] [] (.n (.int .i64 i)) []∧(0≤i ↔ k∈ks):=by
 have hvc:Vc Fs c154.body (argsQ c154 [.o (.sl 1 (ks.map (Mir.D.int .i64))),.n (.int .i64 k)]) [] (endQ c154 fun r=>∃i,r = .n (.int .i64 i)∧(0≤i ↔ k∈ks)):=by
  rewrite[vc154,(V154e _ _ _).down]
  refine ⟨fun l v n i=>l=ks.map (Mir.D.int .i64)∧v=k∧n=ks.length∧0≤i∧i≤ks.length∧k∉ks.take i.toNat,fun l v n i=>(n - i).toNat,⟨rfl,rfl,rfl,by simp,by omega,by omega,by simp⟩,?_⟩
  rintro l v n i ⟨rfl,rfl,rfl,h0,h1,hno⟩ j
  refine sel_dec (fun h => ?_) (fun h => ?_)
  · have hlt:i.toNat<ks.length:=by omega
    refine ⟨rfl,h0,.int .i64 ks[i.toNat],by rw[List.getElem?_map,List.getElem?_eq_getElem hlt];rfl,_,rfl,sel_intro (fun he => ?_) (fun he => ?_)⟩
    · have:v=ks[i.toNat]:=by simpa using he
      exact ⟨i,rfl,fun _=>by rw[this];exact List.getElem_mem hlt,fun _=>h0⟩
    · have:v≠ks[i.toNat]:=by simpa using he
      rw[i64_in (i+1) (by omega)]
      refine ⟨rfl,⟨rfl,rfl,rfl,by omega,by omega,?_⟩,by dsimp only;omega⟩
      rw[show (i+1).toNat=i.toNat+1 by omega,List.take_add_one,List.getElem?_eq_getElem hlt]
      intro hm
      rcases List.mem_append.1 hm with hm|hm
      · exact hno hm
      · exact this (by simpa using hm)
  · refine ⟨-1,rfl,fun h=>by omega,fun hm => ?_⟩
    rw[show i.toNat=ks.length by omega,List.take_length]at hno
    exact absurd hm hno
 obtain ⟨r,hr,i,rfl,hi⟩:=vc_runs fs154 rfl hvc
 exact ⟨i,hr,hi⟩
theorem p124 (ks:List Int) (hl:ks.length≤9223372036854775807) (k:Int):Runs Fs 124 [.o (.sl 1 (ks.map (Mir.D.int .i64))),.n (.int .i64 k)] [] (.n (.bool (decide (k∈ks)))) []:=by
 refine vc_eq fs124 rfl ?_
 rw[vc124]
 obtain ⟨i,hr,hi⟩:=p154 ks hl k
 exact ⟨_,hr,congrArg (fun z=>AV.n (Mir.D.bool z)) (decide_eq_decide.2 hi)⟩
theorem p90_err (s:ByteArray) (hs:(s.size:Int)≤9223372036854775807) (ks:List Int) (e:Int) (he:e≠0) (h:GetPR s=pErr e):Runs Fs 90 [.n (.str s),.o (.sl 1 (ks.map (Mir.D.int .i64)))] [] (pErr e) []:=by
 refine vc_eq fs90 rfl ?_
 rewrite[vc90,(V90e _ _ _).down]
 have g:=p123 s hs
 rw[h]at g
 exact ⟨_,_,_,_,g,sel_intro (fun _=>rfl) (fun h=>absurd (by simpa using h) he)⟩
theorem p90_ok (s:ByteArray) (hs:(s.size:Int)≤9223372036854775807) (ks:List Int) (hl:ks.length≤9223372036854775807) (k g:Int) (b:ByteArray) (h:GetPR s = .tup [pg k g b,.n (.int .i64 0)]):Runs Fs 90 [.n (.str s),.o (.sl 1 (ks.map (Mir.D.int .i64)))] [] (if k∈ks then .tup [pg k g b,.n (.int .i64 0)] else pErr 40) []:=by
 refine vc_eq fs90 rfl ?_
 rewrite[vc90,(V90e _ _ _).down]
 have h21:=p123 s hs
 rw[h]at h21
 refine ⟨_,_,_,_,h21,sel_intro (fun h=>by cases h) (fun _=>⟨_,p124 ks hl k,?_⟩)⟩
 by_cases hk:k∈ks
 · rw[decide_eq_true hk,if_pos hk]
   exact sel_intro (fun h=>by cases h) (fun _=>rfl)
 · rw[decide_eq_false hk,if_neg hk]
   exact sel_intro (fun _=>rfl) (fun h=>by cases h)
def empS:ByteArray:=ByteArray.mk (List.toArray [])
def g3:AV→Int×Int×Int
 | .tup [.n (.int _ a),.n (.int _ b),.n (.int _ c)]=>(a,b,c)
 | _=>(0,0,0)
def c3T:AV→ByteArray×Int×Int
 | .tup [.n (.str a),.n (.int _ b),.n (.int _ c)]=>(a,b,c)
 | _=>(empS,0,0)
def gT (s:ByteArray) (a k:Int):Int×Int×Int:=g3 (GetR s a k)
def cT (s:ByteArray) (a:Int):ByteArray×Int×Int:=c3T (CutR s a)
theorem gT_eq (s:ByteArray) (a k:Int):GetR s a k = .tup [.n (.int .i64 (gT s a k).1),.n (.int .i64 (gT s a k).2.1),.n (.int .i64 (gT s a k).2.2)]:=by
 obtain ⟨x,y,z,h⟩:=getR_three s a k
 rw[gT,h];rfl
theorem cT_eq (s:ByteArray) (a:Int):CutR s a = .tup [.n (.str (cT s a).1),.n (.int .i64 (cT s a).2.1),.n (.int .i64 (cT s a).2.2)]:=by
 obtain ⟨x,y,z,h⟩:=cutR_three s a
 rw[cT,h];rfl
theorem gT_byte (s:ByteArray) (a:Int):0≤(gT s a 1).1∧(gT s a 1).1≤255:=by
 by_cases h1:(1:Int)<1∨(6:Int)<1∨a<0∨(s.size:Int)<a
 · rw[gT,getR_bad h1];exact ⟨by decide,by decide⟩
 · by_cases h2:(s.size:Int) - a<1
   · rw[gT,getR_short h1 h2];exact ⟨by decide,by decide⟩
   · rw[gT,getR_good h1 h2]
     have h3:=num_bound (piece s a 1)
     have h4:=piece_len s a 1
     have h5:(256:Int) ^ (piece s a 1).length≤256:=by
      have:(piece s a 1).length=0∨(piece s a 1).length=1:=by have:(1:Int).toNat=1:=rfl;omega
      rcases this with h|h <;> rw[h] <;> decide
     exact ⟨h3.1,by show num (piece s a 1)≤255;omega⟩
def nx (s:ByteArray) (n e:Int):Int×Int×Int:=if e≠0 then (0,n,e) else gT s n 1
def tx (s:ByteArray) (n e:Int):ByteArray×Int×Int:=if e≠0 then (empS,n,e) else cT s n
def sl_ (l:List ByteArray):List D:=l.map D.str
theorem sl_len (l:List ByteArray):(sl_ l).length=l.length:=by simp[sl_]
theorem sl_at {l:List ByteArray} {i:Nat} (h:i<l.length):(sl_ l)[i]?=some (D.str l[i]):=by simp[sl_,h]
theorem take_snoc {α:Type} {l:List α} {i:Nat} (h:i<l.length):l.take (i+1)=l.take i++[l[i]]:=by
 rw[List.take_add_one,List.getElem?_eq_getElem h];rfl
theorem sl_snoc (l:List ByteArray) (x:ByteArray):sl_ l++[D.str x]=sl_ (l++[x]):=by simp[sl_]
theorem u64_in (n:Int) (h:0≤n∧n≤18446744073709551615):IntKind.u64.wrap n=n:=by
 show n % 18446744073709551616=n
 omega
end Go.Proofs.YtclgengkohbjjaaGreatDoor.M
namespace Go.Proofs.YtclgengkohbjjaaGreatDoor.M
set_option linter.unusedVariables false
set_option linter.unusedSimpArgs false
open Go Go.Mir Go.Proofs
@[irreducible] noncomputable def b18:Cmd:=((Tryz.f18.body).bind (trC Tryz.prog [1000021,1000065] 18 [] [(5,[.keepF 18,.keep 1,.keep 37,.keep 38,.slot 39 (.one (.int .i64)),.keepO 1800000])])).getD .skip
noncomputable def c18:FnC:=⟨18,64,[(.tmp 2)],b18,false,[(.agg [(.slo 1),(.slo 1),(.slo 1),(.int .i64),(.int .i64)])],.val (.one .bool),none,false,[]⟩
theorem is18:IsFn Tryz.prog 18 c18:=⟨⟨_,_,[1000021,1000065],[],[(5,[.keepF 18,.keep 1,.keep 37,.keep 38,.slot 39 (.one (.int .i64)),.keepO 1800000])],Tryz.func18,rfl,(by kernel_rfl),rfl,(by kernel_rfl),(by kernel_rfl)⟩⟩
@[irreducible] noncomputable def b21:Cmd:=((Tryz.f21.body).bind (trC Tryz.prog [1000021,1000065] 21 [(2,([1,3],[],[(134406464,2190001,48,2),(134406465,2190002,3,1)],[])),(4,([3],[],[],[2190001,2190002]))] [])).getD .skip
noncomputable def c21:FnC:=⟨21,15,[(.tmp 2)],b21,true,[(.agg [(.slo 1),(.slo 1),(.slo 1),(.int .i64),(.int .i64)])],.val (.one .raw),none,false,[(.val (.one (.ptr 2100101 0)),[.box 2100101 [(.row 2190001),(.row 2190002),(.int .i64),.bool],.row 2190001 48 2 false,.row 2190002 3 1 false])]⟩
theorem is21:IsFn Tryz.prog 21 c21:=⟨⟨_,_,[1000021,1000065],[(2,([1,3],[],[(134406464,2190001,48,2),(134406465,2190002,3,1)],[])),(4,([3],[],[],[2190001,2190002]))],[],Tryz.func21,rfl,(by kernel_rfl),rfl,(by kernel_rfl),(by kernel_rfl)⟩⟩
@[irreducible] noncomputable def b38:Cmd:=((Tryz.f38.body).bind (trC Tryz.prog [1000021,1000065] 38 [(7,([1,6,7],[3800913],[],[])),(8,([1,6,7,34],[3800913],[],[])),(18,([1,6,7,34],[3800913],[],[]))] [(8,[.keepF 38,.keep 1,.keep 6,.slot 7 (.one (.int .i64)),.slot 34 (.one (.int .i64)),.box 3800302 [(.slo 1),(.slo 1),(.slo 1),(.int .i64),(.int .i64),.str,(.int .i64),(.int .i64),.nil,.str,.bool,.bool]])])).getD .skip
noncomputable def c38:FnC:=⟨38,75,[(.tmp 4),(.tmp 5)],b38,false,[(.agg [(.slo 1),(.slo 1),(.slo 1),(.int .i64),(.int .i64)]),(.one .str)],.tup [(.one .str),(.one (.int .i64))],none,false,[]⟩
theorem is38:IsFn Tryz.prog 38 c38:=⟨⟨_,_,[1000021,1000065],[(7,([1,6,7],[3800913],[],[])),(8,([1,6,7,34],[3800913],[],[])),(18,([1,6,7,34],[3800913],[],[]))],[(8,[.keepF 38,.keep 1,.keep 6,.slot 7 (.one (.int .i64)),.slot 34 (.one (.int .i64)),.box 3800302 [(.slo 1),(.slo 1),(.slo 1),(.int .i64),(.int .i64),.str,(.int .i64),(.int .i64),.nil,.str,.bool,.bool]])],Tryz.func38,rfl,(by kernel_rfl),rfl,(by kernel_rfl),(by kernel_rfl)⟩⟩
@[irreducible] noncomputable def b60:Cmd:=((Tryz.f60.body).bind (trC Tryz.prog [1000021,1000065] 60 [(2,([0,2,3],[6000504,6000604],[(384006464,6000505,4,1),(384006465,6000605,4,1)],[])),(3,([0,2,3,4],[6000504,6000604],[(384006464,6000505,4,1),(384006465,6000605,4,1)],[])),(4,([0,2,3,4],[6000504,6000604],[],[]))] [(3,[.keepF 60,.keep 0,.keep 2,.keep 3,.slot 4 (.one (.int .i64)),.keepO 6000000,.box 6000101 [(.row 6000505),(.row 6000605)],.row 6000505 4 1 true,.row 6000605 4 1 true])])).getD .skip
noncomputable def c60:FnC:=⟨60,26,[(.cell 2 (some 2))],b60,false,[(.one (.int .i64))],.val (.agg [(.slo 1),(.slo 1)]),none,false,[]⟩
theorem is60:IsFn Tryz.prog 60 c60:=⟨⟨_,_,[1000021,1000065],[(2,([0,2,3],[6000504,6000604],[(384006464,6000505,4,1),(384006465,6000605,4,1)],[])),(3,([0,2,3,4],[6000504,6000604],[(384006464,6000505,4,1),(384006465,6000605,4,1)],[])),(4,([0,2,3,4],[6000504,6000604],[],[]))],[(3,[.keepF 60,.keep 0,.keep 2,.keep 3,.slot 4 (.one (.int .i64)),.keepO 6000000,.box 6000101 [(.row 6000505),(.row 6000605)],.row 6000505 4 1 true,.row 6000605 4 1 true])],Tryz.func60,rfl,(by kernel_rfl),rfl,(by kernel_rfl),(by kernel_rfl)⟩⟩
@[irreducible] noncomputable def b48:Cmd:=((Tryz.f48.body).bind (trC Tryz.prog [1000021,1000065] 48 [] [])).getD .skip
noncomputable def c48:FnC:=⟨48,48,[(.tmp 2)],b48,false,[(.agg [(.slo 1),(.slo 1),(.slo 1),(.int .i64),(.int .i64)])],.val (.one .bool),none,false,[]⟩
theorem is48:IsFn Tryz.prog 48 c48:=⟨⟨_,_,[1000021,1000065],[],[],Tryz.func48,rfl,(by kernel_rfl),rfl,(by kernel_rfl),(by kernel_rfl)⟩⟩
@[irreducible] noncomputable def b54:Cmd:=((Tryz.f54.body).bind (trC Tryz.prog [1000021,1000065] 54 [] [(4,[.keepF 54,.keep 1,.slot 3 (.one (.int .i64)),.keepO 5400000])])).getD .skip
noncomputable def c54:FnC:=⟨54,41,[(.tmp 2)],b54,false,[(.agg [(.slo 1),(.slo 1)])],.val (.one .bool),none,false,[]⟩
theorem is54:IsFn Tryz.prog 54 c54:=⟨⟨_,_,[1000021,1000065],[],[(4,[.keepF 54,.keep 1,.slot 3 (.one (.int .i64)),.keepO 5400000])],Tryz.func54,rfl,(by kernel_rfl),rfl,(by kernel_rfl),(by kernel_rfl)⟩⟩
@[irreducible] noncomputable def b55:Cmd:=((Tryz.f55.body).bind (trC Tryz.prog [1000021,1000065] 55 [(11,([0,3,4,5,7,14],[5501712,5501713],[],[])),(12,([0,3,4,5,7,14,82,83,84],[5501712,5501713],[],[])),(18,([0,3,4,5,7,14,82,83,84],[5501712,5501713],[],[]))] [(2,[.keepF 55,.keep 0,.keep 2,.keep 3,.keep 4,.keep 5,.keep 7,.keep 25,.keep 26,.slot 27 (.one (.int .i64)),.box 2100101 [(.row 2190001),(.row 2190002),(.int .i64),.bool],.keepO 2190001,.keepO 2190002,.keepO 5500000]),(12,[.keepF 55,.keep 0,.keep 3,.keep 4,.keep 5,.keep 7,.keep 14,.keep 82,.keep 83,.slot 84 (.one (.int .i64)),.box 2100101 [(.row 2190001),(.row 2190002),(.int .i64),.bool],.row 2190001 48 2 false,.keepO 2190002,.keepO 5500000,.keepO 5500708]),(24,[.keepF 55,.keep 0,.keep 3,.keep 4,.keep 5,.keep 7,.keep 14,.keep 139,.keep 140,.slot 141 (.one (.int .i64)),.box 2100101 [(.row 2190001),(.row 2190002),(.int .i64),.bool],.row 2190001 48 2 false,.row 2190002 3 1 false,.keepO 5500000,.keepO 5500708])])).getD .skip
noncomputable def c55:FnC:=⟨55,180,[],b55,false,[(.one .raw),(.agg [(.slo 1),(.slo 1),(.slo 1),(.int .i64),(.int .i64)]),(.one (.int .i64)),(.one (.int .i64)),(.one .str),(.one .str)],.tup [],none,true,[]⟩
theorem is55:IsFn Tryz.prog 55 c55:=⟨⟨_,_,[1000021,1000065],[(11,([0,3,4,5,7,14],[5501712,5501713],[],[])),(12,([0,3,4,5,7,14,82,83,84],[5501712,5501713],[],[])),(18,([0,3,4,5,7,14,82,83,84],[5501712,5501713],[],[]))],[(2,[.keepF 55,.keep 0,.keep 2,.keep 3,.keep 4,.keep 5,.keep 7,.keep 25,.keep 26,.slot 27 (.one (.int .i64)),.box 2100101 [(.row 2190001),(.row 2190002),(.int .i64),.bool],.keepO 2190001,.keepO 2190002,.keepO 5500000]),(12,[.keepF 55,.keep 0,.keep 3,.keep 4,.keep 5,.keep 7,.keep 14,.keep 82,.keep 83,.slot 84 (.one (.int .i64)),.box 2100101 [(.row 2190001),(.row 2190002),(.int .i64),.bool],.row 2190001 48 2 false,.keepO 2190002,.keepO 5500000,.keepO 5500708]),(24,[.keepF 55,.keep 0,.keep 3,.keep 4,.keep 5,.keep 7,.keep 14,.keep 139,.keep 140,.slot 141 (.one (.int .i64)),.box 2100101 [(.row 2190001),(.row 2190002),(.int .i64),.bool],.row 2190001 48 2 false,.row 2190002 3 1 false,.keepO 5500000,.keepO 5500708])],Tryz.func55,rfl,(by kernel_rfl),rfl,(by kernel_rfl),(by kernel_rfl)⟩⟩
@[irreducible] noncomputable def b62:Cmd:=((Tryz.f62.body).bind (trC Tryz.prog [1000021,1000065] 62 [] [])).getD .skip
noncomputable def c62:FnC:=⟨62,81,[(.cell 6 (some 4)),(.tmp 7)],b62,false,[(.one .raw),(.one (.int .i64)),(.one .bool)],.tup [(.agg [.bool,(.sln 1),(.sln 1),(.sln 1)]),(.one .bool)],none,true,[]⟩
theorem is62:IsFn Tryz.prog 62 c62:=⟨⟨_,_,[1000021,1000065],[],[],Tryz.func62,rfl,(by kernel_rfl),rfl,(by kernel_rfl),(by kernel_rfl)⟩⟩
@[irreducible] noncomputable def b63:Cmd:=((Tryz.f63.body).bind (trC Tryz.prog [1000021,1000065] 63 [] [])).getD .skip
noncomputable def c63:FnC:=⟨63,19,[(.tmp 4)],b63,false,[(.agg [.bool,(.slo 1),(.slo 1),(.slo 1)]),(.one .str)],.val (.one (.int .i64)),none,false,[]⟩
theorem is63:IsFn Tryz.prog 63 c63:=⟨⟨_,_,[1000021,1000065],[],[],Tryz.func63,rfl,(by kernel_rfl),rfl,(by kernel_rfl),(by kernel_rfl)⟩⟩
@[irreducible] noncomputable def b64:Cmd:=((Tryz.f64.body).bind (trC Tryz.prog [1000021,1000065] 64 [] [])).getD .skip
noncomputable def c64:FnC:=⟨64,29,[(.tmp 4),(.tmp 5)],b64,false,[(.agg [.bool,(.slo 1),(.slo 1),(.slo 1)]),(.one .str)],.tup [(.one (.int .i64)),(.one .bool)],none,false,[]⟩
theorem is64:IsFn Tryz.prog 64 c64:=⟨⟨_,_,[1000021,1000065],[],[],Tryz.func64,rfl,(by kernel_rfl),rfl,(by kernel_rfl),(by kernel_rfl)⟩⟩
@[irreducible] noncomputable def b67:Cmd:=((Tryz.f67.body).bind (trC Tryz.prog [1000021,1000065] 67 [] [])).getD .skip
noncomputable def c67:FnC:=⟨67,29,[(.tmp 2)],b67,false,[(.agg [(.slo 1),(.slo 1)])],.val (.one .bool),none,false,[]⟩
theorem is67:IsFn Tryz.prog 67 c67:=⟨⟨_,_,[1000021,1000065],[],[],Tryz.func67,rfl,(by kernel_rfl),rfl,(by kernel_rfl),(by kernel_rfl)⟩⟩
def b68:Cmd:=(.seq (.region [(o 4 (.mov (.const (.bool false))))]) (.seq (.region [(m 5 0),(m 6 1),(os 7 (.call false 98 [(T 5),(T 6)]) sI),(o 8 (.bin .geq (T 7) (N 0))),(m 4 8)]) .ret))
noncomputable def c68:FnC:=⟨68,9,[(.tmp 4)],b68,false,[(.one (.slo 1)),(.one .raw)],.val (.one .bool),none,false,[]⟩
theorem is68:IsFn Tryz.prog 68 c68:=⟨⟨_,_,[1000021,1000065],[],[],Tryz.func68,rfl,(by kernel_rfl),rfl,(by kernel_rfl),(by kernel_rfl)⟩⟩
def b69:Cmd:=(.seq (.region [(o 2 (.mov (.const (.bool false))))]) (.seq (.region [(m 3 0),(os 4 (.slen (T 3)) sI),(o 5 (.bin .gtr (T 4) (N 4096))),(m 2 5)]) .ret))
noncomputable def c69:FnC:=⟨69,6,[(.tmp 2)],b69,false,[(.one .str)],.val (.one .bool),none,false,[]⟩
theorem is69:IsFn Tryz.prog 69 c69:=⟨⟨_,_,[1000021,1000065],[],[],Tryz.func69,rfl,(by kernel_rfl),rfl,(by kernel_rfl),(by kernel_rfl)⟩⟩
@[irreducible] noncomputable def b79:Cmd:=((Tryz.f79.body).bind (trC Tryz.prog [1000021,1000065] 79 [] [])).getD .skip
noncomputable def c79:FnC:=⟨79,76,[(.cell 6 (some 4)),(.tmp 7)],b79,false,[(.agg [(.slo 1),(.slo 1),(.slo 1),(.int .i64),(.int .i64)]),(.one (.int .i64)),(.one .bool)],.tup [(.agg [.bool,(.slo 1),(.slo 1),(.slo 1)]),(.one .bool)],none,false,[]⟩
theorem is79:IsFn Tryz.prog 79 c79:=⟨⟨_,_,[1000021,1000065],[],[],Tryz.func79,rfl,(by kernel_rfl),rfl,(by kernel_rfl),(by kernel_rfl)⟩⟩
@[irreducible] noncomputable def b80:Cmd:=((Tryz.f80.body).bind (trC Tryz.prog [1000021,1000065] 80 [] [])).getD .skip
noncomputable def c80:FnC:=⟨80,19,[(.tmp 6)],b80,false,[(.one .str),(.one .str),(.one .str)],.val (.one .bool),none,false,[]⟩
theorem is80:IsFn Tryz.prog 80 c80:=⟨⟨_,_,[1000021,1000065],[],[],Tryz.func80,rfl,(by kernel_rfl),rfl,(by kernel_rfl),(by kernel_rfl)⟩⟩
@[irreducible] noncomputable def b91:Cmd:=((Tryz.f91.body).bind (trC Tryz.prog [1000021,1000065] 91 [(6,([1,4,6,7,8],[9101004,9101005,9101104,9101105,9101204,9101205,9101304,9101305],[],[])),(7,([1,4,6,7,8,9],[9101004,9101005,9101104,9101105,9101204,9101205,9101304,9101305],[],[])),(8,([1,4,6,7,8,9],[9101004,9101005,9101104,9101105,9101204,9101205,9101304,9101305],[],[])),(5,([1,4,6,7],[],[(582425793,9190001,9,1),(582425794,9190002,9,1),(582425795,9190003,3,1)],[]))] [(7,[.keepF 91,.keep 1,.keep 4,.keep 6,.keep 7,.keep 8,.slot 9 (.one (.int .i64)),.keepO 9100000,.box 9100302 [.str,(.int .i64),(.int .i64)],.box 9100403 [.bool,(.row 9190001),(.row 9190002),(.row 9190003)],.row 9190001 9 1 true,.row 9190002 9 1 true,.row 9190003 3 1 true])])).getD .skip
noncomputable def c91:FnC:=⟨91,103,[(.cell 4 (some 4)),(.tmp 5)],b91,false,[(.one (.int .i64)),(.one .str)],.tup [(.agg [.bool,(.sln 1),(.sln 1),(.sln 1)]),(.one (.int .i64))],none,false,[]⟩
theorem is91:IsFn Tryz.prog 91 c91:=⟨⟨_,_,[1000021,1000065],[(6,([1,4,6,7,8],[9101004,9101005,9101104,9101105,9101204,9101205,9101304,9101305],[],[])),(7,([1,4,6,7,8,9],[9101004,9101005,9101104,9101105,9101204,9101205,9101304,9101305],[],[])),(8,([1,4,6,7,8,9],[9101004,9101005,9101104,9101105,9101204,9101205,9101304,9101305],[],[])),(5,([1,4,6,7],[],[(582425793,9190001,9,1),(582425794,9190002,9,1),(582425795,9190003,3,1)],[]))],[(7,[.keepF 91,.keep 1,.keep 4,.keep 6,.keep 7,.keep 8,.slot 9 (.one (.int .i64)),.keepO 9100000,.box 9100302 [.str,(.int .i64),(.int .i64)],.box 9100403 [.bool,(.row 9190001),(.row 9190002),(.row 9190003)],.row 9190001 9 1 true,.row 9190002 9 1 true,.row 9190003 3 1 true])],Tryz.func91,rfl,(by kernel_rfl),rfl,(by kernel_rfl),(by kernel_rfl)⟩⟩
@[irreducible] noncomputable def b92:Cmd:=((Tryz.f92.body).bind (trC Tryz.prog [1000021,1000065] 92 [] [])).getD .skip
noncomputable def c92:FnC:=⟨92,22,[(.tmp 4)],b92,false,[(.agg [.bool,(.slo 1),(.slo 1),(.slo 1)]),(.one .bool)],.val (.one .bool),none,false,[]⟩
theorem is92:IsFn Tryz.prog 92 c92:=⟨⟨_,_,[1000021,1000065],[],[],Tryz.func92,rfl,(by kernel_rfl),rfl,(by kernel_rfl),(by kernel_rfl)⟩⟩
@[irreducible] noncomputable def b93:Cmd:=((Tryz.f93.body).bind (trC Tryz.prog [1000021,1000065] 93 [] [(5,[.keepF 93,.keep 1,.keep 3,.keep 12,.keep 13,.slot 14 (.one (.int .i64)),.keepO 9300000])])).getD .skip
noncomputable def c93:FnC:=⟨93,83,[(.tmp 2)],b93,false,[(.agg [.bool,(.slo 1),(.slo 1),(.slo 1)])],.val (.one .bool),none,false,[]⟩
theorem is93:IsFn Tryz.prog 93 c93:=⟨⟨_,_,[1000021,1000065],[],[(5,[.keepF 93,.keep 1,.keep 3,.keep 12,.keep 13,.slot 14 (.one (.int .i64)),.keepO 9300000])],Tryz.func93,rfl,(by kernel_rfl),rfl,(by kernel_rfl),(by kernel_rfl)⟩⟩
def b94:Cmd:=(.seq (.region [(o 2 (.box 9400000 (T 0))),(o 3 (.box 9400001 (T 1))),(mN 4 0)]) (.seq (.region [(os 5 (.ld (T 2) none) sL),(os 6 (.len (T 5)) sI),(o 7 (.mkf 131 [(T 2),(T 3)])),(os 8 (.call false 130 [(T 6),(T 7)]) sI),(m 4 8)]) .ret))
noncomputable def c94:FnC:=⟨94,9,[(.tmp 4)],b94,false,[(.one (.slo 1)),(.one .str)],.val (.one (.int .i64)),none,false,[]⟩
theorem is94:IsFn Tryz.prog 94 c94:=⟨⟨_,_,[1000021,1000065],[],[],Tryz.func94,rfl,(by kernel_rfl),rfl,(by kernel_rfl),(by kernel_rfl)⟩⟩
@[irreducible] noncomputable def b97:Cmd:=((Tryz.f97.body).bind (trC Tryz.prog [1000021,1000065] 97 [(2,([0,3],[9700401],[],[])),(3,([0,3,6,7],[9700401],[],[])),(7,([0,3,6,7],[9700401],[],[]))] [(3,[.keepF 97,.keep 0,.slot 3 (.one (.int .i64)),.keep 6,.slot 7 (.one (.int .i64))])])).getD .skip
noncomputable def c97:FnC:=⟨97,18,[(.tmp 2)],b97,false,[(.one (.slo 1))],.val (.one (.int .i64)),none,false,[]⟩
theorem is97:IsFn Tryz.prog 97 c97:=⟨⟨_,_,[1000021,1000065],[(2,([0,3],[9700401],[],[])),(3,([0,3,6,7],[9700401],[],[])),(7,([0,3,6,7],[9700401],[],[]))],[(3,[.keepF 97,.keep 0,.slot 3 (.one (.int .i64)),.keep 6,.slot 7 (.one (.int .i64))])],Tryz.func97,rfl,(by kernel_rfl),rfl,(by kernel_rfl),(by kernel_rfl)⟩⟩
@[irreducible] noncomputable def b98:Cmd:=((Tryz.f98.body).bind (trC Tryz.prog [1000021,1000065] 98 [] [(2,[.keepF 98,.keep 0,.keep 1,.keep 7,.slot 8 (.one (.int .i64))])])).getD .skip
noncomputable def c98:FnC:=⟨98,19,[(.tmp 4)],b98,false,[(.one (.slo 1)),(.one .raw)],.val (.one (.int .i64)),none,false,[]⟩
theorem is98:IsFn Tryz.prog 98 c98:=⟨⟨_,_,[1000021,1000065],[],[(2,[.keepF 98,.keep 0,.keep 1,.keep 7,.slot 8 (.one (.int .i64))])],Tryz.func98,rfl,(by kernel_rfl),rfl,(by kernel_rfl),(by kernel_rfl)⟩⟩
@[irreducible] noncomputable def b99:Cmd:=((Tryz.f99.body).bind (trC Tryz.prog [1000021,1000065] 99 [] [])).getD .skip
noncomputable def c99:FnC:=⟨99,29,[(.cell 6 (some 4)),(.tmp 7)],b99,false,[(.agg [(.slo 1),(.slo 1),(.slo 1),(.int .i64),(.int .i64)]),(.one (.int .i64)),(.one .bool)],.tup [(.agg [.bool,(.sln 1),(.sln 1),(.sln 1)]),(.one (.int .i64))],none,false,[]⟩
theorem is99:IsFn Tryz.prog 99 c99:=⟨⟨_,_,[1000021,1000065],[],[],Tryz.func99,rfl,(by kernel_rfl),rfl,(by kernel_rfl),(by kernel_rfl)⟩⟩
@[irreducible] noncomputable def b115:Cmd:=((Tryz.f115.body).bind (trC Tryz.prog [1000021,1000065] 115 [(5,([0,1,4,6,7,8,9],[11501203,11501703,11502303],[(736019393,11501704,9,1),(736019394,11502304,9,1),(736019395,11501204,3,1)],[])),(6,([0,1,4,6,7,8,9,10],[11501203,11501703,11502303],[(736019393,11501704,9,1),(736019394,11502304,9,1),(736019395,11501204,3,1)],[])),(7,([0,1,4,6,7,8,9,10],[11501203,11501703,11502303],[],[]))] [(6,[.keepF 115,.keep 0,.keep 1,.keep 4,.keep 6,.keep 7,.slot 8 (.one (.int .i64)),.keep 9,.slot 10 (.one (.int .i64)),.box 11500000 [.bool,.nil,.nil,.nil],.box 11500303 [.bool,(.row 11501704),(.row 11502304),(.row 11501204)],.row 11501704 9 1 true,.row 11502304 9 1 true,.row 11501204 3 1 true])])).getD .skip
noncomputable def c115:FnC:=⟨115,142,[(.cell 4 (some 4)),(.tmp 5)],b115,false,[(.one (.int .i64)),(.one .str)],.tup [(.agg [.bool,(.slo 1),(.slo 1),(.slo 1)]),(.one (.int .i64))],none,false,[]⟩
theorem is115:IsFn Tryz.prog 115 c115:=⟨⟨_,_,[1000021,1000065],[(5,([0,1,4,6,7,8,9],[11501203,11501703,11502303],[(736019393,11501704,9,1),(736019394,11502304,9,1),(736019395,11501204,3,1)],[])),(6,([0,1,4,6,7,8,9,10],[11501203,11501703,11502303],[(736019393,11501704,9,1),(736019394,11502304,9,1),(736019395,11501204,3,1)],[])),(7,([0,1,4,6,7,8,9,10],[11501203,11501703,11502303],[],[]))],[(6,[.keepF 115,.keep 0,.keep 1,.keep 4,.keep 6,.keep 7,.slot 8 (.one (.int .i64)),.keep 9,.slot 10 (.one (.int .i64)),.box 11500000 [.bool,.nil,.nil,.nil],.box 11500303 [.bool,(.row 11501704),(.row 11502304),(.row 11501204)],.row 11501704 9 1 true,.row 11502304 9 1 true,.row 11501204 3 1 true])],Tryz.func115,rfl,(by kernel_rfl),rfl,(by kernel_rfl),(by kernel_rfl)⟩⟩
@[irreducible] noncomputable def b116:Cmd:=((Tryz.f116.body).bind (trC Tryz.prog [1000021,1000065] 116 [] [])).getD .skip
noncomputable def c116:FnC:=⟨116,22,[(.tmp 4)],b116,false,[(.agg [.bool,(.slo 1),(.slo 1),(.slo 1)]),(.one .bool)],.val (.one .bool),none,false,[]⟩
theorem is116:IsFn Tryz.prog 116 c116:=⟨⟨_,_,[1000021,1000065],[],[],Tryz.func116,rfl,(by kernel_rfl),rfl,(by kernel_rfl),(by kernel_rfl)⟩⟩
@[irreducible] noncomputable def b125:Cmd:=((Tryz.f125.body).bind (trC Tryz.prog [1000021,1000065] 125 [] [])).getD .skip
noncomputable def c125:FnC:=⟨125,36,[(.tmp 4)],b125,false,[(.one .raw),(.one (.int .i64))],.val (.one (.int .i64)),none,true,[]⟩
theorem is125:IsFn Tryz.prog 125 c125:=⟨⟨_,_,[1000021,1000065],[],[],Tryz.func125,rfl,(by kernel_rfl),rfl,(by kernel_rfl),(by kernel_rfl)⟩⟩
@[irreducible] noncomputable def b126:Cmd:=((Tryz.f126.body).bind (trC Tryz.prog [1000021,1000065] 126 [] [])).getD .skip
noncomputable def c126:FnC:=⟨126,33,[(.tmp 2)],b126,false,[(.one .raw)],.val (.one .str),none,true,[]⟩
theorem is126:IsFn Tryz.prog 126 c126:=⟨⟨_,_,[1000021,1000065],[],[],Tryz.func126,rfl,(by kernel_rfl),rfl,(by kernel_rfl),(by kernel_rfl)⟩⟩
def b127:Cmd:=(.seq (.region [(o 2 (.mov (.const (.bool false))))]) (.seq (.region [(m 3 0),(os 4 (.slen (T 3)) sI),(o 5 (.bin .gtr (T 4) (N 200))),(m 2 5)]) .ret))
noncomputable def c127:FnC:=⟨127,6,[(.tmp 2)],b127,false,[(.one .str)],.val (.one .bool),none,false,[]⟩
theorem is127:IsFn Tryz.prog 127 c127:=⟨⟨_,_,[1000021,1000065],[],[],Tryz.func127,rfl,(by kernel_rfl),rfl,(by kernel_rfl),(by kernel_rfl)⟩⟩
def b128:Cmd:=(.seq (.region [(o 4 (.mov (.const (.bool false))))]) (.seq (.region [(m 5 0),(m 6 1),(os 7 (.call false 156 [(T 5),(T 6)]) sI),(o 8 (.bin .geq (T 7) (N 0))),(m 4 8)]) .ret))
noncomputable def c128:FnC:=⟨128,9,[(.tmp 4)],b128,false,[(.one (.slo 1)),(.one .raw)],.val (.one .bool),none,false,[]⟩
theorem is128:IsFn Tryz.prog 128 c128:=⟨⟨_,_,[1000021,1000065],[],[],Tryz.func128,rfl,(by kernel_rfl),rfl,(by kernel_rfl),(by kernel_rfl)⟩⟩
def b129:Cmd:=(.seq (.region [(o 2 (.mov (.const (.bool false))))]) (.seq (.region [(m 3 0),(o 4 (.bin .lss (T 3) (N 10))),(m 5 4),(gd 6 (.mov (T 0)) 5 false),(gd 7 (.bin .geq (T 6) (N 2048)) 5 false),(o 8 (.pick (T 5) (.const (.bool true)) (T 7))),(m 2 8)]) .ret))
noncomputable def c129:FnC:=⟨129,9,[(.tmp 2)],b129,false,[(.one (.int .i64))],.val (.one .bool),none,false,[]⟩
theorem is129:IsFn Tryz.prog 129 c129:=⟨⟨_,_,[1000021,1000065],[],[],Tryz.func129,rfl,(by kernel_rfl),rfl,(by kernel_rfl),(by kernel_rfl)⟩⟩
@[irreducible] noncomputable def b130:Cmd:=((Tryz.f130.body).bind (trC Tryz.prog [1000021,1000065] 130 [] [(2,[.keepF 130,.keep 1,.slot 5 (.one (.int .i64)),.slot 6 (.one (.int .i64))])])).getD .skip
noncomputable def c130:FnC:=⟨130,26,[(.tmp 4)],b130,false,[(.one (.int .i64)),(.one .raw)],.val (.one (.int .i64)),none,false,[]⟩
theorem is130:IsFn Tryz.prog 130 c130:=⟨⟨_,_,[1000021,1000065],[],[(2,[.keepF 130,.keep 1,.slot 5 (.one (.int .i64)),.slot 6 (.one (.int .i64))])],Tryz.func130,rfl,(by kernel_rfl),rfl,(by kernel_rfl),(by kernel_rfl)⟩⟩
def b131:Cmd:=(.seq (.region [(o 4 (.mov (.const (.bool false))))]) (.seq (.drawn [(os 5 (.ld (T 1) none) sL),(m 6 0),(o 7 (.idxA (T 5) (T 6) 1)),(os 8 (.ld (T 7) none) sS),(os 9 (.ld (T 2) none) sS),(o 10 (.bin .geq (T 8) (T 9))),(m 4 10)] []) .ret))
noncomputable def c131:FnC:=⟨131,11,[(.tmp 4)],b131,false,[(.one (.int .i64))],.val (.one .bool),none,false,[]⟩
theorem is131:IsFn Tryz.prog 131 c131:=⟨⟨_,_,[1000021,1000065],[],[],Tryz.func131,rfl,(by kernel_rfl),rfl,(by kernel_rfl),(by kernel_rfl)⟩⟩
@[irreducible] noncomputable def b133:Cmd:=((Tryz.f133.body).bind (trC Tryz.prog [1000021,1000065] 133 [] [(3,[.keepF 133,.slot 3 (.one (.int .i64)),.keep 6,.keep 7,.slot 8 (.one (.int .i64))])])).getD .skip
noncomputable def c133:FnC:=⟨133,18,[(.tmp 2)],b133,false,[(.one (.slo 1))],.val (.one (.int .i64)),none,false,[]⟩
theorem is133:IsFn Tryz.prog 133 c133:=⟨⟨_,_,[1000021,1000065],[],[(3,[.keepF 133,.slot 3 (.one (.int .i64)),.keep 6,.keep 7,.slot 8 (.one (.int .i64))])],Tryz.func133,rfl,(by kernel_rfl),rfl,(by kernel_rfl),(by kernel_rfl)⟩⟩
def b134:Cmd:=(.seq (.region [(o 4 (.mov (.const (.bool false))))]) (.seq (.region [(m 5 0),(m 6 1),(os 7 (.call false 157 [(T 5),(T 6)]) sI),(o 8 (.bin .geq (T 7) (N 0))),(m 4 8)]) .ret))
noncomputable def c134:FnC:=⟨134,9,[(.tmp 4)],b134,false,[(.one (.slo 1)),(.one .raw)],.val (.one .bool),none,false,[]⟩
theorem is134:IsFn Tryz.prog 134 c134:=⟨⟨_,_,[1000021,1000065],[],[],Tryz.func134,rfl,(by kernel_rfl),rfl,(by kernel_rfl),(by kernel_rfl)⟩⟩
def b135:Cmd:=(.seq (.region [(o 3 (.mov (.const (.bool false))))]) (.seq (.region [(m 4 0),(os 5 (.ld (T 1) none) sI),(os 6 (.call false 136 [(T 4),(T 5)]) sB),(o 7 (.un .not (T 6))),(m 3 7)]) .ret))
noncomputable def c135:FnC:=⟨135,8,[(.tmp 3)],b135,false,[(.one (.slo 1))],.val (.one .bool),none,false,[]⟩
theorem is135:IsFn Tryz.prog 135 c135:=⟨⟨_,_,[1000021,1000065],[],[],Tryz.func135,rfl,(by kernel_rfl),rfl,(by kernel_rfl),(by kernel_rfl)⟩⟩
def b136:Cmd:=(.seq (.region [(o 4 (.mov (.const (.bool false))))]) (.seq (.region [(m 5 1),(m 6 0),(os 7 (.len (T 6)) sI),(o 8 (.bin .lss (T 5) (T 7))),(m 9 8),(gd 10 (.mov (T 0)) 9 true),(gd 11 (.mov (T 1)) 9 true),(gd 12 (.idxA (T 10) (T 11) 1) 9 true),(gs 13 (.ld (T 12) none) 9 true sB),(o 14 (.pick (T 9) (T 13) (.const (.bool false)))),(m 4 14)]) .ret))
noncomputable def c136:FnC:=⟨136,15,[(.tmp 4)],b136,false,[(.one (.slo 1)),(.one (.int .i64))],.val (.one .bool),none,false,[]⟩
theorem is136:IsFn Tryz.prog 136 c136:=⟨⟨_,_,[1000021,1000065],[],[],Tryz.func136,rfl,(by kernel_rfl),rfl,(by kernel_rfl),(by kernel_rfl)⟩⟩
@[irreducible] noncomputable def b147:Cmd:=((Tryz.f147.body).bind (trC Tryz.prog [1000021,1000065] 147 [] [(4,[.keepF 147,.keep 1,.keep 14,.keep 15,.slot 16 (.one (.int .i64)),.keepO 14700000]),(10,[.keepF 147,.keep 1,.keep 45,.keep 46,.slot 47 (.one (.int .i64)),.keepO 14700000]),(16,[.keepF 147,.keep 1,.keep 56,.keep 57,.slot 58 (.one (.int .i64)),.keepO 14700000])])).getD .skip
noncomputable def c147:FnC:=⟨147,104,[(.tmp 2)],b147,false,[(.agg [.bool,(.slo 1),(.slo 1),(.slo 1)])],.val (.one .bool),none,false,[]⟩
theorem is147:IsFn Tryz.prog 147 c147:=⟨⟨_,_,[1000021,1000065],[],[(4,[.keepF 147,.keep 1,.keep 14,.keep 15,.slot 16 (.one (.int .i64)),.keepO 14700000]),(10,[.keepF 147,.keep 1,.keep 45,.keep 46,.slot 47 (.one (.int .i64)),.keepO 14700000]),(16,[.keepF 147,.keep 1,.keep 56,.keep 57,.slot 58 (.one (.int .i64)),.keepO 14700000])],Tryz.func147,rfl,(by kernel_rfl),rfl,(by kernel_rfl),(by kernel_rfl)⟩⟩
@[irreducible] noncomputable def b156:Cmd:=((Tryz.f156.body).bind (trC Tryz.prog [1000021,1000065] 156 [] [(2,[.keepF 156,.keep 0,.keep 1,.keep 7,.slot 8 (.one (.int .i64))])])).getD .skip
noncomputable def c156:FnC:=⟨156,19,[(.tmp 4)],b156,false,[(.one (.slo 1)),(.one .raw)],.val (.one (.int .i64)),none,false,[]⟩
theorem is156:IsFn Tryz.prog 156 c156:=⟨⟨_,_,[1000021,1000065],[],[(2,[.keepF 156,.keep 0,.keep 1,.keep 7,.slot 8 (.one (.int .i64))])],Tryz.func156,rfl,(by kernel_rfl),rfl,(by kernel_rfl),(by kernel_rfl)⟩⟩
@[irreducible] noncomputable def b157:Cmd:=((Tryz.f157.body).bind (trC Tryz.prog [1000021,1000065] 157 [] [(2,[.keepF 157,.keep 0,.keep 1,.keep 7,.slot 8 (.one (.int .i64))])])).getD .skip
noncomputable def c157:FnC:=⟨157,19,[(.tmp 4)],b157,false,[(.one (.slo 1)),(.one .raw)],.val (.one (.int .i64)),none,false,[]⟩
theorem is157:IsFn Tryz.prog 157 c157:=⟨⟨_,_,[1000021,1000065],[],[(2,[.keepF 157,.keep 0,.keep 1,.keep 7,.slot 8 (.one (.int .i64))])],Tryz.func157,rfl,(by kernel_rfl),rfl,(by kernel_rfl),(by kernel_rfl)⟩⟩
noncomputable def own2:List (Nat×Fun):=[(18,.code c18),(21,.code c21),(38,.code c38),(60,.code c60),(48,.code c48),(54,.code c54),(55,.code c55),(62,.code c62),(63,.code c63),(64,.code c64),(67,.code c67),(68,.code c68),(69,.code c69),(79,.code c79),(80,.code c80),(91,.code c91),(92,.code c92),(93,.code c93),(94,.code c94),(97,.code c97),(98,.code c98),(99,.code c99),(115,.code c115),(116,.code c116),(125,.code c125),(126,.code c126),(127,.code c127),(128,.code c128),(129,.code c129),(130,.code c130),(131,.code c131),(133,.code c133),(134,.code c134),(135,.code c135),(136,.code c136),(147,.code c147),(156,.code c156),(157,.code c157)]
noncomputable def funs2:List (Nat×Fun):=own2++funs
noncomputable def Fs2:Nat→Option Fun:=table funs2
set_option maxRecDepth 100000 in
theorem company2:Company Tryz.prog Fs2:=
 .cons is18 <| .cons is21 <| .cons is38 <| .cons is60 <| .cons is48 <| .cons is54 <| .cons is55 <| .cons is62 <| .cons is63 <| .cons is64 <| .cons is67 <| .cons is68 <| .cons is69 <| .cons is79 <| .cons is80 <| .cons is91 <| .cons is92 <| .cons is93 <| .cons is94 <| .cons is97 <| .cons is98 <| .cons is99 <| .cons is115 <| .cons is116 <| .cons is125 <| .cons is126 <| .cons is127 <| .cons is128 <| .cons is129 <| .cons is130 <| .cons is131 <| .cons is133 <| .cons is134 <| .cons is135 <| .cons is136 <| .cons is147 <| .cons is156 <| .cons is157 <| company
theorem up2:FsLe Fs Fs2:=table_up (by kernel_rfl)
theorem fs18:Fs2 18=some (.code c18):=rfl
theorem fs21:Fs2 21=some (.code c21):=rfl
theorem fs38:Fs2 38=some (.code c38):=rfl
theorem fs60:Fs2 60=some (.code c60):=rfl
theorem fs48:Fs2 48=some (.code c48):=rfl
theorem fs54:Fs2 54=some (.code c54):=rfl
theorem fs55:Fs2 55=some (.code c55):=rfl
theorem fs62:Fs2 62=some (.code c62):=rfl
theorem fs63:Fs2 63=some (.code c63):=rfl
theorem fs64:Fs2 64=some (.code c64):=rfl
theorem fs67:Fs2 67=some (.code c67):=rfl
theorem fs68:Fs2 68=some (.code c68):=rfl
theorem fs69:Fs2 69=some (.code c69):=rfl
theorem fs79:Fs2 79=some (.code c79):=rfl
theorem fs80:Fs2 80=some (.code c80):=rfl
theorem fs91:Fs2 91=some (.code c91):=rfl
theorem fs92:Fs2 92=some (.code c92):=rfl
theorem fs93:Fs2 93=some (.code c93):=rfl
theorem fs94:Fs2 94=some (.code c94):=rfl
theorem fs97:Fs2 97=some (.code c97):=rfl
theorem fs98:Fs2 98=some (.code c98):=rfl
theorem fs99:Fs2 99=some (.code c99):=rfl
theorem fs115:Fs2 115=some (.code c115):=rfl
theorem fs116:Fs2 116=some (.code c116):=rfl
theorem fs125:Fs2 125=some (.code c125):=rfl
theorem fs126:Fs2 126=some (.code c126):=rfl
theorem fs127:Fs2 127=some (.code c127):=rfl
theorem fs128:Fs2 128=some (.code c128):=rfl
theorem fs129:Fs2 129=some (.code c129):=rfl
theorem fs130:Fs2 130=some (.code c130):=rfl
theorem fs131:Fs2 131=some (.code c131):=rfl
theorem fs133:Fs2 133=some (.code c133):=rfl
theorem fs134:Fs2 134=some (.code c134):=rfl
theorem fs135:Fs2 135=some (.code c135):=rfl
theorem fs136:Fs2 136=some (.code c136):=rfl
theorem fs147:Fs2 147=some (.code c147):=rfl
theorem fs156:Fs2 156=some (.code c156):=rfl
theorem fs157:Fs2 157=some (.code c157):=rfl
end Go.Proofs.YtclgengkohbjjaaGreatDoor.M
