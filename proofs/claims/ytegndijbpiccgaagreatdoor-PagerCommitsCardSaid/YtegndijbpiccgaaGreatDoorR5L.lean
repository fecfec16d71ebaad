import Derived.Test.YtegndijbpiccgaaGreatDoorR5Base
import Derived.Test.YtegndijbpiccgaaGreatDoorR5FunB
import Derived.Test.YtegndijbpiccgaaGreatDoorProg
import Derived.Test.YtegndijbpiccgaaGreatDoorMirI
import Derived.Test.YtegndijbpiccgaaGreatDoorMirL
import Derived.KernelRfl
import Derived.Test.YtegndijbpiccgaaGreatDoorMirM
namespace Go.Proofs.YtegndijbpiccgaaGreatDoor.M
set_option linter.unusedVariables false
set_option linter.unusedSimpArgs false
open Go Go.Mir
set_option linter.unusedVariables false
theorem getR_three (s:ByteArray) (at_ k:Int):∃a b c,GetR s at_ k = .tup [.n (.int .i64 a),.n (.int .i64 b),.n (.int .i64 c)]:=by
 unfold GetR
 split
 · exact ⟨_,_,_,rfl⟩
 · split <;> exact ⟨_,_,_,rfl⟩
def CutR (s:ByteArray) (at_:Int):AV:=
 if at_<0∨(s.size:Int)<at_ then .tup [.n (.str (ByteArray.mk (List.toArray []))),.n (.int .i64 0),.n (.int .i64 1)]
 else if (s.size:Int) - at_<2 then .tup [.n (.str (ByteArray.mk (List.toArray []))),.n (.int .i64 0),.n (.int .i64 3)]
 else if (s.size:Int) - (at_+2)<num (piece s at_ 2) then .tup [.n (.str (ByteArray.mk (List.toArray []))),.n (.int .i64 0),.n (.int .i64 3)]
 else .tup [.n (.str (s.extract (at_+2).toNat (at_+2+num (piece s at_ 2)).toNat)),.n (.int .i64 (at_+2+num (piece s at_ 2))),.n (.int .i64 0)]
theorem cutR_three (s:ByteArray) (at_:Int):∃a b c,CutR s at_ = .tup [.n (.str a),.n (.int .i64 b),.n (.int .i64 c)]:=by
 unfold CutR
 split
 · exact ⟨_,_,_,rfl⟩
 · split
   · exact ⟨_,_,_,rfl⟩
   · split <;> exact ⟨_,_,_,rfl⟩
theorem cut_law (s:ByteArray) (hs:(s.size:Int)≤9223372036854775807) (at_:Int) (G:Int→Int→Int→Prop) (hG:∀a b c,GetR s at_ 2 = .tup [.n (.int .i64 a),.n (.int .i64 b),.n (.int .i64 c)]→G a b c):
   ∃x0 x1 x2:Int,G x0 x1 x2 ∧
    (sel (x2 != 0)
     (Mir.AV.tup [(Mir.AV.n (Mir.D.str (ByteArray.mk (List.toArray [])))),(Mir.AV.n (Mir.D.int .i64 0)),(Mir.AV.n (Mir.D.int .i64 x2))]=CutR s at_)
     (sel (decide ((Go.IntKind.wrap .i64 ((((ByteArray.size s):Nat):Int) - x1))<x0))
      (Mir.AV.tup [(Mir.AV.n (Mir.D.str (ByteArray.mk (List.toArray [])))),(Mir.AV.n (Mir.D.int .i64 0)),(Mir.AV.n (Mir.D.int .i64 3))]=CutR s at_)
      (((0:Int)≤(Go.IntKind.wrap .i64 (x1+x0))) ∧
       ((((Go.IntKind.wrap .i64 (x1+x0)):Int)≤(((ByteArray.size s):Nat):Int)) ∧
        (((0:Int)≤x1) ∧
         (((x1:Int)≤(((Int.toNat (Go.IntKind.wrap .i64 (x1+x0))):Nat):Int)) ∧
          (Mir.AV.tup [(Mir.AV.n (Mir.D.str (ByteArray.extract s (Int.toNat x1) (Int.toNat (Go.IntKind.wrap .i64 (x1+x0)))))),(Mir.AV.n (Mir.D.int .i64 (Go.IntKind.wrap .i64 (x1+x0)))),(Mir.AV.n (Mir.D.int .i64 0))]=CutR s at_))))))):=by
 by_cases h:at_<0∨(s.size:Int)<at_
 · refine ⟨_,_,_,hG _ _ _ (getR_bad (by omega)),sel_intro (fun _ => ?_) (fun h=>by cases h)⟩
   unfold CutR;rw[if_pos h]
 · by_cases h2:(s.size:Int) - at_<2
   · refine ⟨_,_,_,hG _ _ _ (getR_short (by omega) h2),sel_intro (fun _ => ?_) (fun h=>by cases h)⟩
     unfold CutR;rw[if_neg h,if_pos h2]
   · have hn:=num_le (l:=piece s at_ 2) (by have:=piece_len s at_ 2;omega)
     refine ⟨_,_,_,hG _ _ _ (getR_good (by omega) h2),sel_intro (fun h=>by cases h) (fun _ => ?_)⟩
     rw[i64_in _ (by omega)]
     refine sel_dec (fun h3 => ?_) (fun h3 => ?_)
     · unfold CutR;rw[if_neg h,if_neg h2,if_pos h3]
     · rw[i64_in _ (by omega)]
       refine ⟨by omega,by omega,by omega,by omega,?_⟩
       unfold CutR;rw[if_neg h,if_neg h2,if_neg h3]
theorem p245 (s:ByteArray) (hs:(s.size:Int)≤9223372036854775807) (at_:Int):Runs Fs 245 [.n (.str s),.n (.int .i64 at_)] [] (CutR s at_) []:=by
 refine vc_eq fs245 rfl ?_
 rewrite[vc245,(V245e _ _ _).down]
 exact cut_law s hs at_ _ fun a b c h=>h▸(p134 s hs at_ 2)
theorem p184 (s:ByteArray) (hs:(s.size:Int)≤9223372036854775807) (at_:Int):Runs Fs 184 [.n (.str s),.n (.int .i64 at_)] [] (CutR s at_) []:=by
 refine vc_eq fs184 rfl ?_
 rewrite[vc184,(V184e _ _ _).down]
 exact cut_law s hs at_ _ fun a b c h=>h▸(p139 s hs at_ 2)
theorem piece_mid {f:ByteArray} {A B C:List UInt8} {at_ k:Int} (h:f.data.toList=A++(B++C)) (ha:A.length=at_.toNat) (hb:B.length=k.toNat):piece f at_ k=B:=by
 unfold piece
 rw[h,←ha,List.drop_left,←hb,List.take_left]
theorem ext_pre {f:ByteArray} {t:ByteArray} {C:List UInt8} {n:Nat} (h:f.data.toList=t.data.toList++C) (hn:n=t.size):f.extract 0 n=t:=by
 refine bytes_ext ?_
 rw[ext_data,h,hn,←size_list,List.take_left,List.drop_zero]
theorem ext_mid {f:ByteArray} {A C:List UInt8} {b:ByteArray} {i j:Nat} (h:f.data.toList=A++(b.data.toList++C)) (hi:i=A.length) (hj:j=A.length+b.size):f.extract i j=b:=by
 refine bytes_ext ?_
 rw[ext_data,h,hi,hj,←size_list,List.take_length_add_append,List.take_left,List.drop_left]
theorem pageB_data (k g:Int) (b:ByteArray):(PageB k g b).data.toList=beB k 1++(beB g 6++(beB b.size 2++b.data.toList)):=by
 unfold PageB
 rw[cat3,strOf_data,strOf_data,be_bytes,be_bytes,textOf_data]
theorem sealS_data (t:ByteArray):∃c:List UInt8,c.length=4∧(SealS t).data.toList=t.data.toList++c:=by
 refine ⟨(le4 (tv (crc t))).map Mir.byteOf,by simp[le4],?_⟩
 unfold SealS
 rw[cat_data]
 simp[strOf_data]
theorem F_data {s:ByteArray}:(F s).data.toList=s.data.toList++List.replicate (4096 - s.size) 0:=by
 unfold F;rw[padB_data]
theorem F_trim {s t:ByteArray} (hs:s.size≤4096) (ht:t.size≤4096) (h:TrimS s=TrimS t):F s=F t:=by
 have e:tz s.data.toList=tz t.data.toList:=by rw[←trimS_data,←trimS_data,h]
 refine bytes_ext ?_
 rw[F_data,F_data]
 obtain ⟨m,h1,_⟩:=tz_split _ s.data.toList rfl
 obtain ⟨n,h2,_⟩:=tz_split _ t.data.toList rfl
 have l1:=congrArg List.length h1
 have l2:=congrArg List.length h2
 rw[List.length_append,List.length_replicate,size_list]at l1 l2
 rw[h1,h2,e,List.append_assoc,List.append_assoc,List.replicate_append_replicate,List.replicate_append_replicate]
 rw[e]at l1
 congr 2
 omega
theorem get_back' (k g:Int) (b s:ByteArray) (h:pgOK k g b) (hs:s.size≤4096) (ht:TrimS s=PageS k g b):GetPR s = .tup [pg k g b,.n (.int .i64 0)]:=by
 obtain ⟨k1,k5,g0,g1,hb⟩:=id h
 have hT:(SealS (PageB k g b)).size=13+b.size:=by rw[sealS_size,pageB_size];omega
 have hF:F s=F (SealS (PageB k g b)):=F_trim hs (by rw[hT];omega) (by rw[ht];rfl)
 obtain ⟨c,hc,hS⟩:=sealS_data (PageB k g b)
 have hd:(F s).data.toList=(SealS (PageB k g b)).data.toList++List.replicate (4096 - (13+b.size)) 0:=by rw[hF,F_data,hT]
 have hd2:(F s).data.toList=beB k 1++(beB g 6++(beB b.size 2++(b.data.toList++(c++List.replicate (4096 - (13+b.size)) 0)))):=by
  rw[hd,hS,pageB_data];simp only[List.append_assoc]
 have q0:piece (F s) 0 1=beB k 1:=piece_mid (A:=[]) hd2 rfl (beB_length _ _)
 have q1:piece (F s) 1 6=beB g 6:=piece_mid (A:=beB k 1) hd2 (beB_length _ _) (beB_length _ _)
 have q7:piece (F s) 7 2=beB b.size 2:=piece_mid (A:=beB k 1++beB g 6) (B:=beB b.size 2) (by rw[hd2];simp only[List.append_assoc];rfl) (by simp[beB_length]) (beB_length _ _)
 have n0:num (piece (F s) 0 1)=k:=by rw[q0,num_beB];show k % 256=k;omega
 have n1:num (piece (F s) 1 6)=g:=by rw[q1,num_beB];show g % 281474976710656=g;omega
 have n7:nOf (F s)=b.size:=by
  unfold nOf
  rw[q7,num_beB]
  show ((b.size:Int) % 65536).toNat=b.size
  omega
 have x0:(F s).extract 0 (9+b.size)=PageB k g b:=ext_pre (C:=c++List.replicate (4096 - (13+b.size)) 0) (by rw[hd,hS,List.append_assoc]) (by rw[pageB_size])
 have x1:(F s).extract 0 (13+b.size)=SealS (PageB k g b):=ext_pre hd hT.symm
 have x2:(F s).extract 9 (9+b.size)=b:=ext_mid (A:=beB k 1++(beB g 6++beB b.size 2)) (C:=c++List.replicate (4096 - (13+b.size)) 0) (by rw[hd2];simp only[List.append_assoc]) (by simp[beB_length]) (by simp[beB_length])
 have x3:TrimS ((F s).extract (13+b.size) 4096)=ByteArray.mk (List.toArray []):=by
  refine bytes_ext ?_
  rw[trimS_data,ext_data,hd,List.take_of_length_le (by rw[List.length_append,size_list,hT,List.length_replicate];omega),←hT,←size_list,List.drop_left]
  have:=tz_zeros [] (4096 - (SealS (PageB k g b)).data.toList.length)
  simpa[tz_nil] using this
 unfold GetPR
 rw[n7,n0,n1,x0,x1,x2,x3,if_neg (by omega),if_neg (by omega),if_neg (by simp),if_neg (by omega),if_neg (by simpa using h),if_neg (by simp)]
theorem pageS_size (k g:Int) (b:ByteArray) (h:pgOK k g b):(PageS k g b).size≤4013:=by
 have:=trimS_size (SealS (PageB k g b))
 rw[sealS_size,pageB_size]at this
 have:=h.2.2.2.2
 unfold PageS
 omega
theorem trim_pageS (k g:Int) (b:ByteArray) (n:Nat):TrimS (padB (PageS k g b) n)=PageS k g b:=by
 refine bytes_ext ?_
 rw[trimS_data,padB_data,tz_zeros,PageS,trimS_data,tz_idem]
def noB:ByteArray:=ByteArray.mk (List.toArray [])
theorem get_none:∃e,e≠0∧GetPR noB=pErr e:=by
 rcases getP_cases noB with h|⟨k,g,b,_,hok,_,_,_,hk,_⟩
 · exact h
 · exfalso
   have:num (piece (F noB) 0 1)=0:=by
    have hd:(F noB).data.toList=[]++([0]++List.replicate 4095 0):=by
     rw[F_data]
     show []++List.replicate 4096 0=_
     rw[List.replicate_succ];rfl
    rw[piece_mid (A:=[]) hd rfl rfl];rfl
   rw[this]at hk
   have:=hok.1
   omega
theorem p170 (ks:List Int) (hl:ks.length≤9223372036854775807) (k:Int):∃i,Runs Fs 170 [.o (.sl 1 (ks.map (Mir.D.int .i64))),.n (.int .i64 k)] [] (.n (.int .i64 i)) []∧(0≤i ↔ k∈ks):=by
 have hvc:Vc Fs c170.body (argsQ c170 [.o (.sl 1 (ks.map (Mir.D.int .i64))),.n (.int .i64 k)]) [] (endQ c170 fun r=>∃i,r = .n (.int .i64 i)∧(0≤i ↔ k∈ks)):=by
  rewrite[vc170,(V170e _ _ _).down]
  refine ⟨fun l v n i=>l=ks.map (Mir.D.int .i64)∧v=k∧n=ks.length∧0≤i∧i≤ks.length∧k∉ks.take i.toNat,fun l v n i=>(n - i).toNat,⟨rfl,rfl,rfl,by simp,by omega,by omega,by simp⟩,?_⟩
  rintro l v n i ⟨rfl,rfl,rfl,h0,h1,hno⟩ j
  refine sel_dec (fun h => ?_) (fun h => ?_)
  · have hlt:i.toNat<ks.length:=by omega
    refine ⟨rfl,h0,.int .i64 ks[i.toNat],by rw[List.getElem?_map,List.getElem?_eq_getElem hlt];rfl,_,rfl,sel_intro (fun he => ?_) (fun he => ?_)⟩
    · have:v=ks[i.toNat]:=by simpa using he
      exact ⟨i,rfl,fun _=>by rw[this];exact List.getElem_mem hlt,fun _=>h0⟩
    · have:v≠ks[i.toNat]:=by simpa using he
      rw[i64_in (i+1) (by omega)]
      refine ⟨rfl,⟨rfl,rfl,rfl,by omega,by omega,?_⟩,by dsimp only;omega⟩
      rw[show (i+1).toNat=i.toNat+1 by omega,List.take_add_one,List.getElem?_eq_getElem hlt]
      intro hm
      rcases List.mem_append.1 hm with hm|hm
      · exact hno hm
      · exact this (by simpa using hm)
  · refine ⟨-1,rfl,fun h=>by omega,fun hm => ?_⟩
    rw[show i.toNat=ks.length by omega,List.take_length]at hno
    exact absurd hm hno
 obtain ⟨r,hr,i,rfl,hi⟩:=vc_runs fs170 rfl hvc
 exact ⟨i,hr,hi⟩
theorem p136 (ks:List Int) (hl:ks.length≤9223372036854775807) (k:Int):Runs Fs 136 [.o (.sl 1 (ks.map (Mir.D.int .i64))),.n (.int .i64 k)] [] (.n (.bool (decide (k∈ks)))) []:=by
 refine vc_eq fs136 rfl ?_
 rewrite[vc136,(V136e _ _ _).down]
 obtain ⟨i,hr,hi⟩:=p170 ks hl k
 exact ⟨_,hr,congrArg (fun z=>AV.n (Mir.D.bool z)) (decide_eq_decide.2 hi)⟩
theorem p90_err (s:ByteArray) (hs:(s.size:Int)≤9223372036854775807) (ks:List Int) (e:Int) (he:e≠0) (h:GetPR s=pErr e):Runs Fs 90 [.n (.str s),.o (.sl 1 (ks.map (Mir.D.int .i64)))] [] (pErr e) []:=by
 refine vc_eq fs90 rfl ?_
 rewrite[vc90,(V90e _ _ _).down]
 have g:=p135 s hs
 rw[h]at g
 exact ⟨_,_,_,_,g,sel_intro (fun _=>rfl) (fun h=>absurd (by simpa using h) he)⟩
theorem p90_ok (s:ByteArray) (hs:(s.size:Int)≤9223372036854775807) (ks:List Int) (hl:ks.length≤9223372036854775807) (k g:Int) (b:ByteArray) (h:GetPR s = .tup [pg k g b,.n (.int .i64 0)]):Runs Fs 90 [.n (.str s),.o (.sl 1 (ks.map (Mir.D.int .i64)))] [] (if k∈ks then .tup [pg k g b,.n (.int .i64 0)] else pErr 40) []:=by
 refine vc_eq fs90 rfl ?_
 rewrite[vc90,(V90e _ _ _).down]
 have h21:=p135 s hs
 rw[h]at h21
 refine ⟨_,_,_,_,h21,sel_intro (fun h=>by cases h) (fun _=>⟨_,p136 ks hl k,?_⟩)⟩
 by_cases hk:k∈ks
 · rw[decide_eq_true hk,if_pos hk]
   exact sel_intro (fun h=>by cases h) (fun _=>rfl)
 · rw[decide_eq_false hk,if_neg hk]
   exact sel_intro (fun _=>rfl) (fun h=>by cases h)
def empS:ByteArray:=ByteArray.mk (List.toArray [])
def sErr (e:Int):AV := .tup [.n (.str empS),.n (.int .i64 e)]
def g3:AV→Int×Int×Int
 | .tup [.n (.int _ a),.n (.int _ b),.n (.int _ c)]=>(a,b,c)
 | _=>(0,0,0)
def c3T:AV→ByteArray×Int×Int
 | .tup [.n (.str a),.n (.int _ b),.n (.int _ c)]=>(a,b,c)
 | _=>(empS,0,0)
def gT (s:ByteArray) (a k:Int):Int×Int×Int:=g3 (GetR s a k)
def cT (s:ByteArray) (a:Int):ByteArray×Int×Int:=c3T (CutR s a)
theorem gT_eq (s:ByteArray) (a k:Int):GetR s a k = .tup [.n (.int .i64 (gT s a k).1),.n (.int .i64 (gT s a k).2.1),.n (.int .i64 (gT s a k).2.2)]:=by
 obtain ⟨x,y,z,h⟩:=getR_three s a k
 rw[gT,h];rfl
theorem cT_eq (s:ByteArray) (a:Int):CutR s a = .tup [.n (.str (cT s a).1),.n (.int .i64 (cT s a).2.1),.n (.int .i64 (cT s a).2.2)]:=by
 obtain ⟨x,y,z,h⟩:=cutR_three s a
 rw[cT,h];rfl
theorem gT_byte (s:ByteArray) (a:Int):0≤(gT s a 1).1∧(gT s a 1).1≤255:=by
 by_cases h1:(1:Int)<1∨(6:Int)<1∨a<0∨(s.size:Int)<a
 · rw[gT,getR_bad h1];exact ⟨by decide,by decide⟩
 · by_cases h2:(s.size:Int) - a<1
   · rw[gT,getR_short h1 h2];exact ⟨by decide,by decide⟩
   · rw[gT,getR_good h1 h2]
     have h3:=num_bound (piece s a 1)
     have h4:=piece_len s a 1
     have h5:(256:Int) ^ (piece s a 1).length≤256:=by
      have:(piece s a 1).length=0∨(piece s a 1).length=1:=by have:(1:Int).toNat=1:=rfl;omega
      rcases this with h|h <;> rw[h] <;> decide
     exact ⟨h3.1,by show num (piece s a 1)≤255;omega⟩
def nx (s:ByteArray) (n e:Int):Int×Int×Int:=if e≠0 then (0,n,e) else gT s n 1
def tx (s:ByteArray) (n e:Int):ByteArray×Int×Int:=if e≠0 then (empS,n,e) else cT s n
theorem bne_dec (a b:Int):(a != b)=decide (a≠b):=by
 by_cases h:a=b
 · subst h;simp
 · simp[h]
def sl_ (l:List ByteArray):List D:=l.map D.str
theorem sl_len (l:List ByteArray):(sl_ l).length=l.length:=by simp[sl_]
theorem sl_at {l:List ByteArray} {i:Nat} (h:i<l.length):(sl_ l)[i]?=some (D.str l[i]):=by simp[sl_,h]
def Fits' (l:List ByteArray):Prop:=(l.length:Int)≤9223372036854775807∧∀s∈l,(s.size:Int)≤9223372036854775807
theorem take_snoc {α:Type} {l:List α} {i:Nat} (h:i<l.length):l.take (i+1)=l.take i++[l[i]]:=by
 rw[List.take_add_one,List.getElem?_eq_getElem h];rfl
theorem sl_snoc (l:List ByteArray) (x:ByteArray):sl_ l++[D.str x]=sl_ (l++[x]):=by simp[sl_]
theorem u64_in (n:Int) (h:0≤n∧n≤18446744073709551615):IntKind.u64.wrap n=n:=by
 show n % 18446744073709551616=n
 omega
end Go.Proofs.YtegndijbpiccgaaGreatDoor.M
namespace Go.Proofs.YtegndijbpiccgaaGreatDoor.M
set_option linter.unusedVariables false
set_option linter.unusedSimpArgs false
open Go Go.Mir Go.Proofs
@[irreducible] noncomputable def b69:Cmd:=((Tryz.f69.body).bind (trC Tryz.prog [1000031,1000092] 69 [] [(5,[.keepF 69,.keep 1,.keep 37,.keep 38,.slot 39 (.one (.int .i64)),.keepO 6900000])])).getD .skip
noncomputable def c69:FnC:=⟨69,64,[(.tmp 2)],b69,false,[(.agg [(.slo 1),(.slo 1),(.slo 1),(.int .i64),(.int .i64)])],.val (.one .bool),none,false,[]⟩
theorem is69:IsFn Tryz.prog 69 c69:=⟨⟨_,_,[1000031,1000092],[],[(5,[.keepF 69,.keep 1,.keep 37,.keep 38,.slot 39 (.one (.int .i64)),.keepO 6900000])],Tryz.func69,rfl,(by kernel_rfl),rfl,(by kernel_rfl),(by kernel_rfl)⟩⟩
@[irreducible] noncomputable def b31:Cmd:=((Tryz.f31.body).bind (trC Tryz.prog [1000031,1000092] 31 [(2,([1,3],[],[(198406464,3190001,129,2),(198406465,3190002,3,1)],[])),(4,([3],[],[],[3190001,3190002]))] [])).getD .skip
noncomputable def c31:FnC:=⟨31,15,[(.tmp 2)],b31,true,[(.agg [(.slo 1),(.slo 1),(.slo 1),(.int .i64),(.int .i64)])],.val (.one .raw),none,false,[(.val (.one (.ptr 3100101 0)),[.box 3100101 [(.row 3190001),(.row 3190002),(.int .i64),.bool],.row 3190001 129 2 false,.row 3190002 3 1 false])]⟩
theorem is31:IsFn Tryz.prog 31 c31:=⟨⟨_,_,[1000031,1000092],[(2,([1,3],[],[(198406464,3190001,129,2),(198406465,3190002,3,1)],[])),(4,([3],[],[],[3190001,3190002]))],[],Tryz.func31,rfl,(by kernel_rfl),rfl,(by kernel_rfl),(by kernel_rfl)⟩⟩
@[irreducible] noncomputable def b44:Cmd:=((Tryz.f44.body).bind (trC Tryz.prog [1000031,1000092] 44 [] [(5,[.keepF 44,.keep 4,.keep 6,.keep 21,.keep 22,.slot 23 (.one (.int .i64)),.box 4400001 [(.int .i64),(.int .i64),(.int .i64)],.keepO 4460101,.row 4450101 4 1 false]),(12,[.keepF 44,.keep 4,.keep 6,.keep 60,.keep 61,.slot 62 (.one (.int .i64)),.box 4400001 [(.int .i64),(.int .i64),(.int .i64)],.keepO 4460101,.keepO 4450101])])).getD .skip
noncomputable def c44:FnC:=⟨44,86,[(.cell 4 (some 3)),(.tmp 5)],b44,false,[(.agg [(.slo 1),(.slo 1),(.slo 1),(.int .i64),(.int .i64)]),(.one (.slo 1))],.tup [(.agg [(.int .i64),(.int .i64),(.int .i64)]),(.one (.int .i64))],none,false,[]⟩
theorem is44:IsFn Tryz.prog 44 c44:=⟨⟨_,_,[1000031,1000092],[],[(5,[.keepF 44,.keep 4,.keep 6,.keep 21,.keep 22,.slot 23 (.one (.int .i64)),.box 4400001 [(.int .i64),(.int .i64),(.int .i64)],.keepO 4460101,.row 4450101 4 1 false]),(12,[.keepF 44,.keep 4,.keep 6,.keep 60,.keep 61,.slot 62 (.one (.int .i64)),.box 4400001 [(.int .i64),(.int .i64),(.int .i64)],.keepO 4460101,.keepO 4450101])],Tryz.func44,rfl,(by kernel_rfl),rfl,(by kernel_rfl),(by kernel_rfl)⟩⟩
@[irreducible] noncomputable def b106:Cmd:=((Tryz.f106.body).bind (trC Tryz.prog [1000031,1000092] 106 [] [(2,[.keepF 106,.keep 1,.keep 7,.keep 8,.slot 9 (.one (.int .i64))])])).getD .skip
noncomputable def c106:FnC:=⟨106,17,[(.tmp 4)],b106,false,[(.one (.slo 1)),(.one (.int .i64))],.val (.one .bool),none,false,[]⟩
theorem is106:IsFn Tryz.prog 106 c106:=⟨⟨_,_,[1000031,1000092],[],[(2,[.keepF 106,.keep 1,.keep 7,.keep 8,.slot 9 (.one (.int .i64))])],Tryz.func106,rfl,(by kernel_rfl),rfl,(by kernel_rfl),(by kernel_rfl)⟩⟩
@[irreducible] noncomputable def b67:Cmd:=((Tryz.f67.body).bind (trC Tryz.prog [1000031,1000092] 67 [] [])).getD .skip
noncomputable def c67:FnC:=⟨67,48,[(.tmp 2)],b67,false,[(.agg [(.slo 1),(.slo 1),(.slo 1),(.int .i64),(.int .i64)])],.val (.one .bool),none,false,[]⟩
theorem is67:IsFn Tryz.prog 67 c67:=⟨⟨_,_,[1000031,1000092],[],[],Tryz.func67,rfl,(by kernel_rfl),rfl,(by kernel_rfl),(by kernel_rfl)⟩⟩
@[irreducible] noncomputable def b113:Cmd:=((Tryz.f113.body).bind (trC Tryz.prog [1000031,1000092] 113 [] [(4,[.keepF 113,.keep 1,.slot 3 (.one (.int .i64)),.keepO 11300000])])).getD .skip
noncomputable def c113:FnC:=⟨113,41,[(.tmp 2)],b113,false,[(.agg [(.slo 1),(.slo 1)])],.val (.one .bool),none,false,[]⟩
theorem is113:IsFn Tryz.prog 113 c113:=⟨⟨_,_,[1000031,1000092],[],[(4,[.keepF 113,.keep 1,.slot 3 (.one (.int .i64)),.keepO 11300000])],Tryz.func113,rfl,(by kernel_rfl),rfl,(by kernel_rfl),(by kernel_rfl)⟩⟩
@[irreducible] noncomputable def b71:Cmd:=((Tryz.f71.body).bind (trC Tryz.prog [1000031,1000092] 71 [(11,([0,3,4,5,7,14],[7101712,7101713],[],[])),(12,([0,3,4,5,7,14,82,83,84],[7101712,7101713],[],[])),(18,([0,3,4,5,7,14,82,83,84],[7101712,7101713],[],[]))] [(2,[.keepF 71,.keep 0,.keep 2,.keep 3,.keep 4,.keep 5,.keep 7,.keep 25,.keep 26,.slot 27 (.one (.int .i64)),.box 3100101 [(.row 3190001),(.row 3190002),(.int .i64),.bool],.keepO 3190001,.keepO 3190002,.keepO 7100000]),(12,[.keepF 71,.keep 0,.keep 3,.keep 4,.keep 5,.keep 7,.keep 14,.keep 82,.keep 83,.slot 84 (.one (.int .i64)),.box 3100101 [(.row 3190001),(.row 3190002),(.int .i64),.bool],.row 3190001 129 2 false,.keepO 3190002,.keepO 7100000,.keepO 7100708]),(24,[.keepF 71,.keep 0,.keep 3,.keep 4,.keep 5,.keep 7,.keep 14,.keep 139,.keep 140,.slot 141 (.one (.int .i64)),.box 3100101 [(.row 3190001),(.row 3190002),(.int .i64),.bool],.row 3190001 129 2 false,.row 3190002 3 1 false,.keepO 7100000,.keepO 7100708])])).getD .skip
noncomputable def c71:FnC:=⟨71,180,[],b71,false,[(.one .raw),(.agg [(.slo 1),(.slo 1),(.slo 1),(.int .i64),(.int .i64)]),(.one (.int .i64)),(.one (.int .i64)),(.one .str),(.one .str)],.tup [],none,true,[]⟩
theorem is71:IsFn Tryz.prog 71 c71:=⟨⟨_,_,[1000031,1000092],[(11,([0,3,4,5,7,14],[7101712,7101713],[],[])),(12,([0,3,4,5,7,14,82,83,84],[7101712,7101713],[],[])),(18,([0,3,4,5,7,14,82,83,84],[7101712,7101713],[],[]))],[(2,[.keepF 71,.keep 0,.keep 2,.keep 3,.keep 4,.keep 5,.keep 7,.keep 25,.keep 26,.slot 27 (.one (.int .i64)),.box 3100101 [(.row 3190001),(.row 3190002),(.int .i64),.bool],.keepO 3190001,.keepO 3190002,.keepO 7100000]),(12,[.keepF 71,.keep 0,.keep 3,.keep 4,.keep 5,.keep 7,.keep 14,.keep 82,.keep 83,.slot 84 (.one (.int .i64)),.box 3100101 [(.row 3190001),(.row 3190002),(.int .i64),.bool],.row 3190001 129 2 false,.keepO 3190002,.keepO 7100000,.keepO 7100708]),(24,[.keepF 71,.keep 0,.keep 3,.keep 4,.keep 5,.keep 7,.keep 14,.keep 139,.keep 140,.slot 141 (.one (.int .i64)),.box 3100101 [(.row 3190001),(.row 3190002),(.int .i64),.bool],.row 3190001 129 2 false,.row 3190002 3 1 false,.keepO 7100000,.keepO 7100708])],Tryz.func71,rfl,(by kernel_rfl),rfl,(by kernel_rfl),(by kernel_rfl)⟩⟩
@[irreducible] noncomputable def b194:Cmd:=((Tryz.f194.body).bind (trC Tryz.prog [1000031,1000092] 194 [] [])).getD .skip
noncomputable def c194:FnC:=⟨194,81,[(.cell 6 (some 4)),(.tmp 7)],b194,false,[(.one .raw),(.one (.int .i64)),(.one .bool)],.tup [(.agg [.bool,(.sln 1),(.sln 1),(.sln 1)]),(.one .bool)],none,true,[]⟩
theorem is194:IsFn Tryz.prog 194 c194:=⟨⟨_,_,[1000031,1000092],[],[],Tryz.func194,rfl,(by kernel_rfl),rfl,(by kernel_rfl),(by kernel_rfl)⟩⟩
@[irreducible] noncomputable def b92:Cmd:=((Tryz.f92.body).bind (trC Tryz.prog [1000031,1000092] 92 [(6,([4],[],[],[9200305]))] [])).getD .skip
noncomputable def c92:FnC:=⟨92,28,[(.tmp 2),(.tmp 3)],b92,true,[(.agg [(.slo 1),(.slo 1),(.slo 1),(.int .i64),(.int .i64)])],.tup [(.one .raw),(.one (.int .i64))],none,false,[(.tup [(.one (.ptr 9200307 0)),(.one (.int .i64))],[.box 9200307 [(.slo 1),(.slo 1),(.slo 1),(.int .i64),(.int .i64),(.int .i64),(.int .i64),(.int .i64),(.row 9200305),.bool],.row 9200305 4 1 false]),(.tup [(.one .nilp),(.one (.int .i64))],[])]⟩
theorem is92:IsFn Tryz.prog 92 c92:=⟨⟨_,_,[1000031,1000092],[(6,([4],[],[],[9200305]))],[],Tryz.func92,rfl,(by kernel_rfl),rfl,(by kernel_rfl),(by kernel_rfl)⟩⟩
@[irreducible] noncomputable def b75:Cmd:=((Tryz.f75.body).bind (trC Tryz.prog [1000031,1000092] 75 [] [])).getD .skip
noncomputable def c75:FnC:=⟨75,29,[(.tmp 2)],b75,false,[(.agg [(.slo 1),(.slo 1)])],.val (.one .bool),none,false,[]⟩
theorem is75:IsFn Tryz.prog 75 c75:=⟨⟨_,_,[1000031,1000092],[],[],Tryz.func75,rfl,(by kernel_rfl),rfl,(by kernel_rfl),(by kernel_rfl)⟩⟩
def b111:Cmd:=(.seq (.region [(o 4 (.mov (.const (.bool false))))]) (.seq (.region [(m 5 0),(m 6 1),(os 7 (.call false 146 [(T 5),(T 6)]) sI),(o 8 (.bin .geq (T 7) (N 0))),(m 4 8)]) .ret))
noncomputable def c111:FnC:=⟨111,9,[(.tmp 4)],b111,false,[(.one (.slo 1)),(.one .raw)],.val (.one .bool),none,false,[]⟩
theorem is111:IsFn Tryz.prog 111 c111:=⟨⟨_,_,[1000031,1000092],[],[],Tryz.func111,rfl,(by kernel_rfl),rfl,(by kernel_rfl),(by kernel_rfl)⟩⟩
def b112:Cmd:=(.seq (.region [(o 2 (.mov (.const (.bool false))))]) (.seq (.region [(m 3 0),(os 4 (.slen (T 3)) sI),(o 5 (.bin .gtr (T 4) (N 4096))),(m 2 5)]) .ret))
noncomputable def c112:FnC:=⟨112,6,[(.tmp 2)],b112,false,[(.one .str)],.val (.one .bool),none,false,[]⟩
theorem is112:IsFn Tryz.prog 112 c112:=⟨⟨_,_,[1000031,1000092],[],[],Tryz.func112,rfl,(by kernel_rfl),rfl,(by kernel_rfl),(by kernel_rfl)⟩⟩
@[irreducible] noncomputable def b117:Cmd:=((Tryz.f117.body).bind (trC Tryz.prog [1000031,1000092] 117 [] [])).getD .skip
noncomputable def c117:FnC:=⟨117,76,[(.cell 6 (some 4)),(.tmp 7)],b117,false,[(.agg [(.slo 1),(.slo 1),(.slo 1),(.int .i64),(.int .i64)]),(.one (.int .i64)),(.one .bool)],.tup [(.agg [.bool,(.slo 1),(.slo 1),(.slo 1)]),(.one .bool)],none,false,[]⟩
theorem is117:IsFn Tryz.prog 117 c117:=⟨⟨_,_,[1000031,1000092],[],[],Tryz.func117,rfl,(by kernel_rfl),rfl,(by kernel_rfl),(by kernel_rfl)⟩⟩
@[irreducible] noncomputable def b118:Cmd:=((Tryz.f118.body).bind (trC Tryz.prog [1000031,1000092] 118 [] [])).getD .skip
noncomputable def c118:FnC:=⟨118,19,[(.tmp 6)],b118,false,[(.one .str),(.one .str),(.one .str)],.val (.one .bool),none,false,[]⟩
theorem is118:IsFn Tryz.prog 118 c118:=⟨⟨_,_,[1000031,1000092],[],[],Tryz.func118,rfl,(by kernel_rfl),rfl,(by kernel_rfl),(by kernel_rfl)⟩⟩
@[irreducible] noncomputable def b217:Cmd:=((Tryz.f217.body).bind (trC Tryz.prog [1000031,1000092] 217 [(6,([1,4,6,7,8],[21701004,21701005,21701104,21701105,21701204,21701205,21701304,21701305],[],[])),(7,([1,4,6,7,8,9],[21701004,21701005,21701104,21701105,21701204,21701205,21701304,21701305],[],[])),(8,([1,4,6,7,8,9],[21701004,21701005,21701104,21701105,21701204,21701205,21701304,21701305],[],[])),(5,([1,4,6,7],[],[(1388825793,21790001,9,1),(1388825794,21790002,9,1),(1388825795,21790003,3,1)],[]))] [(7,[.keepF 217,.keep 1,.keep 4,.keep 6,.keep 7,.keep 8,.slot 9 (.one (.int .i64)),.keepO 21700000,.box 21700302 [.str,(.int .i64),(.int .i64)],.box 21700403 [.bool,(.row 21790001),(.row 21790002),(.row 21790003)],.row 21790001 9 1 true,.row 21790002 9 1 true,.row 21790003 3 1 true])])).getD .skip
noncomputable def c217:FnC:=⟨217,103,[(.cell 4 (some 4)),(.tmp 5)],b217,false,[(.one (.int .i64)),(.one .str)],.tup [(.agg [.bool,(.sln 1),(.sln 1),(.sln 1)]),(.one (.int .i64))],none,false,[]⟩
theorem is217:IsFn Tryz.prog 217 c217:=⟨⟨_,_,[1000031,1000092],[(6,([1,4,6,7,8],[21701004,21701005,21701104,21701105,21701204,21701205,21701304,21701305],[],[])),(7,([1,4,6,7,8,9],[21701004,21701005,21701104,21701105,21701204,21701205,21701304,21701305],[],[])),(8,([1,4,6,7,8,9],[21701004,21701005,21701104,21701105,21701204,21701205,21701304,21701305],[],[])),(5,([1,4,6,7],[],[(1388825793,21790001,9,1),(1388825794,21790002,9,1),(1388825795,21790003,3,1)],[]))],[(7,[.keepF 217,.keep 1,.keep 4,.keep 6,.keep 7,.keep 8,.slot 9 (.one (.int .i64)),.keepO 21700000,.box 21700302 [.str,(.int .i64),(.int .i64)],.box 21700403 [.bool,(.row 21790001),(.row 21790002),(.row 21790003)],.row 21790001 9 1 true,.row 21790002 9 1 true,.row 21790003 3 1 true])],Tryz.func217,rfl,(by kernel_rfl),rfl,(by kernel_rfl),(by kernel_rfl)⟩⟩
@[irreducible] noncomputable def b195:Cmd:=((Tryz.f195.body).bind (trC Tryz.prog [1000031,1000092] 195 [] [])).getD .skip
noncomputable def c195:FnC:=⟨195,22,[(.tmp 4)],b195,false,[(.agg [.bool,(.slo 1),(.slo 1),(.slo 1)]),(.one .bool)],.val (.one .bool),none,false,[]⟩
theorem is195:IsFn Tryz.prog 195 c195:=⟨⟨_,_,[1000031,1000092],[],[],Tryz.func195,rfl,(by kernel_rfl),rfl,(by kernel_rfl),(by kernel_rfl)⟩⟩
@[irreducible] noncomputable def b197:Cmd:=((Tryz.f197.body).bind (trC Tryz.prog [1000031,1000092] 197 [] [(5,[.keepF 197,.keep 1,.keep 3,.keep 12,.keep 13,.slot 14 (.one (.int .i64)),.keepO 19700000])])).getD .skip
noncomputable def c197:FnC:=⟨197,83,[(.tmp 2)],b197,false,[(.agg [.bool,(.slo 1),(.slo 1),(.slo 1)])],.val (.one .bool),none,false,[]⟩
theorem is197:IsFn Tryz.prog 197 c197:=⟨⟨_,_,[1000031,1000092],[],[(5,[.keepF 197,.keep 1,.keep 3,.keep 12,.keep 13,.slot 14 (.one (.int .i64)),.keepO 19700000])],Tryz.func197,rfl,(by kernel_rfl),rfl,(by kernel_rfl),(by kernel_rfl)⟩⟩
@[irreducible] noncomputable def b137:Cmd:=((Tryz.f137.body).bind (trC Tryz.prog [1000031,1000092] 137 [] [(13,[.keepF 137,.keep 0,.keep 2,.keep 8,.keep 9,.keep 10,.keep 121,.keep 122,.slot 123 (.one (.int .i64)),.box 9200307 [(.slo 1),(.slo 1),(.slo 1),(.int .i64),(.int .i64),(.int .i64),(.int .i64),(.int .i64),(.row 9200305),.bool],.row 9200305 4 1 false,.keepO 13700000,.keepO 13700001,.keepO 13700111])])).getD .skip
noncomputable def c137:FnC:=⟨137,160,[],b137,false,[(.one .raw),(.one (.int .i64)),(.one (.int .i64)),(.one .str),(.one .str)],.tup [],none,true,[]⟩
theorem is137:IsFn Tryz.prog 137 c137:=⟨⟨_,_,[1000031,1000092],[],[(13,[.keepF 137,.keep 0,.keep 2,.keep 8,.keep 9,.keep 10,.keep 121,.keep 122,.slot 123 (.one (.int .i64)),.box 9200307 [(.slo 1),(.slo 1),(.slo 1),(.int .i64),(.int .i64),(.int .i64),(.int .i64),(.int .i64),(.row 9200305),.bool],.row 9200305 4 1 false,.keepO 13700000,.keepO 13700001,.keepO 13700111])],Tryz.func137,rfl,(by kernel_rfl),rfl,(by kernel_rfl),(by kernel_rfl)⟩⟩
@[irreducible] noncomputable def b121:Cmd:=((Tryz.f121.body).bind (trC Tryz.prog [1000031,1000092] 121 [(2,([0,3],[12100401],[],[])),(3,([0,3,6,7],[12100401],[],[])),(7,([0,3,6,7],[12100401],[],[]))] [(3,[.keepF 121,.keep 0,.slot 3 (.one (.int .i64)),.keep 6,.slot 7 (.one (.int .i64))])])).getD .skip
noncomputable def c121:FnC:=⟨121,18,[(.tmp 2)],b121,false,[(.one (.slo 1))],.val (.one (.int .i64)),none,false,[]⟩
theorem is121:IsFn Tryz.prog 121 c121:=⟨⟨_,_,[1000031,1000092],[(2,([0,3],[12100401],[],[])),(3,([0,3,6,7],[12100401],[],[])),(7,([0,3,6,7],[12100401],[],[]))],[(3,[.keepF 121,.keep 0,.slot 3 (.one (.int .i64)),.keep 6,.slot 7 (.one (.int .i64))])],Tryz.func121,rfl,(by kernel_rfl),rfl,(by kernel_rfl),(by kernel_rfl)⟩⟩
@[irreducible] noncomputable def b146:Cmd:=((Tryz.f146.body).bind (trC Tryz.prog [1000031,1000092] 146 [] [(2,[.keepF 146,.keep 0,.keep 1,.keep 7,.slot 8 (.one (.int .i64))])])).getD .skip
noncomputable def c146:FnC:=⟨146,19,[(.tmp 4)],b146,false,[(.one (.slo 1)),(.one .raw)],.val (.one (.int .i64)),none,false,[]⟩
theorem is146:IsFn Tryz.prog 146 c146:=⟨⟨_,_,[1000031,1000092],[],[(2,[.keepF 146,.keep 0,.keep 1,.keep 7,.slot 8 (.one (.int .i64))])],Tryz.func146,rfl,(by kernel_rfl),rfl,(by kernel_rfl),(by kernel_rfl)⟩⟩
@[irreducible] noncomputable def b171:Cmd:=((Tryz.f171.body).bind (trC Tryz.prog [1000031,1000092] 171 [] [])).getD .skip
noncomputable def c171:FnC:=⟨171,29,[(.cell 6 (some 4)),(.tmp 7)],b171,false,[(.agg [(.slo 1),(.slo 1),(.slo 1),(.int .i64),(.int .i64)]),(.one (.int .i64)),(.one .bool)],.tup [(.agg [.bool,(.sln 1),(.sln 1),(.sln 1)]),(.one (.int .i64))],none,false,[]⟩
theorem is171:IsFn Tryz.prog 171 c171:=⟨⟨_,_,[1000031,1000092],[],[],Tryz.func171,rfl,(by kernel_rfl),rfl,(by kernel_rfl),(by kernel_rfl)⟩⟩
@[irreducible] noncomputable def b153:Cmd:=((Tryz.f153.body).bind (trC Tryz.prog [1000031,1000092] 153 [(5,([0,1,4,6,7,8,9],[15301203,15301703,15302303],[(979219393,15301704,9,1),(979219394,15302304,9,1),(979219395,15301204,3,1)],[])),(6,([0,1,4,6,7,8,9,10],[15301203,15301703,15302303],[(979219393,15301704,9,1),(979219394,15302304,9,1),(979219395,15301204,3,1)],[])),(7,([0,1,4,6,7,8,9,10],[15301203,15301703,15302303],[],[]))] [(6,[.keepF 153,.keep 0,.keep 1,.keep 4,.keep 6,.keep 7,.slot 8 (.one (.int .i64)),.keep 9,.slot 10 (.one (.int .i64)),.box 15300000 [.bool,.nil,.nil,.nil],.box 15300303 [.bool,(.row 15301704),(.row 15302304),(.row 15301204)],.row 15301704 9 1 true,.row 15302304 9 1 true,.row 15301204 3 1 true])])).getD .skip
noncomputable def c153:FnC:=⟨153,142,[(.cell 4 (some 4)),(.tmp 5)],b153,false,[(.one (.int .i64)),(.one .str)],.tup [(.agg [.bool,(.slo 1),(.slo 1),(.slo 1)]),(.one (.int .i64))],none,false,[]⟩
theorem is153:IsFn Tryz.prog 153 c153:=⟨⟨_,_,[1000031,1000092],[(5,([0,1,4,6,7,8,9],[15301203,15301703,15302303],[(979219393,15301704,9,1),(979219394,15302304,9,1),(979219395,15301204,3,1)],[])),(6,([0,1,4,6,7,8,9,10],[15301203,15301703,15302303],[(979219393,15301704,9,1),(979219394,15302304,9,1),(979219395,15301204,3,1)],[])),(7,([0,1,4,6,7,8,9,10],[15301203,15301703,15302303],[],[]))],[(6,[.keepF 153,.keep 0,.keep 1,.keep 4,.keep 6,.keep 7,.slot 8 (.one (.int .i64)),.keep 9,.slot 10 (.one (.int .i64)),.box 15300000 [.bool,.nil,.nil,.nil],.box 15300303 [.bool,(.row 15301704),(.row 15302304),(.row 15301204)],.row 15301704 9 1 true,.row 15302304 9 1 true,.row 15301204 3 1 true])],Tryz.func153,rfl,(by kernel_rfl),rfl,(by kernel_rfl),(by kernel_rfl)⟩⟩
@[irreducible] noncomputable def b154:Cmd:=((Tryz.f154.body).bind (trC Tryz.prog [1000031,1000092] 154 [] [])).getD .skip
noncomputable def c154:FnC:=⟨154,22,[(.tmp 4)],b154,false,[(.agg [.bool,(.slo 1),(.slo 1),(.slo 1)]),(.one .bool)],.val (.one .bool),none,false,[]⟩
theorem is154:IsFn Tryz.prog 154 c154:=⟨⟨_,_,[1000031,1000092],[],[],Tryz.func154,rfl,(by kernel_rfl),rfl,(by kernel_rfl),(by kernel_rfl)⟩⟩
@[irreducible] noncomputable def b237:Cmd:=((Tryz.f237.body).bind (trC Tryz.prog [1000031,1000092] 237 [] [])).getD .skip
noncomputable def c237:FnC:=⟨237,36,[(.tmp 4)],b237,false,[(.one .raw),(.one (.int .i64))],.val (.one (.int .i64)),none,true,[]⟩
theorem is237:IsFn Tryz.prog 237 c237:=⟨⟨_,_,[1000031,1000092],[],[],Tryz.func237,rfl,(by kernel_rfl),rfl,(by kernel_rfl),(by kernel_rfl)⟩⟩
@[irreducible] noncomputable def b238:Cmd:=((Tryz.f238.body).bind (trC Tryz.prog [1000031,1000092] 238 [] [])).getD .skip
noncomputable def c238:FnC:=⟨238,33,[(.tmp 2)],b238,false,[(.one .raw)],.val (.one .str),none,true,[]⟩
theorem is238:IsFn Tryz.prog 238 c238:=⟨⟨_,_,[1000031,1000092],[],[],Tryz.func238,rfl,(by kernel_rfl),rfl,(by kernel_rfl),(by kernel_rfl)⟩⟩
def b218:Cmd:=(.seq (.region [(o 2 (.mov (.const (.bool false))))]) (.seq (.region [(m 3 0),(os 4 (.slen (T 3)) sI),(o 5 (.bin .gtr (T 4) (N 200))),(m 2 5)]) .ret))
noncomputable def c218:FnC:=⟨218,6,[(.tmp 2)],b218,false,[(.one .str)],.val (.one .bool),none,false,[]⟩
theorem is218:IsFn Tryz.prog 218 c218:=⟨⟨_,_,[1000031,1000092],[],[],Tryz.func218,rfl,(by kernel_rfl),rfl,(by kernel_rfl),(by kernel_rfl)⟩⟩
def b219:Cmd:=(.seq (.region [(o 4 (.mov (.const (.bool false))))]) (.seq (.region [(m 5 0),(m 6 1),(os 7 (.call false 239 [(T 5),(T 6)]) sI),(o 8 (.bin .geq (T 7) (N 0))),(m 4 8)]) .ret))
noncomputable def c219:FnC:=⟨219,9,[(.tmp 4)],b219,false,[(.one (.slo 1)),(.one .raw)],.val (.one .bool),none,false,[]⟩
theorem is219:IsFn Tryz.prog 219 c219:=⟨⟨_,_,[1000031,1000092],[],[],Tryz.func219,rfl,(by kernel_rfl),rfl,(by kernel_rfl),(by kernel_rfl)⟩⟩
def b220:Cmd:=(.seq (.region [(o 2 (.mov (.const (.bool false))))]) (.seq (.region [(m 3 0),(o 4 (.bin .lss (T 3) (N 10))),(m 5 4),(gd 6 (.mov (T 0)) 5 false),(gd 7 (.bin .geq (T 6) (N 2048)) 5 false),(o 8 (.pick (T 5) (.const (.bool true)) (T 7))),(m 2 8)]) .ret))
noncomputable def c220:FnC:=⟨220,9,[(.tmp 2)],b220,false,[(.one (.int .i64))],.val (.one .bool),none,false,[]⟩
theorem is220:IsFn Tryz.prog 220 c220:=⟨⟨_,_,[1000031,1000092],[],[],Tryz.func220,rfl,(by kernel_rfl),rfl,(by kernel_rfl),(by kernel_rfl)⟩⟩
@[irreducible] noncomputable def b172:Cmd:=((Tryz.f172.body).bind (trC Tryz.prog [1000031,1000092] 172 [] [])).getD .skip
noncomputable def c172:FnC:=⟨172,17,[(.tmp 4)],b172,false,[(.one .str)],.val (.one .bool),none,false,[]⟩
theorem is172:IsFn Tryz.prog 172 c172:=⟨⟨_,_,[1000031,1000092],[],[],Tryz.func172,rfl,(by kernel_rfl),rfl,(by kernel_rfl),(by kernel_rfl)⟩⟩
@[irreducible] noncomputable def b122:Cmd:=((Tryz.f122.body).bind (trC Tryz.prog [1000031,1000092] 122 [] [(3,[.keepF 122,.slot 3 (.one (.int .i64)),.keep 6,.keep 7,.slot 8 (.one (.int .i64))])])).getD .skip
noncomputable def c122:FnC:=⟨122,18,[(.tmp 2)],b122,false,[(.one (.slo 1))],.val (.one (.int .i64)),none,false,[]⟩
theorem is122:IsFn Tryz.prog 122 c122:=⟨⟨_,_,[1000031,1000092],[],[(3,[.keepF 122,.slot 3 (.one (.int .i64)),.keep 6,.keep 7,.slot 8 (.one (.int .i64))])],Tryz.func122,rfl,(by kernel_rfl),rfl,(by kernel_rfl),(by kernel_rfl)⟩⟩
def b123:Cmd:=(.seq (.region [(o 4 (.mov (.const (.bool false))))]) (.seq (.region [(m 5 0),(m 6 1),(os 7 (.call false 158 [(T 5),(T 6)]) sI),(o 8 (.bin .geq (T 7) (N 0))),(m 4 8)]) .ret))
noncomputable def c123:FnC:=⟨123,9,[(.tmp 4)],b123,false,[(.one (.slo 1)),(.one .raw)],.val (.one .bool),none,false,[]⟩
theorem is123:IsFn Tryz.prog 123 c123:=⟨⟨_,_,[1000031,1000092],[],[],Tryz.func123,rfl,(by kernel_rfl),rfl,(by kernel_rfl),(by kernel_rfl)⟩⟩
def b157:Cmd:=(.seq (.region [(o 3 (.mov (.const (.bool false))))]) (.seq (.region [(m 4 0),(os 5 (.ld (T 1) none) sI),(os 6 (.call false 125 [(T 4),(T 5)]) sB),(o 7 (.un .not (T 6))),(m 3 7)]) .ret))
noncomputable def c157:FnC:=⟨157,8,[(.tmp 3)],b157,false,[(.one (.slo 1))],.val (.one .bool),none,false,[]⟩
theorem is157:IsFn Tryz.prog 157 c157:=⟨⟨_,_,[1000031,1000092],[],[],Tryz.func157,rfl,(by kernel_rfl),rfl,(by kernel_rfl),(by kernel_rfl)⟩⟩
def b125:Cmd:=(.seq (.region [(o 4 (.mov (.const (.bool false))))]) (.seq (.region [(m 5 1),(m 6 0),(os 7 (.len (T 6)) sI),(o 8 (.bin .lss (T 5) (T 7))),(m 9 8),(gd 10 (.mov (T 0)) 9 true),(gd 11 (.mov (T 1)) 9 true),(gd 12 (.idxA (T 10) (T 11) 1) 9 true),(gs 13 (.ld (T 12) none) 9 true sB),(o 14 (.pick (T 9) (T 13) (.const (.bool false)))),(m 4 14)]) .ret))
noncomputable def c125:FnC:=⟨125,15,[(.tmp 4)],b125,false,[(.one (.slo 1)),(.one (.int .i64))],.val (.one .bool),none,false,[]⟩
theorem is125:IsFn Tryz.prog 125 c125:=⟨⟨_,_,[1000031,1000092],[],[],Tryz.func125,rfl,(by kernel_rfl),rfl,(by kernel_rfl),(by kernel_rfl)⟩⟩
@[irreducible] noncomputable def b185:Cmd:=((Tryz.f185.body).bind (trC Tryz.prog [1000031,1000092] 185 [] [(4,[.keepF 185,.keep 1,.keep 14,.keep 15,.slot 16 (.one (.int .i64)),.keepO 18500000]),(10,[.keepF 185,.keep 1,.keep 45,.keep 46,.slot 47 (.one (.int .i64)),.keepO 18500000]),(16,[.keepF 185,.keep 1,.keep 56,.keep 57,.slot 58 (.one (.int .i64)),.keepO 18500000])])).getD .skip
noncomputable def c185:FnC:=⟨185,104,[(.tmp 2)],b185,false,[(.agg [.bool,(.slo 1),(.slo 1),(.slo 1)])],.val (.one .bool),none,false,[]⟩
theorem is185:IsFn Tryz.prog 185 c185:=⟨⟨_,_,[1000031,1000092],[],[(4,[.keepF 185,.keep 1,.keep 14,.keep 15,.slot 16 (.one (.int .i64)),.keepO 18500000]),(10,[.keepF 185,.keep 1,.keep 45,.keep 46,.slot 47 (.one (.int .i64)),.keepO 18500000]),(16,[.keepF 185,.keep 1,.keep 56,.keep 57,.slot 58 (.one (.int .i64)),.keepO 18500000])],Tryz.func185,rfl,(by kernel_rfl),rfl,(by kernel_rfl),(by kernel_rfl)⟩⟩
@[irreducible] noncomputable def b239:Cmd:=((Tryz.f239.body).bind (trC Tryz.prog [1000031,1000092] 239 [] [(2,[.keepF 239,.keep 0,.keep 1,.keep 7,.slot 8 (.one (.int .i64))])])).getD .skip
noncomputable def c239:FnC:=⟨239,19,[(.tmp 4)],b239,false,[(.one (.slo 1)),(.one .raw)],.val (.one (.int .i64)),none,false,[]⟩
theorem is239:IsFn Tryz.prog 239 c239:=⟨⟨_,_,[1000031,1000092],[],[(2,[.keepF 239,.keep 0,.keep 1,.keep 7,.slot 8 (.one (.int .i64))])],Tryz.func239,rfl,(by kernel_rfl),rfl,(by kernel_rfl),(by kernel_rfl)⟩⟩
@[irreducible] noncomputable def b158:Cmd:=((Tryz.f158.body).bind (trC Tryz.prog [1000031,1000092] 158 [] [(2,[.keepF 158,.keep 0,.keep 1,.keep 7,.slot 8 (.one (.int .i64))])])).getD .skip
noncomputable def c158:FnC:=⟨158,19,[(.tmp 4)],b158,false,[(.one (.slo 1)),(.one .raw)],.val (.one (.int .i64)),none,false,[]⟩
theorem is158:IsFn Tryz.prog 158 c158:=⟨⟨_,_,[1000031,1000092],[],[(2,[.keepF 158,.keep 0,.keep 1,.keep 7,.slot 8 (.one (.int .i64))])],Tryz.func158,rfl,(by kernel_rfl),rfl,(by kernel_rfl),(by kernel_rfl)⟩⟩
noncomputable def own2:List (Nat×Fun):=[(69,.code c69),(31,.code c31),(44,.code c44),(106,.code c106),(67,.code c67),(113,.code c113),(71,.code c71),(194,.code c194),(92,.code c92),(75,.code c75),(111,.code c111),(112,.code c112),(117,.code c117),(118,.code c118),(217,.code c217),(195,.code c195),(197,.code c197),(137,.code c137),(121,.code c121),(146,.code c146),(171,.code c171),(153,.code c153),(154,.code c154),(237,.code c237),(238,.code c238),(218,.code c218),(219,.code c219),(220,.code c220),(172,.code c172),(122,.code c122),(123,.code c123),(157,.code c157),(125,.code c125),(185,.code c185),(239,.code c239),(158,.code c158)]
noncomputable def funs2:List (Nat×Fun):=own2++funs
noncomputable def Fs2:Nat→Option Fun:=table funs2
set_option maxRecDepth 100000 in
theorem company2:Company Tryz.prog Fs2:=
 .cons is69 <| .cons is31 <| .cons is44 <| .cons is106 <| .cons is67 <| .cons is113 <| .cons is71 <| .cons is194 <| .cons is92 <| .cons is75 <| .cons is111 <| .cons is112 <| .cons is117 <| .cons is118 <| .cons is217 <| .cons is195 <| .cons is197 <| .cons is137 <| .cons is121 <| .cons is146 <| .cons is171 <| .cons is153 <| .cons is154 <| .cons is237 <| .cons is238 <| .cons is218 <| .cons is219 <| .cons is220 <| .cons is172 <| .cons is122 <| .cons is123 <| .cons is157 <| .cons is125 <| .cons is185 <| .cons is239 <| .cons is158 <| company
theorem up2:FsLe Fs Fs2:=table_up (by kernel_rfl)
theorem fs69:Fs2 69=some (.code c69):=rfl
theorem fs31:Fs2 31=some (.code c31):=rfl
theorem fs44:Fs2 44=some (.code c44):=rfl
theorem fs106:Fs2 106=some (.code c106):=rfl
theorem fs67:Fs2 67=some (.code c67):=rfl
theorem fs113:Fs2 113=some (.code c113):=rfl
theorem fs71:Fs2 71=some (.code c71):=rfl
theorem fs194:Fs2 194=some (.code c194):=rfl
theorem fs92:Fs2 92=some (.code c92):=rfl
theorem fs75:Fs2 75=some (.code c75):=rfl
theorem fs111:Fs2 111=some (.code c111):=rfl
theorem fs112:Fs2 112=some (.code c112):=rfl
theorem fs117:Fs2 117=some (.code c117):=rfl
theorem fs118:Fs2 118=some (.code c118):=rfl
theorem fs217:Fs2 217=some (.code c217):=rfl
theorem fs195:Fs2 195=some (.code c195):=rfl
theorem fs197:Fs2 197=some (.code c197):=rfl
theorem fs137:Fs2 137=some (.code c137):=rfl
theorem fs121:Fs2 121=some (.code c121):=rfl
theorem fs146:Fs2 146=some (.code c146):=rfl
theorem fs171:Fs2 171=some (.code c171):=rfl
theorem fs153:Fs2 153=some (.code c153):=rfl
theorem fs154:Fs2 154=some (.code c154):=rfl
theorem fs237:Fs2 237=some (.code c237):=rfl
theorem fs238:Fs2 238=some (.code c238):=rfl
theorem fs218:Fs2 218=some (.code c218):=rfl
theorem fs219:Fs2 219=some (.code c219):=rfl
theorem fs220:Fs2 220=some (.code c220):=rfl
theorem fs172:Fs2 172=some (.code c172):=rfl
theorem fs122:Fs2 122=some (.code c122):=rfl
theorem fs123:Fs2 123=some (.code c123):=rfl
theorem fs157:Fs2 157=some (.code c157):=rfl
theorem fs125:Fs2 125=some (.code c125):=rfl
theorem fs185:Fs2 185=some (.code c185):=rfl
theorem fs239:Fs2 239=some (.code c239):=rfl
theorem fs158:Fs2 158=some (.code c158):=rfl
end Go.Proofs.YtegndijbpiccgaaGreatDoor.M
