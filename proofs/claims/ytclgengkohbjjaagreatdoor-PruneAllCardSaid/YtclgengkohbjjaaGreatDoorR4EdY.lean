import Derived.Test.YtclgengkohbjjaaGreatDoorR4EV
namespace Go.Proofs.YtclgengkohbjjaaGreatDoor.M
set_option linter.unusedVariables false
set_option linter.unusedSimpArgs false
open Go Go.Mir
set_option linter.unusedVariables false
def hFi (i:Int):Heap:=[(11300102,.box [.n (.int .i64 i)])]
theorem p145 (a:List Bool) (i:Int) (h0:0≤i):Runs Fs3 145 [.o (.sl 1 (blD a)),.ptr 11300102 0] (hFi i) (.n (.bool (tr a i.toNat))) (hFi i):=by
 refine vc_look fs145 rfl (by kernel_rfl) ?_
 rewrite[hFi,vc145h,(V145he _ _ _).down]
 exact ⟨_,(p136 a i h0).up up3,rfl,rfl⟩
theorem fs3_157:Fs3 157=some (.code c157):=rfl
theorem fs3_134:Fs3 134=some (.code c134):=rfl
theorem p157f (L:List (List Bool)) (hl:Small L.length) (i:Int) (h0:0≤i):∃r:Int,decide (r≥0)=L.any (fun a=>tr a i.toNat)∧Runs Fs3 157 [.o (.sl 1 (bls L)),.fn 145 [.ptr 11300102 0]] (hFi i) (.n (.int .i64 r)) (hFi i):=by
 have key:∃r H',Runs Fs3 157 [.o (.sl 1 (bls L)),.fn 145 [.ptr 11300102 0]] (hFi i) r H'∧∃k:Int,r = .n (.int .i64 k)∧H'=hFi i∧decide (k≥0)=L.any (fun a=>tr a i.toNat):=by
  refine vc_objs (R:=fun r H'=>∃k:Int,r = .n (.int .i64 k)∧H'=hFi i∧decide (k≥0)=L.any (fun a=>tr a i.toNat)) fs3_157 rfl (by kernel_rfl) ?_
  rw[hFi,vc157f,(V157fe _ _ _).down,bls_len]
  refine ⟨fun k=>0≤k∧k≤L.length∧∀(j:Nat) (h:j<L.length),(j:Int)<k→tr L[j] i.toNat=false,fun k=>(L.length - k).toNat,⟨rfl,by omega,by omega,fun j _ hj=>by omega⟩,?_⟩
  rintro k ⟨k0,k1,hok⟩ _
  refine sel_dec (fun h => ?_) (fun h=>⟨-1,rfl,rfl,?_⟩)
  · have hi:k.toNat<L.length:=by omega
    refine ⟨rfl,k0,_,bls_at hi,_,rfl,_,p145 _ i h0,sel_intro (fun hb=>⟨k,rfl,rfl,?_⟩) (fun hb => ?_)⟩
    · rw[decide_eq_true k0];exact (any_at (p:=fun a:List Bool=>tr a i.toNat) hi hb).symm
    · repeat (refine And.intro rfl ?_)
      rw[i64_in _ (by omega)]
      exact ⟨⟨by omega,by omega,step_up (p:=fun a:List Bool=>tr a i.toNat) k0 hi hb hok⟩,by first|omega|(dsimp only;omega)⟩
  · exact (any_up (p:=fun a:List Bool=>tr a i.toNat) k0 h hok).symm
 obtain ⟨r,H',hr,k,rfl,rfl,hk⟩:=key
 exact ⟨k,hk,hr⟩
theorem p134f (L:List (List Bool)) (hl:Small L.length) (i:Int) (h0:0≤i):Runs Fs3 134 [.o (.sl 1 (bls L)),.fn 145 [.ptr 11300102 0]] (hFi i) (.n (.bool (L.any fun a=>tr a i.toNat))) (hFi i):=by
 refine vc_look fs3_134 rfl (by kernel_rfl) ?_
 rewrite[hFi,vc134f,(V134fe _ _ _).down]
 obtain ⟨r,hr,h⟩:=p157f L hl i h0
 exact ⟨r,h,by rw[hr],rfl⟩
def FirstIs (L:List (List Bool)) (r:Int):Prop:=
 (r = -1∧∀j,j<longest L→(L.any fun a=>tr a j)=true)∨(0≤r∧r.toNat<longest L∧(L.any fun a=>tr a r.toNat)=false∧∀j,j<r.toNat→(L.any fun a=>tr a j)=true)
theorem p113 (L:List (List Bool)) (hl:Small L.length) (hL:longest L≤2048):∃r,FirstIs L r∧Runs Fs3 113 [.n (.int .i64 0),.o (.sl 1 (bls L))] [] (.n (.int .i64 r)) []:=by
 have key:∃r,Runs Fs3 113 [.n (.int .i64 0),.o (.sl 1 (bls L))] [] r []∧∃k:Int,r = .n (.int .i64 k)∧FirstIs L k:=by
  refine vc_runs (R:=fun r=>∃k:Int,r = .n (.int .i64 k)∧FirstIs L k) fs113 rfl ?_
  rw[vc113,V113]
  refine ⟨fun _ p=>0≤p.1∧p.1≤longest L∧∀j:Nat,(j:Int)<p.1→(L.any fun a=>tr a j)=true,fun _ p=>(longest L - p.1).toNat,⟨rfl,by decide,by show mmI true 0 0≤_;simp[mmI],fun j hj=>by simp[mmI]at hj;omega⟩,?_⟩
  rintro _ ⟨i,_⟩ ⟨h0,h1,hok⟩ _
  dsimp only at h0 h1 hok ⊢
  refine ⟨_,(p133 L hl).up up3,sel_dec (fun h => ?_) (fun h=>⟨-1,rfl,.inl ⟨rfl,fun j hj=>hok j (by omega)⟩⟩)⟩
  refine ⟨_,p134f L hl i h0,sel_intro (fun hb=>⟨i,rfl,.inr ⟨h0,by omega,by simpa using hb,fun j hj=>hok j (by omega)⟩⟩) (fun hb => ?_)⟩
  repeat (refine And.intro rfl ?_)
  rw[i64_in _ (by omega)]
  refine ⟨⟨by omega,by omega,fun j hj => ?_⟩,by first|omega|(dsimp only;omega)⟩
  by_cases e:(j:Int)<i
  · exact hok j e
  · obtain rfl:j=i.toNat:=by omega
    simpa using hb
 obtain ⟨r,hr,k,rfl,hk⟩:=key
 exact ⟨k,hk,hr⟩
theorem p114 (l:List Bool) (b:Bool) (p:Nat) (hp:p<l.length) (hl:l.length≤2048):Runs Fs3 114 [.o (.sl 1 (blD l)),.n (.bool b),.o (.sl 1 [.int .i64 p])] [] (.tup [.o (.sl 1 (blD (l.set p b))),.n (.int .i64 0)]) []:=by
 refine vc_eq fs114 rfl ?_
 rw[vc114,(V114e _ _ _ _).down,blD_len]
 refine ⟨_,_,clone_runs fs137 (blD l) (by rw[blD_len];omega),fun i r=>(i=0∧r=(0,blD l))∨(i=1∧r=(0,blD (l.set p b))),fun i _=>(1 - i).toNat,⟨rfl,.inl ⟨rfl,rfl⟩⟩,?_⟩
 rintro i ⟨v,els⟩ h _
 rcases h with ⟨rfl,h⟩|⟨rfl,h⟩
 · obtain ⟨rfl,rfl⟩:=Prod.mk.inj h
   refine sel_dec (fun _ => ?_) (fun h=>absurd (by decide:(0:Int)<1) h)
   refine ⟨rfl,by decide,_,rfl,_,rfl,sel_dec (fun h=>by omega) (fun _=>sel_dec (fun h=>by omega) (fun _ => ?_))⟩
   dsimp only
   rw[blD_len,show Int.toNat (p:Int)=p from rfl,blD_set]
   refine ⟨⟨rfl,rfl⟩,by omega,by omega,⟨⟨⟨rfl,rfl⟩,rfl⟩,rfl⟩,hp,?_⟩
   repeat (refine And.intro rfl ?_)
   rw[i64_in _ (by omega)]
   exact ⟨.inr ⟨rfl,rfl⟩,by decide⟩
 · obtain ⟨rfl,rfl⟩:=Prod.mk.inj h
   exact sel_dec (fun h=>absurd h (by simp)) (fun _=>⟨rfl,rfl⟩)
theorem longest_two (a b:List Bool):longest [a,b]=max a.length b.length:=by simp[longest]
theorem any_two (a b:List Bool) (j:Nat):([a,b].any fun x=>tr x j)=(tr a j||tr b j):=by simp
theorem first_is {w:Wd} (hw:w.base.length=w.now.length) {r:Int} (h:FirstIs [w.base,w.now] r):match firstFree w with
   | none=>r<0
   | some b=>r=b∧b<w.now.length:=by
 have hl:longest [w.base,w.now]=w.now.length:=by rw[longest_two,hw];exact Nat.max_self _
 have hf:∀j,freeAt w j = !([w.base,w.now].any fun x=>tr x j):=fun j=>by
   rw[any_two,freeAt]
   cases tr w.base j <;> cases tr w.now j <;> rfl
 unfold FirstIs at h
 rw[hl]at h
 cases hx:firstFree w with
 | none=>
   have hn:=ffUp_none hx
   rcases h with ⟨h1,_⟩|⟨h0,h1,h2,_⟩
   · dsimp only;omega
   · have:=hn r.toNat h1
     rw[hf,h2]at this
     cases this
 | some b=>
   obtain ⟨k1,k2,k3⟩:=ffUp_some hx
   refine ⟨?_,k1⟩
   rcases h with ⟨_,h2⟩|⟨h0,h1,h2,h3⟩
   · have:=h2 b k1
     rw[hf,this]at k2
     cases k2
   · rcases Nat.lt_trichotomy r.toNat b with h|h|h
     · have:=k3 _ h
       rw[hf,h2]at this
       cases this
     · omega
     · have:=h3 _ h
       rw[hf,this]at k2
       cases k2
def al0:AV := .agg [.o (.sl 1 []),.o (.sl 1 [])]
theorem p78 (w:Wd) (h:ARight w.base w.now):Runs Fs3 78 [alV w.base w.now] [] (match firstFree w with
   | none => .tup [al0,.n (.int .i64 0),.n (.int .i64 60)]
   | some b => .tup [alV w.base (w.now.set b true),.n (.int .i64 b),.n (.int .i64 0)]) []:=by
 have h1:=h.1
 have h2:=h.2.2.1
 have g:=(p67 w.base w.now (by omega) (by omega)).up up3
 rw[decide_eq_true h]at g
 obtain ⟨r,hr,g2⟩:=p113 [w.base,w.now] (by simp) (by rw[longest_two];omega)
 have hf:=first_is h1 hr
 refine vc_eq fs78 rfl ?_
 rw[alV,vc78,(V78e _ _ _).down]
 refine ⟨_,g,sel_intro (fun h=>by cases h) (fun _=>⟨rfl,_,g2,?_⟩)⟩
 cases hx:firstFree w with
 | none=>
   rw[hx]at hf
   exact sel_dec (fun _=>rfl) (fun h=>absurd hf h)
 | some b=>
   rw[hx]at hf
   obtain ⟨rfl,hb⟩:=hf
   exact sel_dec (fun h=>by omega) (fun _=>⟨rfl,_,_,p114 w.now true b hb h2,rfl⟩)
theorem p100 (a b:List Bool) (h:ARight a b) (p:Int):Runs Fs3 100 [alV a b,.o (.sl 1 [.int .i64 p])] [] (if p<10∨p≥b.length∨tr b p.toNat=false then .tup [al0,.n (.int .i64 30)] else .tup [alV a (b.set p.toNat false),.n (.int .i64 0)]) []:=by
 have h1:=h.1
 have h2:=h.2.2.1
 have g:=(p67 a b (by omega) (by omega)).up up3
 rw[decide_eq_true h]at g
 refine vc_eq fs100 rfl ?_
 rw[alV,vc100,(V100e _ _ _ _).down]
 refine ⟨_,g,sel_intro (fun h=>by cases h) (fun _=>⟨_,_,clone_runs fs137 (blD b) (by rw[blD_len];omega),?_⟩)⟩
 refine ⟨fun i _ r=>(i=0∧r=(0,blD b))∨(i=1∧r=(0,blD (b.set p.toNat false))∧¬(p<10∨p≥b.length∨tr b p.toNat=false)),fun i _ _=>(1 - i).toNat,⟨rfl,.inl ⟨rfl,rfl⟩⟩,?_⟩
 rintro i _ ⟨v,els⟩ h _
 rcases h with ⟨rfl,h⟩|⟨rfl,h,hok⟩
 · obtain ⟨rfl,rfl⟩:=Prod.mk.inj h
   refine sel_dec (fun _ => ?_) (fun h=>absurd (by decide:(0:Int)<1) h)
   refine ⟨rfl,by decide,_,rfl,_,rfl,sel_dec (fun h=>by rw[if_pos (.inl h)];rfl) (fun k1=>⟨rfl,?_⟩)⟩
   dsimp only
   rw[blD_len]
   refine sel_dec (fun h=>by rw[if_pos (.inr (.inl h))];rfl) (fun k2 => ?_)
   have hp:p.toNat<b.length:=by omega
   refine ⟨⟨rfl,rfl⟩,by omega,by omega,⟨rfl,rfl⟩,_,blD_at hp,_,rfl,?_⟩
   rw[←tr_at hp]
   refine sel_intro (fun h=>by rw[if_pos (.inr (.inr (by simpa using h)))];rfl) (fun k3 => ?_)
   rw[blD_set]
   refine ⟨⟨rfl,rfl⟩,by omega,by omega,⟨⟨⟨rfl,rfl⟩,rfl⟩,rfl⟩,hp,?_⟩
   repeat (refine And.intro rfl ?_)
   rw[i64_in _ (by omega)]
   exact ⟨.inr ⟨rfl,rfl,by
    rintro (h|h|h)
    · exact k1 h
    · exact k2 h
    · rw[h]at k3;cases k3⟩,by decide⟩
 · obtain ⟨rfl,rfl⟩:=Prod.mk.inj h
   rw[if_neg hok]
   exact sel_dec (fun h=>absurd h (by simp)) (fun _=>⟨rfl,rfl⟩)
theorem strOf_be (n:Int) (s:Nat):strOf (be n s)=sOf (beB n s):=by rw[strOf,be_bytes,sOf]
theorem cat_two (A:List UInt8) (t:ByteArray):cat [sOf A,t]=sOf (A++t.data.toList):=bytes_ext (by rw[cat_data,sOf_data];simp[sOf])
theorem sizes_two (a b:ByteArray):sizes [a,b]=a.size+b.size:=by simp[sizes]
def hPut (A:List UInt8):Heap:=[(7600307,.box [.n (.str (sOf A))])]
theorem p107 (A:List UInt8) (s:ByteArray) (hs:s.size≤65535) (hA:A.length≤1000000):Runs Fs3 107 [.n (.str s),.ptr 7600307 0] (hPut A) (.tup []) (hPut (A++txB s)):=by
 have g:=((p108 s).up up2).up up3
 rw[textR_small hs]at g
 refine vc_mut fs107 rfl (by kernel_rfl) ?_
 rw[hPut,vc107h,V107h]
 have g2:=((p109 [sOf A,TextOf s] (by simp) (by rw[sizes_two,sOf_size,textOf_size];omega)).up up2).up up3
 refine ⟨_,_,g,rfl,_,g2,rfl,?_⟩
 rw[cat_two,textOf_data];rfl
theorem lfB_snoc:∀(ks vs:List ByteArray) (k v:ByteArray),vs.length=ks.length→lfB (ks++[k]) (vs++[v])=lfB ks vs++(txB k++txB v)
 | [],[],k,v,_=>by simp[lfB]
 | [],_ :: _,_,_,h=>by simp at h
 | _ :: _,[],_,_,h=>by simp at h
 | a :: ks,b :: vs,k,v,h=>by
   have:=lfB_snoc ks vs k v (by simpa using h)
   simp only[List.cons_append,lfB,this,List.append_assoc]
theorem inB_snoc:∀(bs:List Int) (ks:List ByteArray) (b:Int) (k:ByteArray),bs.length=ks.length→inB (bs++[b]) (ks++[k])=inB bs ks++(beB b 2++txB k)
 | [],[],b,k,_=>by simp[inB]
 | [],_ :: _,_,_,h=>by simp at h
 | _ :: _,[],_,_,h=>by simp at h
 | a :: bs,c :: ks,b,k,h=>by
   have:=inB_snoc bs ks b k (by simpa using h)
   simp only[List.cons_append,inB,this,List.append_assoc]
theorem inB_last:∀(bs:List Int) (ks:List ByteArray) (b:Int),bs.length=ks.length→inB (bs++[b]) ks=inB bs ks++beB b 2
 | [],[],b,_=>by simp[inB]
 | [],_ :: _,_,h=>by simp at h
 | _ :: _,[],_,h=>by simp at h
 | a :: bs,c :: ks,b,h=>by
   have:=inB_last bs ks b (by simpa using h)
   simp only[List.cons_append,inB,this,List.append_assoc]
theorem lfB_small {ks vs:List ByteArray} (i:Nat) (hk:∀k∈ks,k.size≤32) (hv:∀v∈vs,v.size≤200) (h:i≤9):(lfB (ks.take i) (vs.take i)).length≤2124:=by
 have:=lfB_len (ks.take i) (vs.take i) (fun x hx=>hk x (List.mem_of_mem_take hx)) (fun x hx=>hv x (List.mem_of_mem_take hx))
 have h2:(ks.take i).length≤9:=by rw[List.length_take];omega
 omega
theorem inB_small {bs:List Int} {ks:List ByteArray} (i:Nat) (hk:∀k∈ks,k.size≤32) (h:ks.length≤9):(inB (bs.take i) (ks.take i)).length≤326:=by
 have:=inB_len (bs.take i) (ks.take i) (fun x hx=>hk x (List.mem_of_mem_take hx))
 have h2:(ks.take i).length≤9:=by rw[List.length_take];omega
 omega
noncomputable def NPutV (n:Nd):AV:=if NdOK n true then .tup [.n (.str (nodeB n)),.n (.int .i64 0)] else .tup [.n (.str (ByteArray.mk (List.toArray []))),.n (.int .i64 1)]
theorem p76 (n:Nd) (hf:NdFits n):Runs Fs3 76 [ndV n] [] (NPutV n) []:=by
 have g:=(p92 n true hf).up up3
 refine vc_eq fs76 rfl ?_
 rw[ndV,vc76,(V76e _ _ _ _ _).down,sl_len,il_len]
 refine ⟨_,g,?_⟩
 by_cases hok:NdOK n true
 · rw[decide_eq_true hok,NPutV,if_pos hok]
   obtain ⟨hs,h8,_⟩:=hok
   have hks:=kok_size hs.2.1
   have g1:=((p106_good (n.keys.length:Int) 1 (by omega) (by omega) (by omega) (by rw[show (256:Int) ^ (1:Int).toNat=256 by decide];omega)).up up2).up up3
   rw[Good,show (1:Int).toNat=1 from rfl,strOf_be]at g1
   have hb1:(beB (n.keys.length:Int) 1).length=1:=beB_length _ _
   refine sel_intro (fun h=>by cases h) (fun _=>⟨_,_,g1,?_⟩)
   refine sel_intro (fun hl => ?_) (fun hl => ?_)
   · have hv:n.vals.length=n.keys.length∧∀v∈n.vals,v.size≤200:=by
       rcases hs.2.2 with ⟨_,_,h2,h3⟩|⟨h,_⟩
       · exact ⟨h2,h3⟩
       · rw[hl]at h;cases h
     refine ⟨fun i p=>0≤i∧i≤n.keys.length∧p.1=sOf (beB (n.keys.length:Int) 1++lfB (n.keys.take i.toNat) (n.vals.take i.toNat)),fun i _=>(n.keys.length - i).toNat,⟨rfl,by omega,by omega,by simp[lfB]⟩,?_⟩
     rintro i ⟨o,_⟩ ⟨h0,h1,rfl⟩ _
     dsimp only
     refine sel_dec (fun hlt => ?_) (fun hge => ?_)
     · have hi:i.toNat<n.keys.length:=by omega
       have hj:i.toNat<n.vals.length:=by omega
       have hsm:=lfB_small (ks:=n.keys) (vs:=n.vals) i.toNat (fun k hk=>(hks k hk).2) hv.2 (by omega)
       have hk1:=(hks _ (List.getElem_mem hi)).2
       have hv1:=hv.2 _ (List.getElem_mem hj)
       have c1:=p107 (beB (n.keys.length:Int) 1++lfB (n.keys.take i.toNat) (n.vals.take i.toNat)) n.keys[i.toNat] (by omega) (by rw[List.length_append];omega)
       have c2:=p107 (beB (n.keys.length:Int) 1++lfB (n.keys.take i.toNat) (n.vals.take i.toNat)++txB n.keys[i.toNat]) n.vals[i.toNat] (by omega) (by simp only[List.length_append,txB,beB_length,size_list];omega)
       refine ⟨rfl,h0,_,sl_at hi,_,rfl,_,c1,rfl,h0,_,sl_at hj,_,rfl,_,c2,?_⟩
       repeat (refine And.intro rfl ?_)
       rw[i64_in _ (by omega)]
       refine ⟨⟨by omega,by omega,?_⟩,by first|omega|(dsimp only;omega)⟩
       rw[show (i+1).toNat=i.toNat+1 by omega,take_snoc hi,take_snoc hj,lfB_snoc _ _ _ _ (by rw[List.length_take,List.length_take];omega)]
       simp only[List.append_assoc]
     · rw[List.take_of_length_le (by omega),List.take_of_length_le (by omega),nodeB,nodeL,hl];rfl
   · have hv:n.kids.length=n.keys.length+1∧∀b∈n.kids,10≤b∧b<2048:=by
       rcases hs.2.2 with ⟨h,_⟩|⟨_,_,_,h2,h3⟩
       · rw[hl]at h;cases h
       · exact ⟨h2,h3⟩
     refine ⟨fun i p=>0≤i∧i≤n.kids.length∧p.1=sOf (beB (n.keys.length:Int) 1++inB (n.kids.take i.toNat) (n.keys.take i.toNat)),fun i _=>(n.kids.length - i).toNat,⟨rfl,by omega,by omega,by simp[inB]⟩,?_⟩
     rintro i ⟨o,_⟩ ⟨h0,h1,rfl⟩ _
     dsimp only
     refine sel_dec (fun hlt => ?_) (fun hge => ?_)
     · have hi:i.toNat<n.kids.length:=by omega
       have hb:=hv.2 _ (List.getElem_mem hi)
       have hsm:=inB_small (bs:=n.kids) (ks:=n.keys) i.toNat (fun k hk=>(hks k hk).2) (by omega)
       have c1:=((p106_good n.kids[i.toNat] 2 (by omega) (by omega) (by omega) (by rw[show (256:Int) ^ (2:Int).toNat=65536 by decide];omega)).up up2).up up3
       rw[Good,show (2:Int).toNat=2 from rfl,strOf_be]at c1
       have c2:=((p109 [sOf (beB (n.keys.length:Int) 1++inB (n.kids.take i.toNat) (n.keys.take i.toNat)),sOf (beB n.kids[i.toNat] 2)] (by simp) (by rw[sizes_two,sOf_size,sOf_size,List.length_append,beB_length,beB_length];omega)).up up2).up up3
       rw[cat_two,sOf_data]at c2
       refine ⟨rfl,h0,_,il_at hi,_,rfl,_,_,c1,rfl,_,c2,sel_dec (fun hk => ?_) (fun hk => ?_)⟩
       · have hj:i.toNat<n.keys.length:=by omega
         have hk1:=(hks _ (List.getElem_mem hj)).2
         have c3:=p107 (beB (n.keys.length:Int) 1++inB (n.kids.take i.toNat) (n.keys.take i.toNat)++beB n.kids[i.toNat] 2) n.keys[i.toNat] (by omega) (by simp only[List.length_append,beB_length];omega)
         refine ⟨rfl,h0,_,sl_at hj,_,rfl,_,c3,?_⟩
         repeat (refine And.intro rfl ?_)
         rw[i64_in _ (by omega)]
         refine ⟨⟨by omega,by omega,?_⟩,by first|omega|(dsimp only;omega)⟩
         rw[show (i+1).toNat=i.toNat+1 by omega,take_snoc hi,take_snoc hj,inB_snoc _ _ _ _ (by rw[List.length_take,List.length_take];omega)]
         simp only[List.append_assoc]
       · repeat (refine And.intro rfl ?_)
         rw[i64_in _ (by omega)]
         refine ⟨⟨by omega,by omega,?_⟩,by first|omega|(dsimp only;omega)⟩
         have e1:n.keys.take i.toNat=n.keys:=List.take_of_length_le (by omega)
         have e2:n.keys.take (i.toNat+1)=n.keys:=List.take_of_length_le (by omega)
         rw[show (i+1).toNat=i.toNat+1 by omega,take_snoc hi,e2,inB_last _ _ _ (by rw[List.length_take];omega),e1]
         simp only[List.append_assoc]
     · rw[List.take_of_length_le (by omega),List.take_of_length_le (by omega),nodeB,nodeL,hl];rfl
 · rw[decide_eq_false hok,NPutV,if_neg hok]
   exact sel_intro (fun _=>rfl) (fun h=>by cases h)
def fl (L:List (List D)):List D:=L.flatten
theorem fl_take {L:List (List D)} {i:Nat} (h:i<L.length):(L.take (i+1)).flatten=(L.take i).flatten++L[i]:=by
 rw[take_snoc h,List.flatten_append,List.flatten_cons,List.flatten_nil,List.append_nil]
theorem fl_le {L:List (List D)} (i:Nat):(L.take i).flatten.length≤L.flatten.length:=by
 have:L.flatten=(L.take i).flatten++(L.drop i).flatten:=by rw[←List.flatten_append,List.take_append_drop]
 rw[this,List.length_append];omega
theorem p140 (L:List (List D)) (h1:L.length≤100) (h2:L.flatten.length≤100000):Runs Fs3 140 [.o (.sl 1 (L.map (D.sl 1)))] [] (.o (.sl 1 L.flatten)) []:=by
 have hat:∀ {i:Nat} (h:i<L.length),(L.map (D.sl 1))[i]?=some (.sl 1 L[i]):=fun {i} h=>by simp[h]
 have hlen:(L.map (D.sl 1)).length=L.length:=by simp
 refine vc_eq fs140 rfl ?_
 rw[vc140,(V140e _ _).down,hlen]
 refine ⟨fun s i=>0≤i∧i≤L.length∧s=((L.take i.toNat).flatten.length:Nat),fun _ i=>(L.length - i).toNat,⟨rfl,by omega,by omega,rfl⟩,?_⟩
 rintro s i ⟨h0,hi,rfl⟩ _
 have hle:=fl_le (L:=L) i.toNat
 refine sel_dec (fun hlt => ?_) (fun hge => ?_)
 · have hi':i.toNat<L.length:=by omega
   have hle':=fl_le (L:=L) (i.toNat+1)
   have e:=fl_take hi'
   have e':(L.take (i.toNat+1)).flatten.length=(L.take i.toNat).flatten.length+L[i.toNat].length:=by rw[e,List.length_append]
   refine ⟨rfl,h0,_,hat hi',_,rfl,?_⟩
   rw[i64_in _ (by omega),i64_in _ (by omega)]
   refine sel_dec (fun h=>by omega) (fun _ => ?_)
   repeat (refine And.intro rfl ?_)
   refine ⟨⟨by omega,by omega,?_⟩,by first|omega|(dsimp only;omega)⟩
   rw[show (i+1).toNat=i.toNat+1 by omega,e'];omega
 · refine ⟨_,_,grow_runs fs158 _ (by omega),fun v i r=>0≤i∧i≤L.length∧r.1=v∧r.2=(L.take i.toNat).flatten,fun _ i _=>(L.length - i).toNat,⟨rfl,by omega,by omega,rfl,rfl⟩,?_⟩
   rintro v i ⟨v',els⟩ ⟨h0,hi,rfl,rfl⟩ _
   dsimp only
   have hle:=fl_le (L:=L) i.toNat
   refine sel_dec (fun hlt => ?_) (fun hge => ?_)
   · have hi':i.toNat<L.length:=by omega
     have hle':=fl_le (L:=L) (i.toNat+1)
     have e:=fl_take hi'
     have e':(L.take (i.toNat+1)).flatten.length=(L.take i.toNat).flatten.length+L[i.toNat].length:=by rw[e,List.length_append]
     refine ⟨rfl,h0,_,hat hi',_,rfl,.inl rfl,⟨⟨rfl,rfl⟩,rfl⟩,by omega,?_⟩
     repeat (refine And.intro rfl ?_)
     rw[i64_in _ (by omega)]
     refine ⟨⟨by omega,by omega,rfl,?_⟩,by first|omega|(dsimp only;omega)⟩
     rw[show (i+1).toNat=i.toNat+1 by omega,e]
   · refine ⟨rfl,?_⟩
     rw[List.take_of_length_le (by omega)]
theorem p141 (L:List (List D)) (h1:L.length≤100) (h2:L.flatten.length≤100000):Runs Fs3 141 [.o (.sl 1 (L.map (D.sl 1)))] [] (.o (.sl 1 L.flatten)) []:=by
 have hat:∀ {i:Nat} (h:i<L.length),(L.map (D.sl 1))[i]?=some (.sl 1 L[i]):=fun {i} h=>by simp[h]
 have hlen:(L.map (D.sl 1)).length=L.length:=by simp
 refine vc_eq fs141 rfl ?_
 rw[vc141,(V141e _ _).down,hlen]
 refine ⟨fun s i=>0≤i∧i≤L.length∧s=((L.take i.toNat).flatten.length:Nat),fun _ i=>(L.length - i).toNat,⟨rfl,by omega,by omega,rfl⟩,?_⟩
 rintro s i ⟨h0,hi,rfl⟩ _
 have hle:=fl_le (L:=L) i.toNat
 refine sel_dec (fun hlt => ?_) (fun hge => ?_)
 · have hi':i.toNat<L.length:=by omega
   have hle':=fl_le (L:=L) (i.toNat+1)
   have e:=fl_take hi'
   have e':(L.take (i.toNat+1)).flatten.length=(L.take i.toNat).flatten.length+L[i.toNat].length:=by rw[e,List.length_append]
   refine ⟨rfl,h0,_,hat hi',_,rfl,?_⟩
   rw[i64_in _ (by omega),i64_in _ (by omega)]
   refine sel_dec (fun h=>by omega) (fun _ => ?_)
   repeat (refine And.intro rfl ?_)
   refine ⟨⟨by omega,by omega,?_⟩,by first|omega|(dsimp only;omega)⟩
   rw[show (i+1).toNat=i.toNat+1 by omega,e'];omega
 · refine ⟨_,_,grow_runs fs159 _ (by omega),fun v i r=>0≤i∧i≤L.length∧r.1=v∧r.2=(L.take i.toNat).flatten,fun _ i _=>(L.length - i).toNat,⟨rfl,by omega,by omega,rfl,rfl⟩,?_⟩
   rintro v i ⟨v',els⟩ ⟨h0,hi,rfl,rfl⟩ _
   dsimp only
   have hle:=fl_le (L:=L) i.toNat
   refine sel_dec (fun hlt => ?_) (fun hge => ?_)
   · have hi':i.toNat<L.length:=by omega
     have hle':=fl_le (L:=L) (i.toNat+1)
     have e:=fl_take hi'
     have e':(L.take (i.toNat+1)).flatten.length=(L.take i.toNat).flatten.length+L[i.toNat].length:=by rw[e,List.length_append]
     refine ⟨rfl,h0,_,hat hi',_,rfl,.inl rfl,⟨⟨rfl,rfl⟩,rfl⟩,by omega,?_⟩
     repeat (refine And.intro rfl ?_)
     rw[i64_in _ (by omega)]
     refine ⟨⟨by omega,by omega,rfl,?_⟩,by first|omega|(dsimp only;omega)⟩
     rw[show (i+1).toNat=i.toNat+1 by omega,e]
   · refine ⟨rfl,?_⟩
     rw[List.take_of_length_le (by omega)]
theorem p138 (L:List (List D)) (h1:L.length≤100) (h2:L.flatten.length≤100000):Runs Fs3 138 [.o (.sl 1 (L.map (D.sl 1)))] [] (.o (.sl 1 L.flatten)) []:=by
 refine vc_eq fs138 rfl ?_
 rw[vc138,V138]
 exact ⟨_,p140 L h1 h2,rfl⟩
theorem p139 (L:List (List D)) (h1:L.length≤100) (h2:L.flatten.length≤100000):Runs Fs3 139 [.o (.sl 1 (L.map (D.sl 1)))] [] (.o (.sl 1 L.flatten)) []:=by
 refine vc_eq fs139 rfl ?_
 rw[vc139,V139]
 exact ⟨_,p141 L h1 h2,rfl⟩
theorem sl_app (a b:List ByteArray):sl_ (a++b)=sl_ a++sl_ b:=by simp[sl_]
theorem il_app (a b:List Int):il (a++b)=il a++il b:=by simp[il]
theorem sl_drop (l:List ByteArray) (n:Nat):(sl_ l).drop n=sl_ (l.drop n):=by simp[sl_,List.map_drop]
theorem il_drop (l:List Int) (n:Nat):(il l).drop n=il (l.drop n):=by simp[il,List.map_drop]
theorem sl_tk (l:List ByteArray) (n:Nat):(sl_ l).take n=sl_ (l.take n):=by simp[sl_,List.map_take]
theorem il_tk (l:List Int) (n:Nat):(il l).take n=il (l.take n):=by simp[il,List.map_take]
theorem p138_1 (a:List ByteArray) (h:a.length≤1000):Runs Fs3 138 [.o (.sl 1 [.sl 1 (sl_ a)])] [] (.o (.sl 1 (sl_ a))) []:=by
 have:=p138 [sl_ a] (by simp) (by simp[sl_len];omega)
 simpa using this
theorem p139_1 (a:List Int) (h:a.length≤1000):Runs Fs3 139 [.o (.sl 1 [.sl 1 (il a)])] [] (.o (.sl 1 (il a))) []:=by
 have:=p139 [il a] (by simp) (by simp[il_len];omega)
 simpa using this
theorem p138_2 (a b:List ByteArray) (h:a.length+b.length≤1000):Runs Fs3 138 [.o (.sl 1 [.sl 1 (sl_ a),.sl 1 (sl_ b)])] [] (.o (.sl 1 (sl_ (a++b)))) []:=by
 have:=p138 [sl_ a,sl_ b] (by simp) (by simp[sl_len];omega)
 simpa[sl_app] using this
theorem p139_2 (a b:List Int) (h:a.length+b.length≤1000):Runs Fs3 139 [.o (.sl 1 [.sl 1 (il a),.sl 1 (il b)])] [] (.o (.sl 1 (il (a++b)))) []:=by
 have:=p139 [il a,il b] (by simp) (by simp[il_len];omega)
 simpa[il_app] using this
theorem p138_3 (a b c:List ByteArray) (h:a.length+b.length+c.length≤1000):Runs Fs3 138 [.o (.sl 1 [.sl 1 (sl_ a),.sl 1 (sl_ b),.sl 1 (sl_ c)])] [] (.o (.sl 1 (sl_ (a++(b++c))))) []:=by
 have:=p138 [sl_ a,sl_ b,sl_ c] (by simp) (by simp[sl_len];omega)
 simpa[sl_app] using this
noncomputable def CutV (n:Nd):AV:=if Stands n∧n.keys.length=9 then .tup [ndV (cutL n),.n (.str (cutK n)),ndV (cutR n),.n (.int .i64 0)] else .tup [ndV nd0,.n (.str (ByteArray.mk (List.toArray []))),ndV nd0,.n (.int .i64 1)]
theorem p118 (n:Nd) (hf:NdFits n):Runs Fs3 118 [ndV n] [] (CutV n) []:=by
 have g:=(p93 n hf).up up3
 refine vc_eq fs118 rfl ?_
 rw[ndV,vc118,(V118e _ _ _ _ _).down,sl_len,sl_len,il_len]
 refine ⟨_,g,?_⟩
 by_cases hs:Stands n
 · rw[decide_eq_true hs]
   refine sel_intro (fun h=>by cases h) (fun _=>sel_intro (fun h => ?_) (fun h => ?_))
   · rw[CutV,if_neg]
     · rfl
     · rintro ⟨_,h9⟩
       rw[h9]at h;simp at h
   · have h9:n.keys.length=9:=by
       have:(n.keys.length:Int)=9:=by simpa using h
       omega
     rw[CutV,if_pos ⟨hs,h9⟩]
     have hk4:4<n.keys.length:=by omega
     have ek:cutK n=n.keys[4]:=by rw[cutK,List.getElem?_eq_getElem hk4];rfl
     refine ⟨rfl,by decide,_,sl_at hk4,_,rfl,?_⟩
     rw[show Int.toNat 4=4 from rfl,show Int.toNat 5=5 from rfl]
     simp only[List.drop_zero,List.take_length,sl_tk,sl_drop,il_tk,il_drop]
     refine sel_intro (fun hl => ?_) (fun hl => ?_)
     · have hv:n.vals.length=9:=by
        rcases hs.2.2 with ⟨_,_,h2,_⟩|⟨h,_⟩
        · omega
        · rw[hl]at h;cases h
       refine ⟨trivial,by decide,by omega,trivial,_,p138_1 _ (by rw[List.length_take];omega),trivial,by decide,by omega,trivial,_,p138_1 _ (by rw[List.length_take];omega),trivial,by decide,by omega,trivial,_,p138_1 _ (by rw[List.length_drop];omega),trivial,by decide,by omega,trivial,_,p138_1 _ (by rw[List.length_drop];omega),?_⟩
       rw[ek,cutL,cutR,hl];rfl
     · have hv:n.kids.length=10:=by
        rcases hs.2.2 with ⟨h,_⟩|⟨_,_,_,h2,_⟩
        · rw[hl]at h;cases h
        · omega
       refine ⟨trivial,by decide,by omega,trivial,_,p138_1 _ (by rw[List.length_take];omega),trivial,by decide,by omega,trivial,_,p139_1 _ (by rw[List.length_take];omega),trivial,by decide,by omega,trivial,_,p138_1 _ (by rw[List.length_drop];omega),trivial,by decide,by omega,trivial,_,p139_1 _ (by rw[List.length_drop];omega),?_⟩
       rw[ek,cutL,cutR,hl];rfl
 · rw[decide_eq_false hs,CutV,if_neg fun h=>hs h.1]
   exact sel_intro (fun _=>rfl) (fun h=>by cases h)
noncomputable def JoinV (a:Nd) (k:ByteArray) (b:Nd):AV:=
 if Stands a∧Stands b∧a.leaf=b.leaf∧Stands (joinN a k b) then .tup [ndV (joinN a k b),.n (.int .i64 0)] else .tup [ndV nd0,.n (.int .i64 1)]
theorem st_leaf {n:Nd} (hs:Stands n) (hl:n.leaf=true):n.kids=[]∧n.vals.length=n.keys.length:=by
 rcases hs.2.2 with ⟨_,h1,h2,_⟩|⟨h,_⟩
 · exact ⟨h1,h2⟩
 · rw[hl]at h;cases h
theorem st_inner {n:Nd} (hs:Stands n) (hl:n.leaf=false):n.vals=[]∧n.kids.length=n.keys.length+1:=by
 rcases hs.2.2 with ⟨h,_⟩|⟨_,h1,_,h2,_⟩
 · rw[hl]at h;cases h
 · exact ⟨h1,h2⟩
theorem st_lens {n:Nd} (hs:Stands n):n.keys.length≤9∧n.vals.length≤9∧n.kids.length≤10:=by
 have h9:=hs.1
 cases hl:n.leaf with
 | true=>
   obtain ⟨h1,h2⟩:=st_leaf hs hl
   rw[h1]
   exact ⟨by omega,by omega,by simp⟩
 | false=>
   obtain ⟨h1,h2⟩:=st_inner hs hl
   rw[h1]
   exact ⟨by omega,by simp,by omega⟩
theorem p103 (a:Nd) (k:ByteArray) (b:Nd) (hfa:NdFits a) (hfb:NdFits b):Runs Fs3 103 [ndV a,.n (.str k),ndV b] [] (JoinV a k b) []:=by
 have ga:=(p93 a hfa).up up3
 have gb:=(p93 b hfb).up up3
 refine vc_eq fs103 rfl ?_
 rw[ndV,ndV,vc103,(V103e _ _ _ _ _ _ _ _ _ _).down]
 have no:¬(Stands a∧Stands b∧a.leaf=b.leaf∧Stands (joinN a k b))→(.tup [.agg [.n (.bool false),.o (.sl 1 []),.o (.sl 1 []),.o (.sl 1 [])],.n (.int .i64 1)]:AV)=JoinV a k b:=fun h=>by rw[JoinV,if_neg h];rfl
 refine ⟨_,ga,?_⟩
 by_cases ha:Stands a
 · rw[decide_eq_true ha]
   refine sel_intro (fun h=>by cases h) (fun _=>⟨_,gb,?_⟩)
   by_cases hb:Stands b
   · rw[decide_eq_true hb]
     refine sel_intro (fun h=>by cases h) (fun _=>sel_intro (fun h=>no fun h2 => ?_) (fun h => ?_))
     · rw[h2.2.2.1]at h;simp at h
     · have hab:a.leaf=b.leaf:=by simpa using h
       obtain ⟨a1,a2,a3⟩:=st_lens ha
       obtain ⟨b1,b2,b3⟩:=st_lens hb
       have c1:=p138_2 a.keys b.keys (by omega)
       have c2:=p138_2 a.vals b.vals (by omega)
       have c3:=p139_2 a.kids b.kids (by omega)
       refine ⟨rfl,_,c1,rfl,_,c2,rfl,_,c3,sel_intro (fun hl => ?_) (fun hl => ?_)⟩
       · have hl:a.leaf=false:=by simpa using hl
         obtain ⟨x1,x2⟩:=st_inner ha hl
         obtain ⟨y1,y2⟩:=st_inner hb (hab▸hl)
         have c4:=p138_3 a.keys [k] b.keys (by simp;omega)
         have ej:joinN a k b=⟨a.leaf,a.keys++([k]++b.keys),a.vals++b.vals,a.kids++b.kids⟩:=by
           rw[joinN,if_neg (by rw[hl];simp),x1,y1,hl];rfl
         have gj:=(p93 (joinN a k b) (by rw[ej];exact ⟨by simp;omega,by simp;omega,by simp;omega⟩)).up up3
         rw[ej,ndV]at gj
         refine ⟨rfl,_,c4,_,gj,?_⟩
         by_cases hj:Stands (joinN a k b)
         · rw[←ej,decide_eq_true hj]
           refine sel_intro (fun h=>by cases h) (fun _ => ?_)
           rw[JoinV,if_pos ⟨ha,hb,hab,hj⟩,ej];rfl
         · rw[←ej,decide_eq_false hj]
           exact sel_intro (fun _=>no fun h=>hj h.2.2.2) (fun h=>by cases h)
       · have hl:a.leaf=true:=by simpa using hl
         obtain ⟨x1,x2⟩:=st_leaf ha hl
         obtain ⟨y1,y2⟩:=st_leaf hb (hab▸hl)
         have ej:joinN a k b=⟨a.leaf,a.keys++b.keys,a.vals++b.vals,a.kids++b.kids⟩:=by
           rw[joinN,if_pos hl,x1,y1,hl];rfl
         have gj:=(p93 (joinN a k b) (by rw[ej];exact ⟨by simp;omega,by simp;omega,by simp;omega⟩)).up up3
         rw[ej,ndV]at gj
         refine ⟨_,gj,?_⟩
         by_cases hj:Stands (joinN a k b)
         · rw[←ej,decide_eq_true hj]
           refine sel_intro (fun h=>by cases h) (fun _ => ?_)
           rw[JoinV,if_pos ⟨ha,hb,hab,hj⟩,ej];rfl
         · rw[←ej,decide_eq_false hj]
           exact sel_intro (fun _=>no fun h=>hj h.2.2.2) (fun h=>by cases h)
   · rw[decide_eq_false hb]
     exact sel_intro (fun _=>no fun h=>hb h.2.1) (fun h=>by cases h)
 · rw[decide_eq_false ha]
   exact sel_intro (fun _=>no fun h=>ha h.1) (fun h=>by cases h)
theorem wr_fits {w:Wd} (h:WRight w):WFits w:=by
 obtain ⟨⟨h1,_,h2,_⟩,h3,_,_,_,h4⟩:=h
 exact ⟨by omega,by omega,by omega,fun x hx=>by have:=h4 x hx;omega⟩
def wuo (x:Wd×Int):AV := .tup [wdV x.1,.n (.int .i64 x.2)]
def hEz (e:Ed) (v:Nat) (fz:Bool):Heap:=[(5000202,.box [.o (.sl 1 (blD e.w.base)),.o (.sl 1 (blD e.w.now)),.row 5050102 v,.n (.int .i64 e.w.root),.n (.int .i64 e.w.gen),.n (.int .i64 e.bad)]),(5050102,.row fz false v 9 1 (sl_ e.w.pages))]
def hE (e:Ed) (v:Nat):Heap:=hEz e v false
theorem p50 (w:Wd) (hp:w.pages.length≤100000):Runs Fs3 50 [wdV w] [] (.ptr 5000202 0) (hE ⟨w,0⟩ 0):=by
 have key:∃r H',Runs Fs3 50 [wdV w] [] r H'∧r = .ptr 5000202 0∧H'=hE ⟨w,0⟩ 0:=by
  refine vc_own (R:=fun r H'=>r = .ptr 5000202 0∧H'=hE ⟨w,0⟩ 0) fs50 rfl ?_
  rw[wdV,vc50o,(V50oe _ _ _ _ _ _).down]
  exact ⟨_,_,clone_runs fs70 (sl_ w.pages) (by rw[sl_len];omega),rfl,rfl⟩
 obtain ⟨r,H',h,rfl,rfl⟩:=key
 exact h
theorem p71 (e:Ed) (v:Nat) (hw:WRight e.w) (b d:Int):Runs Fs3 71 [.ptr 5000202 0,.n (.int .i64 b),.n (.int .i64 d)] (hE e v) (ndN (loadE e b d).1) (hE (loadE e b d).2 v):=by
 have g:=(p99 e.w (wr_fits hw) b (d==1)).up up3
 rw[LoadR,if_pos hw]at g
 refine vc_mut fs71 rfl (by kernel_rfl) ?_
 unfold hE hEz
 rw[vc71h,(V71he _ _ _ _ _ _ _ _ _ _).down]
 refine sel_intro (fun h => ?_) (fun h=>⟨rfl,?_⟩)
 · rw[loadE,if_pos (by simpa using h)]
   exact ⟨rfl,rfl⟩
 · have hb:¬(e.bad≠0):=by simpa using h
   rw[loadE,if_neg hb]
   cases hh:Hold e.w b (d==1) with
   | none=>
     rw[hh]at g
     exact ⟨_,_,_,_,_,g,sel_intro (fun _=>⟨rfl,rfl⟩) (fun h=>by simp at h)⟩
   | some n=>
     rw[hh]at g
     refine ⟨_,_,_,_,_,g,sel_intro (fun h=>by simp at h) (fun _=>sel_dec (fun h => ?_) (fun h => ?_))⟩
     · dsimp only;rw[if_pos h];exact ⟨rfl,rfl⟩
     · dsimp only;rw[if_neg h];exact ⟨rfl,rfl⟩
theorem p72 (e:Ed) (v:Nat) (hw:WRight e.w) (b:Int):Runs Fs3 72 [.ptr 5000202 0,.n (.int .i64 b)] (hE e v) (.tup []) (hE (dropE e b) v):=by
 have g:=p100 e.w.base e.w.now hw.1 b
 refine vc_mut fs72 rfl (by kernel_rfl) ?_
 unfold hE hEz
 rw[vc72h,(V72he _ _ _ _ _ _ _ _ _).down]
 refine sel_intro (fun h => ?_) (fun h=>⟨rfl,?_⟩)
 · rw[dropE,if_pos (by simpa using h)]
   exact ⟨rfl,rfl⟩
 · rw[dropE,if_neg (by simpa using h)]
   by_cases hc:b<10∨b≥e.w.now.length∨tr e.w.now b.toNat=false
   · rw[if_pos hc]at g ⊢
     exact ⟨_,_,_,g,sel_intro (fun _=>⟨rfl,rfl⟩) (fun h=>by simp at h)⟩
   · rw[if_neg hc]at g ⊢
     exact ⟨_,_,_,g,sel_intro (fun h=>by simp at h) (fun _=>⟨rfl,rfl⟩)⟩
theorem sl_set (l:List ByteArray) (i:Nat) (x:ByteArray):(sl_ l).set i (.str x)=sl_ (l.set i x):=by simp[sl_,List.map_set]
theorem il_set (l:List Int) (i:Nat) (x:Int):(il l).set i (.int .i64 x)=il (l.set i x):=by simp[il,List.map_set]
theorem p52 (e:Ed) (v:Nat) (hw0:e.bad=0→WRight e.w) (n:Nd) (hf:NdFits n):Runs Fs3 52 [.ptr 5000202 0,ndV n] (hE e v) (.n (.int .i64 (storeE e n).1)) (hE (storeE e n).2 v):=by
 have g1:=p76 n hf
 refine vc_mut fs52 rfl (by kernel_rfl) ?_
 unfold hE hEz
 rw[ndV,vc52h,(V52he _ _ _ _ _ _ _ _ _ _ _ _).down,sl_len]
 refine sel_intro (fun h => ?_) (fun h => ?_)
 · rw[storeE,if_pos (by simpa using h)]
   exact ⟨rfl,rfl⟩
 · have hb:¬(e.bad≠0):=by simpa using h
   rw[storeE,if_neg hb]
   have hw:=hw0 (by simpa using hb)
   have g3:=p78 e.w hw.1
   have hgen:1≤e.w.gen∧e.w.gen≤1099511627776:=⟨hw.2.2.1,hw.2.2.2.1⟩
   by_cases hok:NdOK n true
   · rw[if_neg (by simpa using hok)]
     rw[NPutV,if_pos hok]at g1
     have g2:Runs Fs3 77 [pg (kindOf n) e.w.gen (nodeB n)] [] (.tup [.n (.str (pageB e.w.gen n)),.n (.int .i64 0)]) []:=by
       have:=((p77 (kindOf n) e.w.gen (nodeB n)).up up2).up up3
       rw[PutPR,if_pos (page_ok hok (by omega) (by omega))]at this
       exact this
     have hlen:=hw.2.1
     have fin:sel (((0:Int)) != 0) False True:=trivial
     cases hx:firstFree e.w with
     | none=>
       rw[hx]at g3
       dsimp only at g3 ⊢
       refine sel_intro (fun hl => ?_) (fun hl => ?_)
       all_goals
        rw[kindOf,hl]at g2
        exact ⟨_,_,g1,sel_intro (fun h=>by simp at h) (fun _=>⟨_,_,g2,sel_intro (fun h=>by simp at h) (fun _=>⟨_,_,_,_,g3,sel_intro (fun _=>⟨rfl,rfl⟩) (fun h=>by simp at h)⟩)⟩)⟩
     | some k=>
       have hk:=(ffUp_some hx).1
       rw[hx]at g3
       dsimp only at g3 ⊢
       refine sel_intro (fun hl => ?_) (fun hl => ?_)
       all_goals
        rw[kindOf,hl]at g2
        refine ⟨_,_,g1,sel_intro (fun h=>by simp at h) (fun _=>⟨_,_,g2,sel_intro (fun h=>by simp at h) (fun _=>⟨_,_,_,_,g3,sel_intro (fun h=>by simp at h) (fun _ => ?_)⟩)⟩)⟩
        rw[show Int.toNat ((k:Nat):Int)=k from rfl,sl_set]
        exact ⟨⟨rfl,rfl⟩,by omega,by omega,⟨⟨⟨rfl,rfl⟩,rfl⟩,rfl⟩,by omega,rfl,rfl⟩
   · rw[if_pos (by simpa using hok)]
     rw[NPutV,if_neg hok]at g1
     exact sel_intro (fun hl=>⟨_,_,g1,sel_intro (fun _=>⟨rfl,rfl⟩) (fun h=>by simp at h)⟩) (fun hl=>⟨_,_,g1,sel_intro (fun _=>⟨rfl,rfl⟩) (fun h=>by simp at h)⟩)
theorem p53 (e:Ed) (v:Nat):Runs Fs3 53 [.ptr 5000202 0] (hE e v) (wuo (endE e)) (hEz e v (decide (e.bad=0))):=by
 refine vc_mut fs53 rfl (by kernel_rfl) ?_
 unfold hE hEz
 rw[vc53h,(V53he _ _ _ _ _ _ _ _).down]
 refine sel_intro (fun h => ?_) (fun h=>⟨rfl,?_⟩)
 · have hb:e.bad≠0:=by simpa using h
   rw[endE,if_pos hb,decide_eq_false hb]
   exact ⟨rfl,rfl⟩
 · have hb:e.bad=0:=by simpa using h
   rw[endE,if_neg (by simpa using hb),decide_eq_true hb]
   exact ⟨rfl,rfl⟩
def splV (s:Spl):AV := .agg [.n (.int .i64 s.left),.n (.int .i64 s.right),.n (.str s.key),.n (.bool s.two)]
def hG (key val:ByteArray) (e:Ed) (v:Nat):Heap:=(3000305,.box [.ptr 5000202 0,.n (.str key),.n (.str val)]) :: hE e v
theorem p86 {w0:Wd} (key val:ByteArray) (e:Ed) (v:Nat) (h:Inv w0 e) (n:Nd) (hf:NdFits n):Runs Fs3 86 [.ptr 3000305 0,ndV n] (hG key val e v) (splV (keepE e n).1) (hG key val (keepE e n).2 v):=by
 have g:=p118 n hf
 have s1:=p52 e v (fun _=>h.right) n hf
 refine vc_mut fs86 rfl (by kernel_rfl) ?_
 unfold hG hE hEz
 rw[ndV,vc86h,(V86he _ _ _ _ _ _ _ _ _ _ _ _ _ _).down,sl_len]
 refine sel_dec (fun h8 => ?_) (fun h8 => ?_)
 · rw[keepE,if_pos (by omega)]
   exact ⟨_,_,_,_,_,_,_,_,_,s1,rfl,rfl⟩
 · rw[keepE,if_neg (by omega)]
   by_cases hc:Stands n∧n.keys.length=9
   · rw[if_neg (by simpa using hc)]
     rw[CutV,if_pos hc]at g
     obtain ⟨l1,l2,l3⟩:=st_lens hc.1
     have fL:NdFits (cutL n):=by
      unfold cutL
      split <;> refine ⟨?_,?_,?_⟩ <;> (dsimp only;simp only[List.length_take,List.length_nil];omega)
     have fR:NdFits (cutR n):=by
      unfold cutR
      split <;> refine ⟨?_,?_,?_⟩ <;> (dsimp only;simp only[List.length_drop,List.length_nil];omega)
     have c1:=p52 e v (fun _=>h.right) (cutL n) fL
     have c2:=p52 (storeE e (cutL n)).2 v (fun _=>(store_inv h).1.right) (cutR n) fR
     refine ⟨_,_,_,_,_,_,_,_,_,_,g,sel_intro (fun h=>by simp at h) (fun _ => ?_)⟩
     exact ⟨_,_,_,_,_,_,_,_,_,c1,_,_,_,_,_,_,_,_,_,c2,rfl,rfl⟩
   · rw[if_pos hc]
     rw[CutV,if_neg hc]at g
     exact ⟨_,_,_,_,_,_,_,_,_,_,g,sel_intro (fun _=>⟨rfl,rfl⟩) (fun h=>by simp at h)⟩
theorem nd_fits {n:Nd} (hs:Stands n):NdFits n:=by
 obtain ⟨h1,h2,h3⟩:=st_lens hs
 exact ⟨by omega,by omega,by omega⟩
theorem sl_ins (l:List ByteArray) (i:Nat) (x:ByteArray):(sl_ l).take i++D.str x :: (sl_ l).drop i=sl_ (insAt l i x):=by simp[sl_,insAt,List.map_take,List.map_drop]
theorem il_ins (l:List Int) (i:Nat) (x:Int):(il l).take i++D.int .i64 x :: (il l).drop i=il (insAt l i x):=by simp[il,insAt,List.map_take,List.map_drop]
theorem ins_s {i1 i2:Nat} (h12:i1≠i2) (l:List ByteArray) (x:ByteArray) (k:Nat) (hk:k≤l.length) (hl:l.length≤1000) {H:Heap} (h1:H.get i1=some (.row false false 0 9 1 (sl_ l))) (h2:H.get i2=some (.row false false 0 9 1 [.str x])):
  Runs Fs3 87 [.row i1 0,.n (.int .i64 k),.row i2 0] H (.row i1 1) (H.ins i1 (.row false false 1 9 1 (sl_ (insAt l k x)))):=by
 have:=upd_runs fs87 h1 (els':=sl_ (insAt l k x)) (r:=[.n (.int .i64 k),.row i2 0]) (by
  simp only[insL,h2]
  rw[if_pos ⟨h12,trivial,by omega,by rw[sl_len];omega,by rw[sl_len];omega⟩,show Int.toNat (k:Int)=k from rfl,sl_ins])
 exact this
theorem ins_i {i1 i2 v:Nat} (h12:i1≠i2) (l:List Int) (x:Int) (k:Nat) (hk:k≤l.length) (hl:l.length≤1000) {H:Heap} (h1:H.get i1=some (.row false false v 3 1 (il l))) (h2:H.get i2=some (.row false false 0 3 1 [.int .i64 x])):
  Runs Fs3 88 [.row i1 v,.n (.int .i64 k),.row i2 0] H (.row i1 (v+1)) (H.ins i1 (.row false false (v+1) 3 1 (il (insAt l k x)))):=by
 have:=upd_runs fs88 h1 (els':=il (insAt l k x)) (r:=[.n (.int .i64 k),.row i2 0]) (by
  simp only[insL,h2]
  rw[if_pos ⟨h12,trivial,by omega,by rw[il_len];omega,by rw[il_len];omega⟩,show Int.toNat (k:Int)=k from rfl,il_ins])
 exact this
set_option maxHeartbeats 4000000 in
theorem p59 {w0:Wd} (key val:ByteArray):∀(f:Nat) (e:Ed) (v:Nat) (b d:Int),d+f=10→1≤d→1≤f→Inv w0 e →
   Runs Fs3 59 [.ptr 3000305 0,.n (.int .i64 b),.n (.int .i64 d)] (hG key val e v) (splV (putE key val f e b d).1) (hG key val (putE key val f e b d).2 v)
 | 0,e,v,b,d,_,_,h,_=>absurd h (by omega)
 | f+1,e,v,b,d,hd,h1,_,hI=>by
   have c1:=p71 e v hI.right b d
   obtain ⟨l1,l2⟩:=load_inv (b:=b) (d:=d) hI
   refine vc_mut fs59 rfl (by kernel_rfl) ?_
   unfold hG hE hEz
   rw[vc59h,(V59he _ _ _ _ _ _ _ _ _ _ _ _).down]
   refine ⟨_,_,_,_,_,_,_,_,_,_,_,_,c1,sel_intro (fun h => ?_) (fun h => ?_)⟩
   · have hb:(loadE e b d).2.bad≠0:=by simpa using h
     rw[putE]
     dsimp only
     rw[if_pos hb]
     exact ⟨rfl,rfl⟩
   · have hb:(loadE e b d).2.bad=0:=by simpa using h
     obtain ⟨l3,l4,l5,l6⟩:=l2 hb
     have hok:=hold_ok l5
     have hs:=hok.1
     have hfit:=nd_fits hs
     obtain ⟨k1,k2,k3⟩:=st_lens hs
     obtain ⟨d1,d2⟩:=drop_inv l1 hb (by rw[l4];exact l5)
     rw[putE]
     dsimp only
     rw[if_neg (by simpa using hb)]
     have c2:=p72 (loadE e b d).2 v l1.right b
     generalize (loadE e b d).1=n at l5 hok hs hfit k1 k2 k3 ⊢
     generalize (loadE e b d).2=e1 at l1 hb d1 d2 c2 ⊢
     refine ⟨_,_,_,_,_,_,_,_,c2,?_⟩
     generalize dropE e1 b=e2 at d1 d2 ⊢
     refine sel_intro (fun hl => ?_) (fun hl => ?_)
     · rw[if_pos hl]
       obtain ⟨v1,v2⟩:=st_leaf hs hl
       have hsr:=srch_le n.keys key
       refine ⟨_,_,(p64 n key hfit hs).up up3,sel_intro (fun ha => ?_) (fun ha => ?_)⟩
       · have hsl:=at_lt ha
         have c3:=p86 key val e2 v d1 (leafPut n key val) (by
           rw[leafPut,if_pos ha];exact ⟨by dsimp only;omega,by dsimp only;rw[List.length_set];omega,by dsimp only;omega⟩)
         rw[leafPut,if_pos ha,ndV]at c3
         refine ⟨_,_,clone_runs fs70 (sl_ n.vals) (by rw[sl_len];omega),⟨rfl,rfl⟩,by omega,by rw[sl_len];omega,⟨⟨⟨rfl,rfl⟩,rfl⟩,rfl⟩,by rw[sl_len];omega,rfl,?_⟩
         rw[show Int.toNat ((srch n.keys key:Nat):Int)=srch n.keys key from rfl,sl_set,leafPut,if_pos ha]
         exact ⟨_,_,_,_,_,_,_,_,_,_,_,_,_,_,c3,rfl,rfl⟩
       · have c3:=p86 key val e2 v d1 (leafPut n key val) (by
           rw[leafPut,if_neg (by rw[ha];simp)];exact ⟨by dsimp only;rw[insAt_len _ hsr];omega,by dsimp only;rw[insAt_len _ (by omega)];omega,by dsimp only;omega⟩)
         rw[leafPut,if_neg (by rw[ha];simp),ndV]at c3
         rw[leafPut,if_neg (by rw[ha];simp)]
         refine ⟨_,_,clone_runs fs70 (sl_ n.keys) (by rw[sl_len];omega),_,ins_s (by decide) n.keys key (srch n.keys key) hsr (by omega) rfl rfl,_,_,clone_runs fs70 (sl_ n.vals) (by rw[sl_len];omega),_,ins_s (by decide) n.vals val (srch n.keys key) (by omega) (by omega) rfl rfl,rfl,rfl,?_⟩
         exact ⟨_,_,_,_,_,_,_,_,_,_,_,_,_,_,c3,rfl,rfl⟩
     · rw[if_neg (by rw[hl];simp)]
       obtain ⟨v1,v2⟩:=st_inner hs hl
       have hk:=kid_lt hs hl key
       have hki:=kidI_of hs.2.1 key
       have hkle:=kidOf_le n.keys key
       rw[hki]at hk
       have c3:=(p63i n key hfit hs hl).up up3
       rw[hki]at c3
       have hd9:d≤8:=l6
       have ih:=p59 key val f e2 v ((n.kids[kidOf n.keys key]?).getD 0) (d+1) (by omega) (by omega) (by omega) d1
       have pi:=(put_inv (key:=key) (val:=val) f e2 ((n.kids[kidOf n.keys key]?).getD 0) (d+1) d1).1
       generalize hrr:putE key val f e2 ((n.kids[kidOf n.keys key]?).getD 0) (d+1)=r at ih pi ⊢
       rw[List.getElem?_eq_getElem hk]at ih
       obtain ⟨s,e3⟩:=r
       dsimp only at ih pi ⊢
       rw[i64_in (d+1) (by omega)]
       refine ⟨_,c3,rfl,by omega,_,il_at hk,_,rfl,_,_,_,_,_,_,_,_,_,_,_,_,_,_,ih,sel_intro (fun hb3 => ?_) (fun hb3 => ?_)⟩
       · rw[if_pos (by simpa using hb3)]
         exact ⟨rfl,rfl⟩
       · rw[if_neg (by simpa using hb3)]
         refine ⟨_,_,clone_runs fs74 (il n.kids) (by rw[il_len];omega),⟨rfl,rfl⟩,by omega,by rw[il_len];omega,⟨⟨⟨rfl,rfl⟩,rfl⟩,rfl⟩,by rw[il_len];exact hk,?_⟩
         rw[show Int.toNat ((kidOf n.keys key:Nat):Int)=kidOf n.keys key from rfl,il_set]
         refine sel_intro (fun ht => ?_) (fun ht => ?_)
         · have c4:=p86 key val e3 v pi (innerPut n (kidOf n.keys key) s) (by
            rw[innerPut,if_pos ht];exact ⟨by dsimp only;rw[insAt_len _ hkle];omega,by dsimp only;omega,by dsimp only;rw[insAt_len _ (by rw[List.length_set];omega),List.length_set];omega⟩)
           rw[innerPut,if_pos ht,ndV]at c4
           rw[innerPut,if_pos ht]
           rw[i64_in _ (by omega)]
           refine ⟨_,_,clone_runs fs70 (sl_ n.keys) (by rw[sl_len];omega),_,ins_s (by decide) n.keys s.key (kidOf n.keys key) hkle (by omega) rfl rfl,_,ins_i (v:=0) (by decide) (n.kids.set (kidOf n.keys key) s.left) s.right (kidOf n.keys key+1) (by rw[List.length_set];omega) (by rw[List.length_set];omega) rfl rfl,rfl,rfl,?_⟩
           exact ⟨_,_,_,_,_,_,_,_,_,_,_,_,_,_,c4,rfl,rfl⟩
         · have c4:=p86 key val e3 v pi (innerPut n (kidOf n.keys key) s) (by
            rw[innerPut,if_neg (by rw[ht];simp)];exact ⟨by dsimp only;omega,by dsimp only;omega,by dsimp only;rw[List.length_set];omega⟩)
           rw[innerPut,if_neg (by rw[ht];simp),ndV]at c4
           rw[innerPut,if_neg (by rw[ht];simp)]
           exact ⟨rfl,_,_,_,_,_,_,_,_,_,_,_,_,_,_,c4,rfl,rfl⟩
end Go.Proofs.YtclgengkohbjjaaGreatDoor.M
