import Derived.Test.YtegndijbpiccgaaGreatDoorMirE
import Derived.Lib.AppendStr
import Derived.Laws.Append
import Derived.Maps.AppendAt
namespace Go.Mir
set_option linter.unusedVariables false
set_option linter.unusedSimpArgs false
open Go.RowKit Go.Lib
section
variable {P:Program} {w:World} {C:Cx} {own:Nat->Prop} {m:Places} {H:Heap} {σ:Slots} {a:Act}
theorem Mi:∀ {ps:List (Nat×Operand)} {k:Nat} {l:List Operand},Hq k ps=some l->ps=(l.zipIdx k).map λp=>(p.2,p.1)
 | [],k,l,h=>by simp only[Hq,oI]at h;subst h;rfl
 | (i,x)::r,k,l,h=>by
  simp only[Hq]at h;split at h<;>try (simp at h;done)
  rename_i l' hl';split at h<;>simp only[oI,reduceCtorEq]at h;rename_i e;subst e h;rw[Mi hl'];simp[List.zipIdx_cons]
theorem QM {sz:Nat}:∀(us:List Value) (k:Nat) (cur:List Value),(∀u∈us,u.cells.size=sz)->(k+us.length)*sz<=cur.length ->
   ∃cur':List Value,Instr.fill (λi=>some (i*sz,sz)) cur.toArray ((us.zipIdx k).map λp=>(p.2,p.1))=some cur'.toArray/\cur'.length=cur.length/\(∀p,p<k*sz->cur'[p]?=cur[p]?) /\
     ∀(i:Nat) u j,us[i]?=some u->j<sz->cur'[(k+i)*sz+j]?=u.cells.toList[j]?
 | [],k,cur,_,_=>⟨cur,rfl,rfl,λ_ _=>rfl,λi u j h=>by simp at h⟩
 | u::r,k,cur,hs,hle=>by
  have hu:=hs u (List.mem_cons_self ..);have hmul:(k+(r.length+1))*sz=(k+1+r.length)*sz:=by congr 1;omega
  simp only[List.length_cons]at hle;rw[hmul]at hle;have hk1:(k+1)*sz<=(k+1+r.length)*sz:=Nat.mul_le_mul_right _ (by omega);rw[Nat.add_mul k 1,Nat.one_mul]at hk1;have hul:u.cells.toList.length=sz:=by simpa using hu
  obtain⟨cur',h1,h2,h3,h4⟩:=QM r (k+1) (Fc cur (k*sz) u.cells.toList) (λv hv=>hs v (List.mem_cons_of_mem _ hv)) (by rw[EE _ _ _ (by omega)];exact hle);refine⟨cur',?_,by rw[h2,EE _ _ _ (by omega)],λp hp=>?_,λi v j hi hj=>?_⟩;·simp only[List.zipIdx_cons,List.map_cons,Instr.fill];rw[if_neg (by simp[hu];omega)];rw[<-h1];congr 1;rw[<-Array.foldl_toList,Array.toList_zipIdx];have:=H6 u.cells.toList cur (k*sz) 0;rw[this];congr 1;refine List.ext_getElem? λq=>?_;rw[Fh _ _ _ _ _ (by omega),C4 _ _ _ _ (by omega)];simp
  ·rw[h3 p (by rw[Nat.add_mul];omega),C4 _ _ _ _ (by omega),if_neg (by omega)]
  ·cases i with
   | zero=> simp only[List.getElem?_cons_zero,oI]at hi;subst hi;rw[Nat.add_zero,h3 _ (by rw[Nat.add_mul];omega),C4 _ _ _ _ (by omega),if_pos (by omega)];congr 1;omega
   | succ i=> have:=h4 i v j (by simpa using hi) hj;rw[<-this];congr 2;congr 1;omega
theorem Rp (hr:HR w C own m H)(hN:C.N<=w.heap.size){o:Oper}{id:Nat}(hid:H.get id=none){nw:Bool}{e sz:Nat}{els:List D}(xs:List Value)(cap:Nat)(cur:Array Value)
  (hcap:els.length<=cap) (hmax:cap<=maxLen) (hcs:cur.size=cap*sz) (htake:cur.toList.take (els.length*sz)=xs) (hsz:∀(i:Nat) (x:D),els[i]?=some x->x.cells.length=sz)
  (hd:∀(i:Nat) (x:D) (j:Nat) (y:D) v,els[i]?=some x->x.cells[j]?=some y->xs[i*sz+j]?=some v->DR w (C.ok (owned H m) nw) y v)
  (hrun:(execOp a.eval o).run P w = .ok (.value (.slice (some ⟨w.heap.size,0,none⟩) els.length cap)) (w.alloc (.cells cur e))):Does P a o w C own m H (.row id 0) (H.ins id (.row false nw 0 e sz els)):=by
 have U:=T5 hr hid (.row false nw 0 e sz els) (.cells cur e) 0 (.row w.heap.size els.length cap) rfl (λb h=>by obtain⟨l,h1,h2⟩:=h;rw[Places.set_at]at h1;simp only[oI]at h1;subst h1;simpa[Loc.block] using h2.symm) rfl
 have S:=U.step hr
 refine⟨_,_,_,.inl hrun,S,U.hr hr hN ?_,.row id 0 _ (Places.set_at ..) rfl,U.keep hr hN⟩
 have hl:xs.length=els.length*sz:=by rw[<-htake];simp;rw[hcs];exact Nat.min_eq_left (Nat.mul_le_mul_right _ hcap)
 exact⟨_,xs,Places.set_at ..,rfl,⟨hl,.inr ⟨w.heap.size,cap,cur,rfl,Nat.zero_le _,Nc _ _,hcap,hmax,hcs,htake⟩⟩,hsz,
  λi x j y v h1 h2 h3=>(hd i x j y v h1 h2 h3).mono S.size (S.ok nw),λ_ b hb=>by simp only[Loc.block,oI]at hb;omega⟩
theorem PG {sz:Nat}:∀ {vs:List AV} {us:List Value} {nw:Bool} {els:List D},Cells w C (owned H m) m vs us->LC sz vs=some (nw,els) ->
   els.length=us.length/\(∀u∈us,u.cells.size=sz)/\∀(i:Nat) x u,els[i]?=some x->us[i]?=some u->x.cells.length=sz/\∀(j:Nat) y v,x.cells[j]?=some y->u.cells.toList[j]?=some v->DR w (C.ok (owned H m) nw) y v
 | [],us,nw,els,h,hm=>by simp only[LC,oI,pI]at hm;obtain⟨rfl,rfl⟩:=hm;obtain rfl:us=[]:=List.eq_nil_of_length_eq_zero (by simpa using h.1.symm);exact⟨rfl,by simp,λi x u h=>by simp at h⟩
 | x::r,us,nw,els,h,hm=>by
  simp only[LC]at hm;split at hm<;>simp only[oI,reduceCtorEq,pI]at hm;rename_i b y c s h1 h2;obtain⟨rfl,rfl⟩:=hm
  cases us with
  | nil=>have:=h.1;simp at this
  | cons u us=>
   have e1:=Up (h.2 0 x u rfl rfl) h1;have e2:=PG (us:=us) ⟨by simpa using h.1,λi c u h1 h2=>h.2 (i+1) c u (by simpa using h1) (by simpa using h2)⟩ h2;refine⟨by simp[e2.1],λv hv=>?_,λi x' u' hx hu=>?_⟩
   ·rcases List.mem_cons.1 hv with rfl|hv;·exact e1.2.1
    ·exact e2.2.1 v hv
   ·cases i with
    | zero=> simp only[List.getElem?_cons_zero,oI]at hx hu;subst hx hu;exact⟨e1.1,λj y v h3 h4=>HV (.inl (e1.2.2.2 j y v h3 h4))⟩
    | succ i=> have:=e2.2.2 i x' u' (by simpa using hx) (by simpa using hu);exact⟨this.1,λj y v h3 h4=>HV (.inr (this.2 j y v h3 h4))⟩
theorem LF (t e:TypeId)(len:Nat)(ti:TypeInfo)(zv:Value)(ps:List (Nat×Value))(cur:List Value)(ht:P.underlying t=some (.slice e))(hi:P.info? e=some ti)(hz:ti.zero=some zv)(hbig:len*ti.size<=16777216)
   (hf:Instr.fill (λi=>some (i*ti.size,ti.size)) ((List.range (len*ti.size)).map λk=>(if len*ti.size=0 then #[] else zv.cells)[k % (if len*ti.size=0 then #[] else zv.cells).size]!).toArray ps=some cur.toArray):
   (Instr.buildSlice t len ps.toArray).run P w = .ok (.slice (some ⟨w.heap.size,0,none⟩) len len) (w.alloc (.cells cur.toArray e)):=by
 have hbig':¬(len*ti.size > 2 ^ 24):=by omega
 generalize hzz:(if len*ti.size=0 then #[] else zv.cells)=zz at hf
 have hrange:(Array.range (len*ti.size)).map (λk=>zz[k % zz.size]!)=((List.range (len*ti.size)).map λk=>zz[k % zz.size]!).toArray:=by rw[<-List.toArray_range,List.map_toArray]
 unfold Instr.buildSlice
 simp only[Sem.run_bind,run_underlying ht,Result.andThen_ok,sizeOf,typeInfo,run_program,hi,Sem.run_pure]
 rw[if_neg hbig']
 by_cases h0:len*ti.size=0
 ·rw[if_pos h0]at hzz |-
  subst hzz
  simp only[Sem.run_bind,Sem.run_pure,Result.andThen_ok]
  rw[hrange,hf]
  simp[newRow]
 ·rw[if_neg h0]at hzz |-
  subst hzz
  have hzv:(zeroValue e).run P w = .ok zv w:=by simp[zeroValue,typeInfo,hi,hz]
  simp only[Sem.run_bind,Sem.run_pure,Result.andThen_ok,hzv]
  rw[hrange,hf]
  simp[newRow]
theorem AAg {call:Al}(hr:HR w C own m H)(hN:C.N<=w.heap.size)(hal:∀b,own b->C.al b)(hv:∀t,VR w C (owned H m) m (σ.get t) (a.tmps.getD t undef)){o:Oper}{id:Nat}{t e:TypeId}{ti:TypeInfo}{len:Nat}{parts:Array (Nat×Operand)}{l:List Operand}{z:List AV}{v:AV}{H':Heap}
   (ht:P.underlying t=some (.slice e)) (hi:P.info? e=some ti) (hz:Cf P e=some z) (hl:Hq 0 parts.toList=some l) (hlen:l.length=len) (hzl:z.length=ti.size) (h0:0<ti.size) (hbig:len*ti.size<=16777216)
   (ho:o.op = .buildSlice t len parts) (h:Ac call σ H (.lit id e ti.size l)=some (v,H')):Does P a o w C own m H v H':=by
 simp only[Ac]at h
 split at h<;>try (simp at h;done)
 rename_i hid
 split at h<;>try (simp at h;done)
 rename_i vs hvs
 split at h<;>try (simp at h;done)
 rename_i vs' hsn
 split at h<;>simp only[oI,reduceCtorEq,pI]at h
 obtain⟨rfl,rfl⟩:=h
 rename_i nw els hm
 obtain⟨hl1,hl2⟩:=Mo hv hvs
 have hc:Cells w C (owned H m) m vs (l.map a.eval):=⟨by simpa using hl1,λi c u h1 h2=>by
  rw[List.getElem?_map]at h2
  cases hx:l[i]? with
  | none=>simp[hx]at h2
  | some x=>simp only[hx,Option.map_some,oI]at h2;subst h2;exact hl2 i c x h1 hx⟩
 have hc':=OW hr hal hc hsn
 refine Does.frozen (ids:=rowsInL vs) ?_
 have hr':=BW (rowsInL vs) hr
 have hid':(H.freeze (rowsInL vs)).get id=none:=by rw[Heap.get_freeze];simp only[Option.not_isSome_iff_eq_none]at hid;rw[hid]
 generalize H.freeze (rowsInL vs)=H1 at hr' hc' hid' |-
 obtain⟨e1,e2,e3⟩:=PG hc' hm
 have hel:els.length=len:=by rw[e1,List.length_map,hlen]
 unfold Cf at hz
 rw[hi]at hz
 simp only at hz
 split at hz<;>try (simp at hz;done)
 rename_i zv hzv
 have hzc:=(D5 (w:=w) (C:=C) (ow:=owned H1 m) (m:=m) hz).1.1
 have hzs:zv.cells.size=ti.size:=by rw[<-hzl,hzc];simp
 let init:List Value:=(List.range (len*ti.size)).map λk=>(if len*ti.size=0 then #[] else zv.cells)[k % (if len*ti.size=0 then #[] else zv.cells).size]!
 obtain⟨cur,f1,f2,_,f4⟩:=QM (sz:=ti.size) (l.map a.eval) 0 init e2 (by simp[init,hlen])
 have f2':cur.length=len*ti.size:=by rw[f2];simp[init]
 have hpart:parts.toList=(l.zipIdx 0).map λp=>(p.2,p.1):=Mi hl
 have hparts:(parts.map λ(p:Nat×Operand)=>(p.1,a.eval p.2)).toList=((l.map a.eval).zipIdx 0).map λp=>(p.2,p.1):=by rw[Array.toList_map,hpart,List.zipIdx_map,List.map_map,List.map_map];rfl
 refine Rp hr' hN hid' (xs:=cur) (cap:=len) (cur:=cur.toArray) (by omega) ?_ (by simp[f2']) (by rw[hel,<-f2'];simp) (λi x hx=>?_) (λi x j y u hx hy hu=>?_) ?_
 ·have:len<=len*ti.size:=Nat.le_mul_of_pos_right _ h0
  simp only[maxLen];omega
 ·have hlt:i<(l.map a.eval).length:=by rw[<-e1];exact(List.getElem?_eq_some_iff.1 hx).1
  exact(e3 i x _ hx (gI hlt)).1
 ·have hlt:i<(l.map a.eval).length:=by rw[<-e1];exact(List.getElem?_eq_some_iff.1 hx).1
  obtain⟨h1,h2⟩:=e3 i x _ hx (gI hlt)
  have hj:j<ti.size:=by rw[<-h1];exact(List.getElem?_eq_some_iff.1 hy).1
  have:=f4 i _ j (gI hlt) hj
  rw[Nat.zero_add]at this
  exact h2 j y u hy (by rw[<-this];exact hu)
 ·have hbig':¬(2 ^ 24<len*ti.size):=by omega
  have hpp:parts.map (λ(p:Nat×Operand)=>(p.1,a.eval p.2))=(((l.map a.eval).zipIdx 0).map λp=>(p.2,p.1)).toArray:=by rw[<-hparts,Array.toArray_toList]
  have hrun:=LF (P:=P) (w:=w) t e len ti zv _ cur ht hi hzv (by omega) f1
  rw[hel]
  simp only[execOp,ho]
  rw[hpp,Sem.run_bind,hrun]
  rfl
theorem Lies.news {okd:Nat->Prop}{sz:Nat}{els:List D}{v:Value}(h:Lies w okd sz els v)(h0:0<sz):((∃p c,v = .slice p 0 c/\(p=none->c=0))/\els=[])\/∃b off c,∃news:List Value,v = .slice (some ⟨b,off,none⟩) els.length c/\news.length=els.length*sz /\
   (∀(j:Nat) u,news[j]?=some u->w.cell? ((⟨b,off,none⟩:Addr).add j)=some u)/\(∀u∈news,u.oneCell'=true)/\(∀(i:Nat) (x:D),els[i]?=some x->x.cells.length=sz) /\
   ∀(i:Nat) (x:D) (j:Nat) (y:D) u,els[i]?=some x->x.cells[j]?=some y->news[i*sz+j]?=some u->DR w okd y u:=by
 rcases h with h|⟨b,off,c,vs,rfl,hc,hb,hsz,hv,hd⟩
 ·exact .inl h
 ·have key:∀p,p<els.length*sz->∃x y,els[p / sz]?=some x/\x.cells[p % sz]?=some y:=by
   intro p hp;have h1:p / sz<els.length:=by rw[Nat.div_lt_iff_lt_mul h0];exact hp
   have h2:=hsz _ _ (gI h1);exact⟨_,_,gI h1,gI (by rw[h2];exact Nat.mod_lt _ h0)⟩
  refine .inr ⟨b,off,c,(List.range (els.length*sz)).map λp=>vs (p / sz) (p % sz),rfl,by simp,λj u hj=>?_,λu hu=>?_,hsz,λi x j y u hx hy hu=>?_⟩
  ·rw[List.getElem?_map]at hj
   by_cases hp:j<els.length*sz
   ·rw[List.getElem?_range hp]at hj
    simp only[Option.map_some,oI]at hj
    subst hj
    obtain⟨x,y,hx,hy⟩:=key j hp
    have:=hv _ x _ y hx hy
    rw[CB,<-this]
    congr 2
    rw[Nat.mul_comm,Nat.div_add_mod]
   ·rw[List.getElem?_eq_none (by simpa using hp)]at hj;simp at hj
  ·obtain⟨p,hp,rfl⟩:=List.mem_map.1 hu
   obtain⟨x,y,hx,hy⟩:=key p (List.mem_range.1 hp)
   exact(hd _ x _ y hx hy).one
  ·have hi:i<els.length:=(List.getElem?_eq_some_iff.1 hx).1
   have hj:j<sz:=by rw[<-hsz i x hx];exact(List.getElem?_eq_some_iff.1 hy).1
   have hp:i*sz+j<els.length*sz:=by have:(i+1)*sz<=els.length*sz:=Nat.mul_le_mul_right _ hi;rw[Nat.add_mul]at this;omega
   rw[List.getElem?_map,List.getElem?_range hp]at hu
   simp only[Option.map_some,oI]at hu
   subst hu
   have e1:(i*sz+j) / sz=i:=by rw[Nat.add_comm,Nat.add_mul_div_right _ _ h0,Nat.div_eq_of_lt hj,Nat.zero_add]
   have e2:(i*sz+j) % sz=j:=by rw[Nat.add_comm,Nat.add_mul_mod_self_right,Nat.mod_eq_of_lt hj]
   rw[e1,e2]
   exact hd i x j y hx hy
theorem JV {e sz n:Nat}{v:Value}{xs:List Value}(h:w.ownsRow 0 e sz v n xs):∃l:Loc,l.isRow=true/\l.val=v/\∀b,l.block=some b ↔ v.ownBlock=some b:=by
 rcases h.2 with⟨rfl,_⟩|⟨g,cap,cur,rfl,_⟩
 ·exact⟨.nilrow,rfl,rfl,λb=>by simp[Loc.block,Value.ownBlock]⟩
 ·exact⟨.row g n cap,rfl,rfl,λb=>by simp[Loc.block,Value.ownBlock]⟩
theorem Loc.own_block {l:Loc}(h:l.isRow=true):l.val.ownBlock=l.block:=by cases l<;>simp_all[Loc.val,Loc.block,Value.ownBlock,Loc.isRow]
theorem Pq (hr:HR w C own m H)(hN:C.N<=w.heap.size){id ver:Nat}{nw b:Bool}{e sz:Nat}{els ys:List D}
   {v:Value} {xs:List Value} (hown:w.ownsRow 0 e sz v els.length xs)
   (hxs:∀(i:Nat) (x:D),els[i]?=some x->x.cells.length=sz) (hxd:∀(i:Nat) (x:D) (j:Nat) (y:D) u,els[i]?=some x->x.cells[j]?=some y->xs[i*sz+j]?=some u->DR w (C.ok (owned H m) nw) y u)
   (hxb:nw=true->∀b,v.ownBlock=some b->C.N<=b)
   (hcase:(H.get id=none/\v = .slice none 0 0/\ver=0)\/∃v0 o0,ver=v0+1/\H.get id=some o0/\o0.frozen=false/\o0.ver=v0/\(∃l,m id v0=some l/\l.val=v/\∀b,lies m id o0 b ↔ l.block=some b)/\m id ver=none)
   {v':Value} {w':World} {news:List Value} (hown':w'.ownsRow 0 e sz v' (els.length+ys.length) (xs++news)) (hg:w.grownBy w' v.ownBlock) (hat:v'.ownBlock=v.ownBlock\/∀k,v'.ownBlock=some k->w.heap.size<=k)
   (hys:∀(i:Nat) (x:D),ys[i]?=some x->x.cells.length=sz) (hyd:∀(i:Nat) (x:D) (j:Nat) (y:D) u,ys[i]?=some x->x.cells[j]?=some y->news[i*sz+j]?=some u->DR w (C.ok (owned H m) b) y u):
   ∃m',Step C w (owned H m) m w' (owned (H.ins id (.row false (nw&&b) ver e sz (els++ys))) m') m'/\HR w' C own m' (H.ins id (.row false (nw&&b) ver e sz (els++ys)))/\VR w' C (owned (H.ins id (.row false (nw&&b) ver e sz (els++ys))) m') m' (.row id ver) v'/\Keep C.N own w w':=by
 obtain⟨l',hl1,rfl,hl3⟩:=JV hown'
 have hm0:m id ver=none:=by
  rcases hcase with⟨hid,_,rfl⟩|⟨_,_,_,_,_,_,_,h⟩
  ·cases h:m id 0 with
   | none=>rfl
   | some l=>have:=hr.dom _ _ _ h;rw[hid]at this;cases this
  ·exact h
 have hvb:∀b,v.ownBlock=some b->∃o0,H.get id=some o0/\lies m id o0 b:=λb hb=>by
  rcases hcase with⟨_,rfl,_⟩|⟨v0,o0,_,hg0,_,_,⟨l,_,e1,e2⟩,_⟩
  ·simp[Value.ownBlock]at hb
  ·refine⟨o0,hg0,(e2 b).2 ?_⟩;rw[<-e1]at hb
   cases l with
   | box k=>simp[Loc.val,Value.ownBlock]at hb
   | nilrow=>simp[Loc.val,Value.ownBlock]at hb
   | row k n c=>simpa[Loc.val,Value.ownBlock,Loc.block] using hb
 have hlb:∀b,l'.block=some b->b<w'.heap.size/\((∃o,H.get id=some o/\lies m id o b)\/w.heap.size<=b):=λb hb=>by
  rw[hl3]at hb;refine⟨(hown'.lt b hb).2,?_⟩;rcases hat with e1|e1;·rw[e1]at hb;exact .inl (hvb b hb)
  ·exact .inr (e1 b hb)
 have U:Upd w m H id (.row false (nw&&b) ver e sz (els++ys)) w' (m.set id ver l'):=by
  refine⟨λi v l h=>?_,λi v l h=>?_,hg.size,λk hk hnl=>hg.block k hk λe1=>?_,λo1 h1=>?_,λk hk=>?_,λv hv=>?_,hg.os,hg.tape,hg.output⟩
  ·simp only[Places.set];rw[if_neg];·exact h
   ·rintro⟨rfl,rfl⟩;rw[hm0]at h;cases h
  ·simp only[Places.set]at h;split at h;·rename_i hc;simp only[oI]at h;subst h;exact .inr ⟨hc.1,hlb⟩
   ·exact .inl h
  ·obtain⟨o0,h1,h2⟩:=hvb k e1.symm;exact hnl o0 h1 h2
  ·rcases hcase with⟨hid,_⟩|⟨_,o0,_,hg0,hf,_,_⟩
   ·rw[hid]at h1;cases h1
   ·rw[hg0]at h1;simp only[oI]at h1;subst h1;exact hf
  ·obtain⟨l1,h1,h2⟩:=hk;rw[Places.set_at]at h1;simp only[oI]at h1;subst h1;exact(hlb k h2).2
  ·simp only[Ob.ver]at hv;simp only[Places.set];rw[if_neg (by omega)];rcases hcase with⟨hid,_,rfl⟩|⟨v0,o0,rfl,hg0,hf,hv0,_,_⟩
   ·cases h:m id v with
    | none=>rfl
    | some l=>have:=hr.dom _ _ _ h;rw[hid]at this;cases this
   ·exact hr.top id o0 v hg0 (by omega)
 have S:=U.step hr
 refine⟨_,S,U.hr hr hN ?_,.row id ver _ (Places.set_at ..) hl1,U.keep hr hN⟩
 have hxl:xs.length=els.length*sz:=hown.1
 refine⟨l',xs++news,Places.set_at ..,hl1,by rw[List.length_append];exact hown',λi x hx=>?_,λi x j y u hx hy hu=>?_,λhnw k hk=>?_⟩
 ·rw[List.getElem?_append]at hx
  split at hx
  ·exact hxs i x hx
  ·exact hys _ x hx
 ·rw[List.getElem?_append]at hx
  split at hx
  ·rename_i hi'
   have hj:j<sz:=by rw[<-hxs i x hx];exact(List.getElem?_eq_some_iff.1 hy).1
   have hp:i*sz+j<els.length*sz:=by have:(i+1)*sz<=els.length*sz:=Nat.mul_le_mul_right _ hi';rw[Nat.add_mul]at this;omega
   rw[List.getElem?_append_left (by omega)]at hu
   exact HV (.inl ((hxd i x j y u hx hy hu).mono S.size (S.ok nw)))
  ·rename_i hi'
   have hge:els.length*sz<=i*sz:=Nat.mul_le_mul_right _ (by omega)
   rw[List.getElem?_append_right (by omega)]at hu
   have e1:i*sz+j-xs.length=(i-els.length)*sz+j:=by rw[hxl,Nat.sub_mul];omega
   rw[e1]at hu
   exact HV (.inr ((hyd _ x j y u hx hy hu).mono S.size (S.ok b)))
 ·simp only[Bool.and_eq_true]at hnw
  rw[hl3]at hk
  rcases hat with e1|e1
  ·rw[e1]at hk;exact hxb hnw.1 k hk
  ·have:=e1 k hk;omega
theorem I4 (hr:HR w C own m H)(hN:C.N<=w.heap.size){o:Oper}{id ver:Nat}{nw b:Bool}{e sz:Nat}{els ys:List D}
  {v:Value} {xs:List Value} (hown:w.ownsRow 0 e sz v els.length xs)
  (hxs:∀(i:Nat) (x:D),els[i]?=some x->x.cells.length=sz) (hxd:∀(i:Nat) (x:D) (j:Nat) (y:D) u,els[i]?=some x->x.cells[j]?=some y->xs[i*sz+j]?=some u->DR w (C.ok (owned H m) nw) y u)
  (hxb:nw=true->∀b,v.ownBlock=some b->C.N<=b)
  (hcase:(H.get id=none/\v = .slice none 0 0/\ver=0)\/∃v0 o0,ver=v0+1/\H.get id=some o0/\o0.frozen=false/\o0.ver=v0/\(∃l,m id v0=some l/\l.val=v/\∀b,lies m id o0 b ↔ l.block=some b)/\m id ver=none)
  (hrun:∃v' w' news,(execOp a.eval o).run P w = .ok (.value v') w'/\w'.ownsRow 0 e sz v' (els.length+ys.length) (xs++news)/\w.grownBy w' v.ownBlock/\(v'.ownBlock=v.ownBlock\/v'.ownBlock=some w.heap.size) /\
    (∀(i:Nat) (x:D),ys[i]?=some x->x.cells.length=sz)/\∀(i:Nat) (x:D) (j:Nat) (y:D) u,ys[i]?=some x->x.cells[j]?=some y->news[i*sz+j]?=some u->DR w (C.ok (owned H m) b) y u):
  Does P a o w C own m H (.row id ver) (H.ins id (.row false (nw&&b) ver e sz (els++ys))):=by
 obtain⟨v',w',news,hrun,hown',hg,hat,hys,hyd⟩:=hrun
 obtain⟨m',h1,h2,h3,h4⟩:=Pq hr hN hown hxs hxd hxb hcase hown' hg (hat.imp (λh=>h) λh k hk=>by rw[h]at hk;simp only[oI]at hk;omega) hys hyd
 exact⟨_,w',m',.inl hrun,h1,h2,h3,h4⟩
theorem Ql (hr:HR w C own m H)(hN:C.N<=w.heap.size){o:Oper}{id ver:Nat}{nw b:Bool}{e sz bytes:Nat}{els ys:List D}{t:TypeId}{ti:TypeInfo}{z:List AV}(x y:Operand)
  (ht:P.underlying t=some (.slice e)) (hi:P.info? e=some ti) (hsz:ti.size=sz) (hby:ti.bytes=bytes) (hz:Cf P e=some z) (hzl:z.length=sz) (h0:0<sz) (hb0:0<bytes)
  (ho:o.op = .call { callee := .builtin .append,args := #[x,y],argTypes := #[t,t] })
  {v:Value} {xs:List Value} (hx:a.eval x=v) (hown:w.ownsRow 0 e sz v els.length xs)
  (hxs:∀(i:Nat) (x:D),els[i]?=some x->x.cells.length=sz) (hxd:∀(i:Nat) (x:D) (j:Nat) (y:D) u,els[i]?=some x->x.cells[j]?=some y->xs[i*sz+j]?=some u->DR w (C.ok (owned H m) nw) y u)
  (hxb:nw=true->∀b,v.ownBlock=some b->C.N<=b)
  (hcase:(H.get id=none/\v = .slice none 0 0/\ver=0)\/∃v0 o0,ver=v0+1/\H.get id=some o0/\o0.frozen=false/\o0.ver=v0/\(∃l,m id v0=some l/\l.val=v/\∀b,lies m id o0 b ↔ l.block=some b)/\m id ver=none)
  (hy:Lies w (C.ok (owned H m) b) sz ys (a.eval y)) (hlim:(els.length+ys.length)*bytes<=140737488355328):
  Does P a o w C own m H (.row id ver) (H.ins id (.row false (nw&&b) ver e sz (els++ys))):=by
 unfold Cf at hz
 rw[hi]at hz
 simp only at hz
 split at hz<;>try (simp at hz;done)
 rename_i zv hzv
 have hzc:=(D5 (w:=w) (C:=C) (ow:=owned H m) (m:=m) hz).1.1
 have hzs:zv.cells.size=sz:=by rw[<-hzl,hzc];simp
 have hmax:els.length+ys.length<=maxLen:=by
  have:els.length+ys.length<=(els.length+ys.length)*bytes:=Nat.le_mul_of_pos_right _ hb0
  simp only[maxLen];omega
 -- the run
 have hrun:∃v' w' news,(execOp a.eval o).run P w = .ok (.value v') w'/\w'.ownsRow 0 e sz v' (els.length+ys.length) (xs++news)/\w.grownBy w' v.ownBlock/\(v'.ownBlock=v.ownBlock\/v'.ownBlock=some w.heap.size) /\
    (∀(i:Nat) (x:D),ys[i]?=some x->x.cells.length=sz)/\∀(i:Nat) (x:D) (j:Nat) (y:D) u,ys[i]?=some x->x.cells[j]?=some y->news[i*sz+j]?=some u->DR w (C.ok (owned H m) b) y u:=by
  rcases hy.news h0 with⟨⟨p,c,e1,hc0⟩,rfl⟩|⟨bk,off,c,news,e1,hn,hc,h1,hs,hd⟩
  · cases p with
    | some q=>
      obtain⟨v',w',h2,h3,h4,_,h5⟩:=run_append_own_at (P:=P) w 0 t o.type e ti zv sz bytes ht hi hzv hsz hby hzs h0 v _ xs hown q 0 c [] (by simp) (λj u h=>by simp at h) (λu h=>by simp at h) hmax hlim (Nat.zero_le _)
      exact⟨v',w',[],by simp[execOp,ho,resolve,invoke,builtin,hx,e1,h2],h3,h4,h5,λi x h=>by simp at h,λi x j y u h=>by simp at h⟩
    | none=>
    obtain rfl:=hc0 rfl
    have:=run_append_owned_none (P:=P) (w:=w) 0 t o.type e ti sz ht hi v _ xs hown
    exact⟨v,w,[],by simp[execOp,ho,resolve,invoke,builtin,hx,e1,this],by simpa using hown,⟨rfl,rfl,rfl,Nat.le_refl _,λ_ _ _=>rfl⟩,.inl rfl,λi x h=>by simp at h,λi x j y u h=>by simp at h⟩
  · obtain⟨v',w',h2,h3,h4,_,h5⟩:=run_append_own_at (P:=P) w 0 t o.type e ti zv sz bytes ht hi hzv hsz hby hzs h0 v _ xs hown ⟨bk,off,none⟩ ys.length c news hn hc h1 hmax hlim (Nat.zero_le _)
    exact⟨v',w',news,by simp[execOp,ho,resolve,invoke,builtin,hx,e1,h2],h3,h4,h5,hs,hd⟩
 exact I4 hr hN hown hxs hxd hxb hcase hrun
theorem Fj {w:World}(base:Nat)(t u ty e:TypeId)(i:TypeInfo)(ht:P.underlying t=some (.slice e))(hu:P.underlying u=some .string)(hi:P.info? e=some i)(hz:i.zero=some (.int .u8 0))
   (hsize:i.size=1) (hby:i.bytes=1) (v:Value) (n:Nat) (xs:List Value) (hown:w.ownsRow base e 1 v n xs) (s:bA) (hbytes:n+s.size<=140737488355328) (hbase:base<=w.heap.size):
   ∃v' w',(Builtin.append_ #[t,u] ty #[v,.string s]).run P w = .ok v' w'/\w'.ownsRow base e 1 v' (n+s.size) (xs++Lib.strCells s)/\w.grownBy w' v.ownBlock/\(v'.ownBlock=v.ownBlock\/v'.ownBlock=some w.heap.size):=by
 obtain⟨v',w',hrun,h2,h3,h4⟩:=Lib.run_append_own_string (P:=P) w base t u ty e i ht hu hi hz hsize hby v n xs hown s (by simp only[maxLen];omega) hbytes hbase
 refine⟨v',w',hrun,h2,h3,?_⟩
 have same:∀ {v2 w2},(Builtin.append_ #[t,u] ty #[v,.string s]).run P w = .ok v2 w2->v'=v2:=λh=>by rw[hrun]at h;simp only[Result.ok.injEq]at h;exact h.1
 rcases hown.2 with⟨rfl,rfl⟩|⟨g,cap,cur,rfl,_,hg,_,_,hcs,_⟩
 ·by_cases hm:s.size=0
  ·left;rw[h4.2 ⟨rfl,hm⟩]
  ·right
   rw[same (run_append_nil_string (P:=P) w t u ty e i (.int .u8 0) ht hu hi hz s (by omega) (by omega) (by rw[hby];omega))]
   rfl
 ·by_cases hroom:n+s.size<=cap
  ·left
   rw[same (Lib.run_append_room_string (P:=P) w t u ty e i ht hu hi hsize g n cap cur hg s hroom (by rw[hcs];omega))]
   rfl
  ·right
   have hxl:xs.length=n:=by simpa using hown.1
   rw[same (Lib.run_append_grow_string (P:=P) w t u ty e i (.int .u8 0) ht hu hi hz ⟨g,0,none⟩ n cap xs (by rw[hsize];simpa using hxl) (hown.cells (g:=g) rfl) s (by omega) (by omega) (by rw[hby];exact growslice_fits (by omega) (by omega)))]
   rfl
theorem N2 (hr:HR w C own m H)(hN:C.N<=w.heap.size){o:Oper}{id ver:Nat}{nw:Bool}{e:Nat}{els:List D}{s:bA}{t u:TypeId}{ti:TypeInfo}(x y:Operand)
  (ht:P.underlying t=some (.slice e)) (hu:P.underlying u=some .string) (hi:P.info? e=some ti) (hsz:ti.size=1) (hby:ti.bytes=1) (hz:ti.zero=some (.int .u8 0))
  (ho:o.op = .call { callee := .builtin .append,args := #[x,y],argTypes := #[t,u] })
  {v:Value} {xs:List Value} (hx:a.eval x=v) (hy:a.eval y = .string s) (hown:w.ownsRow 0 e 1 v els.length xs)
  (hxs:∀(i:Nat) (x:D),els[i]?=some x->x.cells.length=1) (hxd:∀(i:Nat) (x:D) (j:Nat) (y:D) u,els[i]?=some x->x.cells[j]?=some y->xs[i*1+j]?=some u->DR w (C.ok (owned H m) nw) y u)
  (hxb:nw=true->∀b,v.ownBlock=some b->C.N<=b)
  (hcase:(H.get id=none/\v = .slice none 0 0/\ver=0)\/∃v0 o0,ver=v0+1/\H.get id=some o0/\o0.frozen=false/\o0.ver=v0/\(∃l,m id v0=some l/\l.val=v/\∀b,lies m id o0 b ↔ l.block=some b)/\m id ver=none)
  (hlim:els.length+s.size<=140737488355328):
  Does P a o w C own m H (.row id ver) (H.ins id (.row false nw ver e 1 (els++bytesD s))):=by
 have hl:(bytesD s).length=s.size:=by simp[bytesD]
 obtain⟨v',w',h1,h2,h3,h4⟩:=Fj (P:=P) 0 t u o.type e ti ht hu hi hz hsz hby v _ xs hown s hlim (Nat.zero_le _)
 have hrun:(execOp a.eval o).run P w = .ok (.value v') w':=by simp[execOp,ho,resolve,invoke,builtin,hx,hy,h1]
 have:=I4 (P:=P) (a:=a) (o:=o) (b:=true) (ys:=bytesD s) hr hN hown hxs hxd hxb hcase ⟨v',w',Lib.strCells s,hrun,by rw[hl];exact h2,h3,h4,λi x hi=>by
  simp only[bytesD,List.getElem?_map,Option.map_eq_some_iff]at hi;obtain⟨b,_,rfl⟩:=hi;rfl,λi x j y u hi hj hu=>by
  simp only[bytesD,List.getElem?_map,Option.map_eq_some_iff]at hi;obtain⟨b,hb,rfl⟩:=hi
  cases j with
  | succ j=>simp[D.cells]at hj
  | zero=> simp only[D.cells,List.getElem?_cons_zero,oI]at hj;subst hj;simp only[Nat.mul_one,Nat.add_zero,Lib.strCells,List.getElem?_map,hb,Option.map_some,oI]at hu;subst hu;exact .int _ _⟩
 simpa using this
theorem Vs {w:World}{nw:Bool}{ow ow':Nat->Prop}(L:Less C w ow ow'){y:D}{u:Value}(h:DR w (C.ok ow nw) y u):DR w (C.ok ow' nw) y u:=h.mono (Nat.le_refl _) λb h1 h2=>⟨L.ok nw b h1 h2,rfl⟩
theorem Lies.less {nw:Bool}{ow ow':Nat->Prop}{sz:Nat}{els:List D}{v:Value}(L:Less C w ow ow')(h:Lies w (C.ok ow nw) sz els v):Lies w (C.ok ow' nw) sz els v:=by
 rcases h with h|⟨b,off,c,vs,h1,h2,h3,h4,h5,h6⟩
 ·exact .inl h
 ·exact .inr ⟨b,off,c,vs,h1,h2,h3,h4,h5,λi x j y hx hy=>Vs L (h6 i x j y hx hy)⟩
theorem Lies.empty {okd:Nat->Prop}{sz sz':Nat}{v:Value}(h:Lies w okd sz [] v):Lies w okd sz' [] v:=by
 rcases h with h|⟨b,off,c,vs,h1,h2,h3,h4,h5,h6⟩
 ·exact .inl h
 ·exact .inr ⟨b,off,c,vs,h1,h2,h3,λi x h=>by simp at h,λi x j y h=>by simp at h,λi x j y h=>by simp at h⟩
theorem zC {call:Al}(hr:HR w C own m H)(hN:C.N<=w.heap.size)(hal:∀b,own b->C.al b)(hv:∀t,VR w C (owned H m) m (σ.get t) (a.tmps.getD t undef)){o:Oper}{id:Nat}{e:TypeId}{t:TypeId}{ti:TypeInfo}{z:List AV}{x y:Operand}{v:AV}{H':Heap}
   (ht:P.underlying t=some (.slice e)) (hi:P.info? e=some ti) (hz:Cf P e=some z) (hzl:z.length=ti.size) (h0:0<ti.size) (hb0:0<ti.bytes)
   (ho:o.op = .call { callee := .builtin .append,args := #[x,y],argTypes := #[t,t] })
   (h:Ac call σ H (.app id e ti.size ti.bytes x y)=some (v,H')):Does P a o w C own m H v H':=by
 simp only[Ac]at h
 split at h<;>try (simp at h;done)
 rename_i xv yv hx hy
 split at h<;>try (simp at h;done)
 rename_i b ys hys
 have hyl:Lies w (C.ok (owned H m) b) ti.size ys (a.eval y):=by
   split at hys<;>try (simp at hys;done)
   rename_i b' s' ys' hel
   split at hys<;>simp only[oI,reduceCtorEq,pI]at hys
   rename_i hc
   obtain⟨rfl,rfl⟩:=hys
   have:=SM hr (AK hv hy) hel
   simp only[Bool.or_eq_true,decide_eq_true_eq,List.isEmpty_iff]at hc
   rcases hc with rfl|rfl
   · exact this
   · exact this.empty
 have hyl':=hyl.less (GK (Ak yv))
 split at h<;>try (simp at h;done)
 · -- nothing there yet
   split at h<;>try (simp at h;done)
   rename_i hid
   split at h<;>simp only[oI,reduceCtorEq,pI]at h
   rename_i hlim
   obtain⟨rfl,rfl⟩:=h
   refine Does.frozen (ids:=Ak yv) ?_
   have hr':=BW (Ak yv) hr
   have hid':(H.freeze (Ak yv)).get id=none:=by rw[Heap.get_freeze];simp only[Option.not_isSome_iff_eq_none]at hid;rw[hid]
   have hxe:a.eval x = .slice none 0 0:=by
     have:=AK hv hx
     generalize a.eval x=u at this
     cases this with
     | n _ _ h=>cases h;rfl
   have:=Ql hr' hN (id:=id) (ver:=0) (nw:=true) (b:=b) (els:=[]) (ys:=ys) x y ht hi rfl rfl hz hzl h0 hb0 ho hxe (World.ownsRow_nil w 0 e ti.size) (λi x h=>by simp at h) (λi x j y u h=>by simp at h) (λ_ b hb=>by simp[Value.ownBlock]at hb) (.inl ⟨hid',rfl,rfl⟩) hyl' (by simpa using hlim)
   simpa using this
 · -- a row of one's own
   rename_i i ver
   split at h<;>try (simp at h;done)
   rename_i nw v' e' s els hg
   split at h<;>simp only[oI,reduceCtorEq,pI]at h
   rename_i hc
   obtain⟨rfl,rfl⟩:=h
   simp only[Bool.and_eq_true,decide_eq_true_eq]at hc
   obtain⟨⟨⟨rfl,rfl⟩,rfl⟩,hlim⟩:=hc
   refine Does.frozen (ids:=Ak yv) ?_
   have hr':=BW (Ak yv) hr
   have hver':m i (v'+1)=none:=hr'.top i _ _ hg (Nat.lt_succ_self _)
   have hxv:=AK hv hx
   obtain⟨l,hml,hrow,hxe⟩:=hxv.row_inv
   obtain⟨l1,xs,hm1,_,hown,hsz,hd,hnb⟩:=hr'.objs _ _ hg
   rw[hml]at hm1
   simp only[oI]at hm1
   subst hm1
   exact Ql hr' hN (id:=i) (ver:=v'+1) (nw:=nw) (b:=b) (els:=els) (ys:=ys) x y ht hi rfl rfl hz hzl h0 hb0 ho hxe hown hsz hd (λhnw b hb=>hnb hnw b (by rwa [Loc.own_block hrow]at hb))
     (.inr ⟨v',_,rfl,hg,rfl,rfl,⟨l,hml,rfl,λb=>⟨λ⟨l1,h1,h2⟩=>(by rw[hml]at h1;simp only[oI]at h1;subst h1;exact h2),λh=>⟨l,hml,h⟩⟩⟩,hver'⟩) hyl' hlim
theorem lG {call:Al}(hr:HR w C own m H)(hN:C.N<=w.heap.size)(hv:∀t,VR w C (owned H m) m (σ.get t) (a.tmps.getD t undef)){o:Oper}{id:Nat}{e:TypeId}{t u:TypeId}{ti:TypeInfo}{x y:Operand}{v:AV}{H':Heap}
   (ht:P.underlying t=some (.slice e)) (hu:P.underlying u=some .string) (hi:P.info? e=some ti) (h1:ti.size=1) (hb1:ti.bytes=1) (hz:ti.zero=some (.int .u8 0))
   (ho:o.op = .call { callee := .builtin .append,args := #[x,y],argTypes := #[t,u] })
   (h:Ac call σ H (.apps id e x y)=some (v,H')):Does P a o w C own m H v H':=by
 simp only[Ac]at h
 split at h<;>try (simp at h;done)
 rename_i xv s hx hy
 have hys:=(AK hv hy).str
 split at h<;>try (simp at h;done)
 ·split at h<;>try (simp at h;done)
  rename_i hid
  split at h<;>simp only[oI,reduceCtorEq,pI]at h
  rename_i hlim
  obtain⟨rfl,rfl⟩:=h
  have hid':H.get id=none:=by simpa using hid
  have hxe:a.eval x = .slice none 0 0:=by
   have:=AK hv hx;generalize a.eval x=u at this
   cases this with
   | n _ _ h=>cases h;rfl
  have:=N2 hr hN (id:=id) (ver:=0) (nw:=true) (els:=[]) (s:=s) x y ht hu hi h1 hb1 hz ho hxe hys (World.ownsRow_nil w 0 e 1) (λi x h=>by simp at h) (λi x j y u h=>by simp at h) (λ_ b hb=>by simp[Value.ownBlock]at hb) (.inl ⟨hid',rfl,rfl⟩) (by simpa using hlim)
  simpa using this
 ·rename_i i ver
  split at h<;>try (simp at h;done)
  rename_i nw v' e' z els hg
  split at h<;>simp only[oI,reduceCtorEq,pI]at h
  rename_i hc
  obtain⟨rfl,rfl⟩:=h
  simp only[Bool.and_eq_true,decide_eq_true_eq]at hc
  obtain⟨⟨⟨rfl,rfl⟩,rfl⟩,hlim⟩:=hc
  have hver':m i (v'+1)=none:=hr.top i _ _ hg (Nat.lt_succ_self _)
  have hxv:=AK hv hx
  obtain⟨l,hml,hrow,hxe⟩:=hxv.row_inv
  obtain⟨l1,xs,hm1,_,hown,hsz,hd,hnb⟩:=hr.objs _ _ hg
  rw[hml]at hm1
  simp only[oI]at hm1
  subst hm1
  exact N2 hr hN (id:=i) (ver:=v'+1) (nw:=nw) (els:=els) (s:=s) x y ht hu hi h1 hb1 hz ho hxe hys hown hsz hd (λhnw b hb=>hnb hnw b (by rwa [Loc.own_block hrow]at hb))
    (.inr ⟨v',_,rfl,hg,rfl,rfl,⟨l,hml,rfl,λb=>⟨λ⟨l1,h1,h2⟩=>(by rw[hml]at h1;simp only[oI]at h1;subst h1;exact h2),λh=>⟨l,hml,h⟩⟩⟩,hver'⟩) hlim
theorem Jt:∀ {vs:List Value} {cs:List AV} {b:Bool} {ds:List D},J4 vs=some cs->G7 cs=some (b,ds)->b=true
 | [],cs,b,ds,h,hd=>by simp only[J4,oI]at h;subst h;simp only[G7,oI,pI]at hd;exact hd.1.symm
 | v::r,cs,b,ds,h,hd=>by
  simp only[J4]at h;split at h<;>simp only[oI,reduceCtorEq]at h;rename_i x s hx hs;subst h;simp only[G7]at hd;split at hd<;>simp only[oI,reduceCtorEq,pI]at hd;rename_i b1 y1 b2 s2 h1 h2;obtain⟨rfl,_⟩:=hd;have e2:=Jt hs h2;have e1:b1=true:=by unfold Y1 at hx;split at hx<;>simp only[oI,reduceCtorEq]at hx<;>subst hx<;>simp_all[AV.data]
  simp[e1,e2]
theorem AFy {call:Al}(hr:HR w C own m H)(hN:C.N<=w.heap.size)(hv:∀t,VR w C (owned H m) m (σ.get t) (a.tmps.getD t undef)){o:Oper}{id:Nat}{t e:TypeId}{ti:TypeInfo}{z:D}{x y:Operand}{v:AV}{H':Heap}
   (ht:P.underlying t=some (.slice e)) (hi:P.info? e=some ti) (hz:Wl P e=some z) (hsame:OE x y=true) (h0:0<ti.size) (hzl:z.cells.length=ti.size) (hb0:0<ti.bytes)
   (ho:o.op = .makeSlice t x y) (h:Ac call σ H (.mk id e z ti.bytes x)=some (v,H')):Does P a o w C own m H v H':=by
 simp only[Ac]at h
 split at h<;>try (simp at h;done)
 rename_i hid
 split at h<;>try (simp at h;done)
 rename_i k n hx
 split at h<;>simp only[oI,reduceCtorEq,pI]at h
 rename_i hc
 obtain⟨rfl,rfl⟩:=h
 have hex:=(AK hv hx).int
 have hey:a.eval y = .int k n:=by
   unfold OE at hsame
   split at hsame
   · simp only[beq_iff_eq]at hsame;subst hsame;exact hex
   · simp only[Bool.and_eq_true,beq_iff_eq]at hsame;obtain⟨rfl,rfl⟩:=hsame;exact hex
   · cases hsame
 -- the zero value's cells
 have hzz:∃zv,ti.zero=some zv/\zv.cells.size=ti.size/\∀(j:Nat) y,z.cells[j]?=some y->∃u,zv.cells[j]?=some u/\DR w (C.ok (owned H m) true) y u:=by
   unfold Wl at hz
   split at hz<;>try (simp at hz;done)
   · rename_i cs _ hcs _
     split at hz<;>simp only[oI,reduceCtorEq]at hz
     rename_i b ds hds
     subst hz
     unfold Cf at hcs
     rw[hi]at hcs
     simp only at hcs
     split at hcs<;>try (simp at hcs;done)
     rename_i zv hzv
     obtain⟨h1,h2⟩:=D5 (w:=w) (C:=C) (ow:=owned H m) (m:=m) hcs
     obtain⟨h3,h4⟩:=K5 h1 hds (List.all_eq_true.2 h2)
     have hb:b=true:=Jt hcs hds
     subst hb
     simp only[D.cells]at hzl |-
     have e1:zv.cells.size=cs.length:=by rw[h1.1];simp
     refine⟨zv,hzv,by omega,λj y hy=>?_⟩
     have hj:j<zv.cells.size:=by rw[e1,<-h3];exact(List.getElem?_eq_some_iff.1 hy).1
     exact⟨zv.cells[j],Array.getElem?_eq_getElem hj,h4 j y _ hy (by simp[hj])⟩
   · rename_i xv hcs _
     split at hz<;>simp only[oI,reduceCtorEq]at hz
     rename_i b d hd
     subst hz
     unfold Cf at hcs
     rw[hi]at hcs
     simp only at hcs
     split at hcs<;>try (simp at hcs;done)
     rename_i zv hzv
     obtain⟨h1,h2⟩:=D5 (w:=w) (C:=C) (ow:=owned H m) (m:=m) hcs
     have hds:G7 [xv]=some (b&&true,[d]):=by simp[G7,hd]
     obtain⟨h3,h4⟩:=K5 h1 hds (List.all_eq_true.2 h2)
     have hb:(b&&true)=true:=Jt hcs hds
     rw[hb]at h4
     have hdc:d.cells=[d]:=by
      cases d with
      | rcd fs=>
        exfalso
        have:=h2 xv (by simp)
        unfold AV.data at hd
        split at hd<;>simp only[oI,reduceCtorEq,pI]at hd<;>obtain⟨_,rfl⟩:=hd<;>simp[AV.cellOK]at this
      | _=>rfl
     rw[hdc]at hzl |-
     have e1:zv.cells.size=1:=by have:=h1.1;simpa using this.symm
     refine⟨zv,hzv,by rw[e1];exact hzl,λj y hy=>?_⟩
     have hj:j<zv.cells.size:=by rw[e1];exact(List.getElem?_eq_some_iff.1 hy).1
     exact⟨zv.cells[j],Array.getElem?_eq_getElem hj,h4 j y _ hy (by simp[hj])⟩
 obtain⟨zv,hzv,hzs,hzd⟩:=hzz
 have hb':(ti.bytes:Int)*n<=281474976710656:=by
   have e1:((n.toNat*ti.bytes:Nat):Int)=(ti.bytes:Int)*n:=by rw[Int.natCast_mul,Int.toNat_of_nonneg hc.1,Int.mul_comm]
   omega
 have h63:n<=9223372036854775807:=by
   have:n.toNat<=n.toNat*ti.bytes:=Nat.le_mul_of_pos_right _ hb0
   omega
 have hrun:=run_make (P:=P) w t e ti zv ht hi hzv k k n n hc.1 (Int.le_refl _) hb' h63
 refine Rp hr hN (by simpa using hid) (nw:=true) (els:=List.replicate n.toNat z) (xs:=(madeCells zv.cells (n.toNat*ti.size)).toList) (cap:=n.toNat) (cur:=madeCells zv.cells (n.toNat*ti.size)) (by simp) (by simp only[maxLen];omega) (by rw[hzl,size_madeCells]) ?_ (λi x hx=>?_) (λi x j y u hx hy hu=>?_) ?_
 · rw[List.length_replicate,hzl]
   exact List.take_of_length_le (by simp[size_madeCells])
 · rw[List.getElem?_replicate]at hx
   split at hx<;>simp only[oI,reduceCtorEq]at hx
   subst hx;rfl
 · rw[List.getElem?_replicate]at hx
   split at hx<;>simp only[oI,reduceCtorEq]at hx
   rename_i hin
   subst hx
   obtain⟨u',h1,h2⟩:=hzd j y hy
   have hj:j<ti.size:=by rw[<-hzl];exact(List.getElem?_eq_some_iff.1 hy).1
   rw[hzl]at hu
   have:u=u':=by
     rw[Array.getElem?_toList,madeCells,Array.getElem?_map]at hu
     have hp:i*ti.size+j<n.toNat*ti.size:=by
      have:(i+1)*ti.size<=n.toNat*ti.size:=Nat.mul_le_mul_right _ hin
      rw[Nat.add_mul]at this
      omega
     rw[Array.getElem?_range,if_pos hp]at hu
     simp only[Option.map_some,oI]at hu
     rw[hzs,Nat.add_comm,Nat.add_mul_mod_self_right,Nat.mod_eq_of_lt hj]at hu
     rw[<-hu]
     have hj':j<zv.cells.size:=by omega
     rw[getElem!_pos zv.cells j hj']
     rw[Array.getElem?_eq_getElem hj']at h1
     simpa using h1
   subst this
   exact h2
 · simp only[execOp,ho,hex,hey]
   rw[Sem.run_bind,hrun]
   simp
theorem Py (hr:HR w C own m H){w':World}(hs:w.heap.size<=w'.heap.size)(hb:∀b,b<w.heap.size->w'.heap[b]?=w.heap[b]?):Step C w (owned H m) m w' (owned H m) m/\HR w' C own m H:=by
 have S:Step C w (owned H m) m w' (owned H m) m:=⟨hs,λb h h1=>⟨h,hb b h1⟩,λb h h1=>⟨h,hb b h1⟩,λ_ _ _ h=>h,λ_ v l _ h hb _=>⟨v,l,h,hb⟩⟩
 exact⟨S,λi o hg=>(hr.objs i o hg).step S λb hl=>hb b (Ej hr hl).1,hr.inj',hr.base,hr.dom,hr.top,λi v l b h1 h2=>⟨Nat.lt_of_lt_of_le (hr.lt i v l b h1 h2).1 hs,(hr.lt i v l b h1 h2).2⟩⟩
theorem xL {call:Al}(hr:HR w C own m H)(hN:C.N<=w.heap.size)(hv:∀t,VR w C (owned H m) m (σ.get t) (a.tmps.getD t undef)){o:Oper}{s d e:TypeId}{x:Operand}{v:AV}{H':Heap}
   (hs:P.underlying s=some .string) (hd:P.underlying d=some (.slice e)) (he:P.underlying e=some (.int .u8)) (ho:o.op = .convert s d x) (h:Ac call σ H (.s2b x)=some (v,H')):Does P a o w C own m H v H':=by
 simp only[Ac]at h
 split at h<;>simp only[oI,reduceCtorEq,pI]at h
 obtain⟨rfl,rfl⟩:=h
 rename_i str hx
 have h1:=(AK hv hx).str
 have hrun:=Go.Lib.run_convert_string_bytes (P:=P) w s d e str hs hd he
 have hsz:w.heap.size<(bytesWorld w e str).heap.size:=by have:=bytesWorld_at_new w e str;exact(Array.getElem?_eq_some_iff.1 this).1
 obtain⟨S,hr'⟩:=Py (w':=bytesWorld w e str) hr (by omega) (λb hb=>bytesWorld_at_old w e str b hb)
 refine⟨_,_,m,.inl (by simp only[execOp,ho,h1];rw[Sem.run_bind,hrun];rfl),S,hr',?_,?_⟩
 ·refine .n _ _ ?_
  have hl:(bytesD str).length=str.size:=by rw[bytesD,List.length_map,Array.length_toList];rfl
  have hnew:=bytesWorld_at_new w e str
  have hcell:∀j,(bytesWorld w e str).cell? ⟨w.heap.size,j,none⟩=(bytesCells w e str)[j]?:=λj=>by simp[World.cell?,hnew]
  rw[<-hl]
  refine .sl 1 (bytesD str) w.heap.size 0 _ (λi _ => .int .u8 ((str.data.toList.getD i 0).toNat:Int)) ⟨hN,λh=>?_⟩ hsz ?_ ?_ ?_ ?_
  ·have:=Ej hr h.choose_spec.choose_spec.2.2
   omega
  ·rw[hl];exact grownCap_ge w str.size 0 e
  ·intro i x hx
   simp only[bytesD,List.getElem?_map,Option.map_eq_some_iff]at hx
   obtain⟨b,_,rfl⟩:=hx
   rfl
  ·intro i x j y hx hy
   simp only[bytesD,List.getElem?_map,Option.map_eq_some_iff]at hx
   obtain⟨b,hb,rfl⟩:=hx
   cases j with
   | succ j=>simp[D.cells]at hy
   | zero=>
    have hi:i<str.size:=by have:=(List.getElem?_eq_some_iff.1 hb).1;rw[Array.length_toList]at this;exact this
    have:=bytesWorld_cell w e str i hi
    simp only[Nat.mul_one,Nat.add_zero,Nat.zero_add]
    exact this
  ·intro i x j y hx hy
   simp only[bytesD,List.getElem?_map,Option.map_eq_some_iff]at hx
   obtain⟨b,hb,rfl⟩:=hx
   cases j with
   | succ j=>simp[D.cells]at hy
   | zero=>
    simp only[D.cells,List.getElem?_cons_zero,oI]at hy
    subst hy
    simp only[List.getD,hb,Option.getD_some]
    exact .int _ _
 ·exact⟨rfl,rfl,rfl,by omega,λb hb _=>bytesWorld_at_old w e str b (by omega)⟩
theorem bJ {t e:TypeId}{ti:TypeInfo}(ht:P.underlying t=some (.slice e))(hi:P.info? e=some ti){ok:Nat->Prop}{els:List D}{v:Value}(hd:DR w ok (.sl ti.size els) v){lo hi' mx:Option Operand}{l h mm:Nat}
   (h1:Bnd a mx els.length els.length mm) (h2:(hi'=none/\h=els.length/\mx=none)\/∃y k,∃i:Int,hi'=some y/\a.eval y = .int k i/\0<=i/\i<=mm/\h=i.toNat) (h3:Bnd a lo 0 h l):
   ∃v',(Instr.sliceAt t v (lo.map a.eval) (hi'.map a.eval) (mx.map a.eval)).run P w = .ok v' w/\DR w ok (.sl ti.size ((els.take h).drop l)) v':=by
 have hlh:l<=h:=by rcases h3 with⟨_,rfl⟩|⟨_,_,i,_,_,h0,h1,rfl⟩<;>omega
 have hmm:mm<=els.length:=by rcases h1 with⟨_,rfl⟩|⟨_,_,i,_,_,h0,h1,rfl⟩<;>omega
 have hhm:h<=els.length:=by rcases h2 with⟨_,rfl,_⟩|⟨_,_,i,_,_,h0,h1,rfl⟩<;>omega
 have key:∀p c,v = .slice p els.length c->els.length<=c->∃mm',(Instr.sliceAt t v (lo.map a.eval) (hi'.map a.eval) (mx.map a.eval)).run P w = .ok (.slice (if mm'=l then p else p.map (·.add (l*ti.size))) (h-l) (mm' - l)) w/\h<=mm'/\mm'<=c:=by
  intro p c hv hc;have hb1:∃mm',Bnd a mx c c mm'/\((hi'=none/\h=els.length/\mx=none)\/∃y k,∃i:Int,hi'=some y/\a.eval y = .int k i/\0<=i/\i<=mm'/\h=i.toNat)/\h<=mm'/\mm'<=c:=by
   rcases h1 with⟨rfl,rfl⟩|⟨y,k,i,rfl,e1,e2,e3,rfl⟩
   ·refine⟨c,.inl ⟨rfl,rfl⟩,?_,by omega,Nat.le_refl _⟩;rcases h2 with h2|⟨y,k,i,f1,f2,f3,f4,f5⟩
    ·exact .inl h2
    ·exact .inr ⟨y,k,i,f1,f2,f3,by omega,f5⟩
   ·refine⟨i.toNat,.inr ⟨y,k,i,rfl,e1,e2,by omega,rfl⟩,h2,?_,by omega⟩;rcases h2 with⟨_,_,h⟩|⟨y,k,i,f1,f2,f3,f4,f5⟩
    ·cases h
    ·omega
  obtain⟨mm',g1,g2,g3,g4⟩:=hb1;have:=Io (P:=P) (w:=w) true els.length c l h mm' lo hi' mx g1 g2 h3;refine⟨mm',?_,g3,g4⟩;subst hv;simp[Instr.sliceAt,run_underlying ht,Instr.slice,this,sizeOf,typeInfo,hi]
 cases hd with
 | sl0=>
  obtain⟨mm',hrun,h5,h6⟩:=key none 0 rfl (Nat.le_refl _)
  have e1:h=0:=by simpa using hhm
  have e2:l=0:=by omega
  have e3:mm'=0:=by omega
  subst e1 e2 e3
  exact⟨_,hrun,by simpa using .sl0 _⟩
 | sle _ q c=>
  obtain⟨mm',hrun,h5,h6⟩:=key (some q) c rfl (Nat.zero_le _)
  have e1:h=0:=by simpa using hhm
  have e2:l=0:=by omega
  subst e1 e2
  refine⟨_,hrun,?_⟩
  simp only[List.take_nil,List.drop_nil,Nat.sub_self]
  split
  ·exact .sle _ _ _
  ·exact .sle _ _ _
 | sl _ _ b off c vs hb hs hc hsz hv hdd=>
  obtain⟨mm',hrun,h5,h6⟩:=key _ c rfl hc
  refine⟨_,hrun,?_⟩
  have hlen:((els.take h).drop l).length=h-l:=by simp;omega
  have hget:∀(i:Nat) x,((els.take h).drop l)[i]?=some x->els[l+i]?=some x:=λi x hx=>by
   rw[List.getElem?_drop,List.getElem?_take]at hx;split at hx;·exact hx
   ·simp at hx
  rw[<-hlen]
  by_cases e1:mm'=l
  ·rw[if_pos e1]
   have e0:(els.take h).drop l=[]:=List.eq_nil_of_length_eq_zero (by omega)
   rw[e0]
   exact .sl _ [] b off _ vs hb hs (by simp) (λi x h=>by simp at h) (λi x j y h=>by simp at h) (λi x j y h=>by simp at h)
  ·rw[if_neg e1]
   simp only[Option.map_some,CB]
   refine .sl _ _ b (off+l*ti.size) _ (λi j=>vs (l+i) j) hb hs (by omega) (λi x hx=>hsz _ x (hget i x hx)) (λi x j y hx hy=>?_) (λi x j y hx hy=>hdd _ x j y (hget i x hx) hy)
   have:=hv _ x j y (hget i x hx) hy
   rw[<-this]
   congr 2
   rw[Nat.add_mul];omega
theorem XL {x:AV}{nw:Bool}{sz:Nat}{els:List D}(h:BC H x=some (nw,sz,els))(hn:x≠.n .nil):AN H x=some (sub nw (.sl sz els)):=by
 unfold BC at h;split at h<;>try (simp at h;done)
 ·exact absurd rfl hn
 ·simp only[oI,pI]at h;obtain⟨rfl,rfl,rfl⟩:=h;rfl
 ·simp only[oI,pI]at h;obtain⟨rfl,rfl,rfl⟩:=h;rfl
 ·rename_i id ver;split at h<;>try (simp at h;done)
  split at h<;>simp only[oI,reduceCtorEq,pI]at h;rename_i hg hver;obtain⟨rfl,rfl,rfl⟩:=h;subst hver;simp only[AN,hg,if_true]
theorem VR.sub_inv {nw:Bool}{sz:Nat}{els:List D}{v:Value}{ow:Nat->Prop}(h:VR w C ow m (Mir.sub nw (.sl sz els)) v):DR w (C.ok ow nw) (.sl sz els) v:=by
 cases nw with
 | true=>cases h with | n _ _ h=>exact h
 | false=>cases h with | o _ _ h=>exact h
theorem ABb {call:Al}(hr:HR w C own m H)(hal:∀b,own b->C.al b)(hv:∀t,VR w C (owned H m) m (σ.get t) (a.tmps.getD t undef)){o:Oper}{t e:TypeId}{ti:TypeInfo}{x:Operand}{lo hi' mx:Option Operand}{v:AV}{H':Heap}
   (ht:P.underlying t=some (.slice e)) (hi:P.info? e=some ti) (hmh:(mx.isSome&&hi'.isNone)=false) (ho:o.op = .slice t x lo hi' mx) (h:Ac call σ H (.cut x lo hi' mx ti.size)=some (v,H')):Does P a o w C own m H v H':=by
 simp only[Ac]at h
 split at h
 ·rename_i hx
  split at h<;>try (simp at h;done)
  rename_i mm hmm
  split at h<;>try (simp at h;done)
  rename_i hh hhh
  split at h<;>simp only[oI,reduceCtorEq,pI]at h
  rename_i l hl
  obtain⟨rfl,rfl⟩:=h
  refine Does.quiet hr ⟨rfl,.slice none 0 0,?_,.n _ _ .nil⟩
  have hxe:a.eval x = .slice none 0 0:=by
   have:=AK hv hx;generalize a.eval x=u at this
   cases this with
   | n _ _ h=>cases h;rfl
  have b1:=D0 hv hmm
  have b2:=D0 hv hhh
  have b3:=D0 hv hl
  have e1:mm=0:=by rcases b1 with⟨_,rfl⟩|⟨_,_,i,_,_,_,_,rfl⟩<;>omega
  subst e1
  have e2:hh=0:=by rcases b2 with⟨_,rfl⟩|⟨_,_,i,_,_,_,_,rfl⟩<;>omega
  subst e2
  have e3:l=0:=by rcases b3 with⟨_,rfl⟩|⟨_,_,i,_,_,_,_,rfl⟩<;>omega
  subst e3
  have hrun:=Io (P:=P) (w:=w) true 0 0 0 0 0 lo hi' mx b1 (b2.elim (λh1 => .inl ⟨h1.1,h1.2,by
   cases mx with
   | none=>rfl
   | some _=>rw[h1.1]at hmh;simp at hmh⟩) .inr) b3
  simp[AA,execOp,ho,hxe,Instr.sliceAt,run_underlying ht,Instr.slice,hrun,sizeOf,typeInfo,hi]
 ·rename_i xv hn hx
  split at h<;>try (simp at h;done)
  rename_i nw s els hel
  split at h<;>try (simp at h;done)
  rename_i hs
  subst hs
  split at h<;>try (simp at h;done)
  rename_i mm hmm
  split at h<;>try (simp at h;done)
  rename_i hh hhh
  split at h<;>simp only[oI,reduceCtorEq,pI]at h
  rename_i l hl
  obtain⟨rfl,rfl⟩:=h
  have hsn:=XL hel (by rintro rfl;exact hn rfl)
  have hd:=(C7 hr hal (AK hv hx) hsn).sub_inv
  have hr':=BW (Ak xv) hr
  refine Does.frozen (ids:=Ak xv) ?_
  have b1:=D0 hv hmm
  have b3:=D0 hv hl
  have b2:(hi'=none/\hh=els.length/\mx=none)\/∃y k,∃i:Int,hi'=some y/\a.eval y = .int k i/\0<=i/\i<=mm/\hh=i.toNat:=by
   cases hi' with
   | none=>
    simp only[oI]at hhh;refine .inl ⟨rfl,hhh.symm,?_⟩
    cases mx with
    | none=>rfl
    | some _=>simp at hmh
   | some y=>
    rcases D0 hv hhh with⟨h1,_⟩|h1;·cases h1
    ·exact .inr h1
  obtain⟨v',hrun,hd'⟩:=bJ (P:=P) (w:=w) (a:=a) (lo:=lo) (hi':=hi') (mx:=mx) ht hi hd b1 b2 b3
  refine Does.quiet hr' ⟨rfl,v',?_,VR.sub hd'⟩
  simp only[AA,execOp,ho]
  rw[Sem.run_bind,hrun];rfl
 ·simp at h
end
end Go.Mir
