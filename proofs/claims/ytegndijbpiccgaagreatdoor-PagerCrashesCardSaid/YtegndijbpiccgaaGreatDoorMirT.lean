import Derived.Test.YtegndijbpiccgaaGreatDoorMirS
import Derived.Shelf.SlicesE.Clone
namespace Go.Mir
set_option linter.unusedVariables false
set_option linter.unusedSimpArgs false
open Go.RowKit Go.Proofs Go.Shelf Go.Lib
section
variable {P:Program} {ρ:Ren}
set_option maxHeartbeats 2000000 in
set_option maxRecDepth 100000 in
theorem QN (L:SlLaysE0.n41 P ρ)(i0:TypeInfo)(z:Value)(size bytes:Nat)(hi:P.info? (ρ.t 23)=some i0)(hz0:i0.zero=some z)(hz1:i0.size=size)(hz2:i0.bytes=bytes)(hzs:z.cells.size=size)(hsz:0<size)
  (z23:∀w,(Go.sizeOf (ρ.t 23)).run P w = .ok size w) (q:Addr) (c:Nat) (w:World):
  Calls P (ρ.f 41) #[.slice (some q) 0 c] w λe w'=>∃v',e = .returned v'/\w'.ownsRow w.heap.size (ρ.t 23) size v' 0 []/\Below w.heap.size w w':=by
 have mixed:=L.mixed;have t4:=L.t4;have a4:=L.a4;have z4:=L.z4;have v4:=L.v4;have t22:=L.t22;have a22:=L.a22;have z22:=L.z22;have v22:=L.v22
 have q22:∀(w:World) (a:Option Addr) (n c n' c':Nat),(binOp .eql (ρ.t 22) (.slice a n c) (.slice none n' c')).run P w = .ok (.bool a.isNone) w:=λw a n c n' c'=>Lib.run_eql_slice_nil w _ _ a n c n' c' L.t22
 have u22:∀w,Sem.run P (underlying (ρ.t 22)) w = .ok (TypeDesc.slice (ρ.t 23)) w:=run_underlying t22
 obtain⟨_,_,FG⟩:=L.f41
 go_enter FG,SlBodyN.n41_ntmps ρ
 go_wp2_with (at_builtin;refine wpList_append_own _ rfl _ _ (ρ.t 22) rfl w.heap.size (ρ.t 23) i0 z size bytes t22 hi hz0 hz1 hz2 hzs hsz _ _ _ rfl (World.ownsRow_made w #[] 0 (Nat.le_refl _) (Nat.zero_le _) (by simp)) q 0 c [] rfl ?qc1 ?qc2 ?qc3 ?qc4 ?qc5 ?qc6 ?_)
 case qc1=>simp
 case qc2=>intro j u hj;simp at hj
 case qc3=>intro u hu;cases hu
 case qc4=>exact Nat.zero_le _
 case qc5=>simp
 case qc6=>simp
 intro v' w1 hown hgrow hnil
 go_wp2
 go_ret
 exact⟨v',rfl,by simpa using hown,((Below.refl _ w).alloc (Nat.le_refl _) _).grown hgrow (by simp) (by intro k hk;simp[Value.ownBlock]at hk;omega)⟩
end
def DD (id e sz bytes:Nat):List AV->Heap->Option (AV×Heap)
 | [.o (.sl s els)],H=>if s=sz/\(H.get id).isNone=true/\els.length*bytes<=140737488355328 then some (.row id 0,H.ins id (.row false false 0 e sz els)) else none
 | [.n .nil],H=>if (H.get id).isNone=true then some (.row id 0,H.ins id (.row false false 0 e sz [])) else none
 | _,_=>none
theorem PE {w:World}{b e sz n:Nat}{v:Value}{xs:List Value}(h:w.ownsRow b e sz v n xs):w.ownsRow 0 e sz v n xs/\∀k,v.ownBlock=some k->b<=k:=by
 refine⟨⟨h.1,?_⟩,?_⟩
 ·rcases h.2 with h|⟨g,cap,cur,h1,_,h3⟩
  ·exact .inl h
  ·exact .inr ⟨g,cap,cur,h1,Nat.zero_le _,h3⟩
 ·intro k hk;rcases h.2 with⟨rfl,_⟩|⟨g,cap,cur,rfl,h2,_⟩
  ·simp[Value.ownBlock]at hk
  ·simp only[Value.ownBlock,oI]at hk;omega
theorem QO {w w':World}(h:Below w.heap.size w w'):w.grownBy w' none:=⟨h.os,h.tape,h.output,h.size,λk hk _=>h.block k hk⟩
theorem Yl {P:Program}{ρ:Ren}(L:SlLaysE0.n41 P ρ){id e sz bytes:Nat}{i0:TypeInfo}{z:Value}(he:ρ.t 23=e)(hi:P.info? e=some i0)(hz0:i0.zero=some z)(hz1:i0.size=sz)(hz2:i0.bytes=bytes)(hzs:z.cells.size=sz)(hsz:0<sz)(hby:0<bytes):
   D2 P (ρ.f 41) (.prim (some (id,e,sz,false)) (DD id e sz bytes)):=by
 subst he
 have z23:∀w,(Go.sizeOf (ρ.t 23)).run P w = .ok sz w:=λw=>by simp[Go.sizeOf,typeInfo,hi,hz1]
 refine⟨by obtain⟨_,hn,FG⟩:=L.f41;exact enters_of FG (by first|exact hn|(simp;done)|rfl) rfl,λargs H r H' h=>?_⟩
 -- whatever it returns
 have fin:∀ {els:List D} {w:World} {al:Nat->Prop} {m:Places} {news:List Value} {v':Value} {w':World},HR w ⟨w.heap.size,al⟩ (owned H m) m H->H.get id=none->news.length=els.length*sz ->
     (∀(i:Nat) (x:D),els[i]?=some x->x.cells.length=sz)->(∀(i:Nat) (x:D) (j:Nat) (y:D) u,els[i]?=some x->x.cells[j]?=some y->news[i*sz+j]?=some u->DR w ((⟨w.heap.size,al⟩:Cx).okm (owned H m)) y u) ->
     w'.ownsRow w.heap.size (ρ.t 23) sz v' els.length news->Below w.heap.size w w' ->
     ∃u m',Ending.returned v' = .returned u/\((∀i v l,m i v=some l->m' i v=some l)/\∀i v l b,m' i v=some l->l.block=some b->b<w.heap.size->∃v' l',m i v'=some l'/\l'.block=some b) /\
       HR w' ⟨w.heap.size,al⟩ (owned H m) m' (H.ins id (.row false false 0 (ρ.t 23) sz els))/\VR w' ⟨w.heap.size,al⟩ (owned (H.ins id (.row false false 0 (ρ.t 23) sz els)) m') m' (.row id 0) u /\
       Keep w.heap.size (owned H m) w w'/\∀i,(H.get i).isSome=true->((H.ins id (.row false false 0 (ρ.t 23) sz els)).get i).isSome=true:=by
   intro els w al m news v' w' hr hid hl hs hd hown hb
   obtain⟨o1,o2⟩:=PE hown
   obtain⟨m',h1,h2,h3,h4⟩:=Pq (C:=⟨w.heap.size,al⟩) (id:=id) (ver:=0) (nw:=true) (b:=false) (e:=ρ.t 23) (els:=[]) (ys:=els) hr (Nat.le_refl _) (World.ownsRow_nil w 0 (ρ.t 23) sz) (λi x h=>by simp at h) (λi x j y u h=>by simp at h)
     (λ_ b hb=>by simp[Value.ownBlock]at hb) (.inl ⟨hid,rfl,rfl⟩) (by simpa using o1) (QO hb) (.inr o2) hs hd
   simp only[Bool.true_and,List.nil_append]at h1 h2 h3
   refine⟨v',m',rfl,⟨h1.p,h1.q⟩,h2,h3,h4,λi hi=>?_⟩
   rw[Heap.get_ins]
   split
   · rfl
   · exact hi
 unfold DD at h
 split at h
 · rename_i s els
   split at h<;>simp only[oI,pI,reduceCtorEq]at h
   rename_i hc
   obtain⟨rfl,rfl⟩:=h
   obtain⟨rfl,hid,hlim⟩:=hc
   have hid':H.get id=none:=by simpa using hid
   intro w al m vs hr hal hcs
   have one:∃v,vs=[v]/\VR w ⟨w.heap.size,al⟩ (owned H m) m (.o (.sl s els)) v:=by
     match vs,hcs with
     | [v],hcs=>exact⟨v,rfl,hcs.2 0 _ v rfl rfl⟩
     | [],hcs=>exact absurd hcs.1 (by simp)
     | _::_::_,hcs=>exact absurd hcs.1 (by simp)
   obtain⟨v,rfl,hv⟩:=one
   cases hv with
   | o _ _ hd=>
     have hlies:=hd.lies.1
     rcases hlies with⟨⟨p,c,rfl,hp0⟩,rfl⟩|⟨b,off,c,ws,rfl,hcap,hbs,hszs,hvals,hdrs⟩
     · cases p with
       | none=>
         refine(AnyE.slices_Clone_nil L 0 c w).mono λe' w' ⟨he,hw⟩=>?_
         subst he;subst hw
         exact fin (news:=[]) hr hid' (by simp) (λi x h=>by simp at h) (λi x j y u h=>by simp at h) (World.ownsRow_nil w' _ _ _) (Below.refl _ _)
       | some q=>
         refine(QN L i0 z s bytes hi hz0 hz1 hz2 hzs hsz z23 q c w).mono λe' w' ⟨v',he,ho,hb⟩=>?_
         subst he
         exact fin (news:=[]) hr hid' (by simp) (λi x h=>by simp at h) (λi x j y u h=>by simp at h) (by simpa using ho) hb
     · have key:∀p,p<els.length*s->∃x y,els[p / s]?=some x/\x.cells[p % s]?=some y:=by
         intro p hp
         have h1:p / s<els.length:=by rw[Nat.div_lt_iff_lt_mul hsz];exact hp
         have h2:=hszs _ _ (gI h1)
         exact⟨_,_,gI h1,gI (by rw[h2];exact Nat.mod_lt _ hsz)⟩
       have hnews:((List.range (els.length*s)).map λp=>ws (p / s) (p % s)).length=els.length*s:=by simp
       have hlen:els.length<=maxLen:=by
         have:els.length<=els.length*bytes:=Nat.le_mul_of_pos_right _ hby
         simp only[maxLen];omega
       have hget:∀j u,((List.range (els.length*s)).map λp=>ws (p / s) (p % s))[j]?=some u->j<els.length*s/\u=ws (j / s) (j % s):=λj u hj=>by
         rw[List.getElem?_map]at hj
         by_cases hp:j<els.length*s
         · rw[List.getElem?_range hp]at hj
           simp only[Option.map_some,oI]at hj
           exact⟨hp,hj.symm⟩
         · rw[List.getElem?_eq_none (by simpa using hp)]at hj;simp at hj
       refine(AnyE.slices_Clone L i0 z s bytes hi hz0 hz1 hz2 hzs hsz z23 b off els.length c _ w hnews hlen hlim (λj u hj=>?_) (λu hu=>?_)).mono λe' w' ⟨v',he,ho,_,hb⟩=>?_
       · obtain⟨hp,rfl⟩:=hget j u hj
         obtain⟨x,y,hx,hy⟩:=key j hp
         have:=hvals _ x _ y hx hy
         rw[<-this]
         congr 2
         rw[Nat.mul_comm,Nat.div_add_mod]
       · obtain⟨p,hp,rfl⟩:=List.mem_map.1 hu
         obtain⟨x,y,hx,hy⟩:=key p (List.mem_range.1 hp)
         exact(hdrs _ x _ y hx hy).one
       · subst he
         refine fin hr hid' hnews hszs (λi x j y u hx hy hu=>?_) ho hb
         obtain⟨hp,rfl⟩:=hget _ u hu
         have hj:j<s:=by rw[<-hszs i x hx];exact(List.getElem?_eq_some_iff.1 hy).1
         have e1:(i*s+j) / s=i:=by rw[Nat.add_comm,Nat.add_mul_div_right _ _ hsz,Nat.div_eq_of_lt hj,Nat.zero_add]
         have e2:(i*s+j) % s=j:=by rw[Nat.add_comm,Nat.add_mul_mod_self_right,Nat.mod_eq_of_lt hj]
         rw[e1,e2]
         exact hdrs i x j y hx hy
 · split at h<;>simp only[oI,pI,reduceCtorEq]at h
   rename_i hid
   obtain⟨rfl,rfl⟩:=h
   have hid':H.get id=none:=by simpa using hid
   intro w al m vs hr hal hcs
   have one:∃v,vs=[v]/\VR w ⟨w.heap.size,al⟩ (owned H m) m (.n .nil) v:=by
     match vs,hcs with
     | [v],hcs=>exact⟨v,rfl,hcs.2 0 _ v rfl rfl⟩
     | [],hcs=>exact absurd hcs.1 (by simp)
     | _::_::_,hcs=>exact absurd hcs.1 (by simp)
   obtain⟨v,rfl,hv⟩:=one
   cases hv with
   | n _ _ hd=>
     cases hd
     refine(AnyE.slices_Clone_nil L 0 0 w).mono λe' w' ⟨he,hw⟩=>?_
     subst he;subst hw
     exact fin (news:=[]) hr hid' (by simp) (λi x h=>by simp at h) (λi x j y u h=>by simp at h) (World.ownsRow_nil w' _ _ _) (Below.refl _ _)
 · cases h
def FZ (P:Program)(e sz bytes:Nat):Bool:=match P.info? e with
 | some i=>match i.zero with
   | some z=>i.size==sz&&i.bytes==bytes&&z.cells.size==sz&&Nat.blt 0 sz&&Nat.blt 0 bytes
   | none=>false
 | none=>false
theorem IQ {P:Program}{ρ:Ren}(L:SlLaysE0.n41 P ρ){id e sz bytes:Nat}(he:ρ.t 23=e)(h:FZ P e sz bytes=true):D2 P (ρ.f 41) (.prim (some (id,e,sz,false)) (DD id e sz bytes)):=by
 unfold FZ at h;split at h<;>try (cases h;done)
 rename_i i hi;split at h<;>try (cases h;done)
 rename_i z hz;simp only[Bool.and_eq_true,beq_iff_eq,Nat.blt_eq]at h;obtain⟨⟨⟨⟨h1,h2⟩,h3⟩,h4⟩,h5⟩:=h;exact Yl L he hi hz h1 h2 h3 h4 h5
theorem AO {Fs:Nat->Option Fun}{f id e sz bytes:Nat}(hf:Fs f=some (.prim (some (id,e,sz,false)) (DD id e sz bytes)))(els:List D)(h:els.length*bytes<=140737488355328):
  Runs Fs f [.o (.sl sz els)] [] (.row id 0) [(id,.row false false 0 e sz els)]:=by
 refine⟨1,λk hk=>?_⟩
 obtain⟨k,rfl⟩:∃j,k=j+1:=⟨k-1,by omega⟩
 simp only[run,hf,DD]
 rw[if_pos ⟨trivial,rfl,h⟩]
 rfl
end Go.Mir
