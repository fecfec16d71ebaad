import Derived.Test.YtjmpnbbeplgchabGreatDoorR6Read
import Derived.Test.YtjmpnbbeplgchabGreatDoorR6Dv
import Derived.Test.YtjmpnbbeplgchabGreatDoorMirM
namespace Go.Proofs.YtjmpnbbeplgchabGreatDoor.M
set_option linter.unusedVariables false
set_option linter.unusedSimpArgs false
open Go Go.Mir Go.RowKit
def A7 (b:List bA)(p:List Wr)(i:Int):Int:=if Rt b p=false then 1 else if i<0\/(b.length:Int)<=i then 30 else 0
theorem AAn (b:List bA)(p:List Wr)(i:Int)(hf:Fits b p):Runs Fs 136 [CK b p,aI i] [] (aI (A7 b p i)) []:=by
 refine Ag (c:=c136) rfl rfl ?_;rw[CK,ABW,(ACm _ _ _ _).down,Cg];refine⟨_,uQ b p hf,Aa (λh=>by rw[A7,if_pos (by simpa using h)]) (λh=>?_)⟩;have h:¬Rt b p=false:=by simpa using h
 refine Ab (λh1=>by rw[A7,if_neg h,if_pos (by omega)]) (λh1=>?_);refine Ab (λh2=>by rw[A7,if_neg h,if_pos (by omega)]) (λh2=>?_);rw[A7,if_neg h,if_neg (by omega)]
def BD (b:List bA)(p:List Wr)(i:Int):bA:=match p.reverse.find? (λw=>decide (w.1=i)) with
 | some w=>w.2.1
 | none=>(b[i.toNat]?).getD iT
def PU (b:List bA)(p:List Wr)(i:Int):AV := .tup [aS (if A7 b p i=0 then BD b p i else iT),aI (A7 b p i)]
def prs (p:List Wr):List (Int×bA):=p.map λw=>(w.1,w.2.1)
theorem HU (ps:List (Int×bA)):∀k,k<=ps.length->(GN ps k).map (·.2)=ps.reverse.take k
 | 0,_=>by simp[GN,Wu]
 | k+1,h=>by have ih:=HU ps k (by omega);rw[GN,KU,List.map_append,List.take_add_one,<-ih];congr 1;rw[List.getElem?_reverse (by omega)];simp only[List.map_cons,List.map_nil,Ot,Vx];rw[gI (by omega)];rfl
theorem eY {b:List bA}{p:List Wr}{i:Int}(h:∀x∈GN (prs p) (prs p).length,x.2.1≠i):BD b p i=(b[i.toNat]?).getD iT:=by
 have hc:=HU (prs p) (prs p).length (Nat.le_refl _);rw[List.take_of_length_le (by simp)]at hc;have:p.reverse.find? (λw=>decide (w.1=i))=none:=by
  rw[List.find?_eq_none];intro w hw;have:(w.1,w.2.1)∈(prs p).reverse:=by rw[prs,<-List.map_reverse];exact List.mem_map_of_mem (f:=λw:Wr=>(w.1,w.2.1)) hw
  rw[<-hc]at this;obtain⟨x,hx,e⟩:=List.mem_map.1 this;have:=h x hx;rw[e]at this;simpa using this
 rw[BD,this]
theorem dW {b:List bA}{p:List Wr}{i:Int}{k:Nat}(hk:k<=(prs p).length)(h:Ut i (GN (prs p) k)):BD b p i=Kc (GN (prs p) k):=by
 obtain⟨pre,x,e,hn,hx⟩:=h
 have hc:=HU (prs p) k hk
 rw[e,List.map_append,prs,<-List.map_reverse,<-List.map_take]at hc
 rw[e,Lt]
 -- the writes themselves
 have hsplit:p.reverse=p.reverse.take k++p.reverse.drop k:=(List.take_append_drop k _).symm
 have hl:=congrArg List.length hc
 simp only[List.length_append,List.length_map,List.length_cons,List.length_nil]at hl
 generalize hq:p.reverse.take k=q at *
 obtain⟨q1,w,rfl⟩:∃q1 w,q=q1++[w]:=by
  rcases List.eq_nil_or_concat q with rfl|⟨q1,w,rfl⟩
  · simp at hl
  · exact⟨q1,w,by simp⟩
 rw[List.map_append]at hc
 have hc2:=List.append_inj hc (by simp only[List.length_append,List.length_map,List.length_cons,List.length_nil]at hl |-;omega)
 have hw:(w.1,w.2.1)=x.2:=by simpa using hc2.2.symm
 have hf:p.reverse.find? (λw=>decide (w.1=i))=some w:=by
  rw[hsplit,List.append_assoc,List.find?_append,List.find?_append]
  have h1:q1.find? (λw=>decide (w.1=i))=none:=by
    rw[List.find?_eq_none]
    intro v hv
    have:(v.1,v.2.1)∈List.map (λw:Wr=>(w.1,w.2.1)) q1:=List.mem_map_of_mem (f:=λw:Wr=>(w.1,w.2.1)) hv
    rw[<-hc2.1]at this
    obtain⟨y,hy,e'⟩:=List.mem_map.1 this
    have:=hn y hy
    rw[e']at this
    simpa using this
  rw[h1]
  have:w.1=i:=by rw[<-hx,<-hw]
  simp[this]
 rw[BD,hf,<-hw]
def SQ:List Mir.D->Option (List bA)
 | []=>some []
 | .str s::r=>(SQ r).map (s::·)
 | _::_=>none
def RN:List Mir.D->Option (List Wr)
 | []=>some []
 | .rcd [.int .i64 n,.str s]::r=>(RN r).map ((n,s,())::·)
 | _::_=>none
theorem TF:∀ {l:List Mir.D} {b:List bA},SQ l=some b->l=bk b
 | [],b,h=>by simp only[SQ,oI]at h;subst h;rfl
 | x::r,b,h=>by
  unfold SQ at h;split at h<;>try (simp at h;done)
  ·rename_i e;cases e
  ·rename_i s r' e;cases e;obtain⟨b',hb,rfl⟩:=Option.map_eq_some_iff.1 h;rw[TF hb];rfl
theorem TH:∀ {l:List Mir.D} {p:List Wr},RN l=some p->l=pk p
 | [],b,h=>by simp only[RN,oI]at h;subst h;rfl
 | x::r,b,h=>by
  unfold RN at h;split at h<;>try (simp at h;done)
  ·rename_i e;cases e
  ·rename_i n s r' e;cases e;obtain⟨b',hb,rfl⟩:=Option.map_eq_some_iff.1 h;rw[TH hb];rfl
theorem Uo:∀b:List bA,SQ (bk b)=some b
 | []=>rfl
 | s::r=>by have:=Uo r;show(SQ (bk r)).map (s::·)=_;rw[this];rfl
theorem T7:∀p:List Wr,RN (pk p)=some p
 | []=>rfl
 | (n,s,())::r=>by have:=T7 r;show(RN (pk r)).map ((n,s,())::·)=_;rw[this];rfl
def Ys (b:List bA)(p:List Wr):Bool:=decide (b.length<=9223372036854775807)&&decide (p.length<=9223372036854775807)&&b.all (λs=>decide (s.size<=9223372036854775807))&&p.all (λw=>decide (w.2.1.size<=9223372036854775807))
theorem eZ {b:List bA}{p:List Wr}(h:Ys b p=true):Fits b p:=by simp only[Ys,Bool.and_eq_true,decide_eq_true_eq,List.all_eq_true]at h;exact⟨h.1.1.1,h.1.1.2,h.1.2,h.2⟩
theorem cF {b:List bA}{p:List Wr}(h:Fits b p):Ys b p=true:=by simp only[Ys,Bool.and_eq_true,decide_eq_true_eq,List.all_eq_true];exact⟨⟨⟨h.bl,h.pl⟩,h.bs⟩,h.ps⟩
def NK:List AV->Heap->Option (AV×Heap)
 | [.agg [.o (.sl 1 l),.o (.sl 2 m)],.n (.int .i64 i)],H=>match SQ l,RN m with
   | some b,some p=>if Ys b p then some (PU b p i,H) else none
   | _,_=>none
 | _,_=>none
theorem Vh {G:Nat->Option Fun}(hf:G 93=some (.prim none NK))(b:List bA)(p:List Wr)(i:Int)(h:Fits b p):Runs G 93 [CK b p,aI i] [] (PU b p i) []:=by
 refine⟨1,λk hk=>?_⟩;obtain⟨k,rfl⟩:∃j,k=j+1:=⟨k-1,by omega⟩
 simp only[run,hf,CK,NK,Uo,T7,cF h,if_true]
theorem bR {w:World}{ok:Nat->Prop}{b:List bA}{v:Value}(h:DR w ok (.sl 1 (bk b)) v){i:Nat}(hi:i<b.length):∃blk off c,v = .slice (some ⟨blk,off,none⟩) b.length c/\blk<w.heap.size/\w.cell? ⟨blk,off+i,none⟩=some (.string b[i]):=by
 generalize hl:bk b=l at h
 cases h with
 | sl0=>rw[<-Cg b,hl]at hi;cases hi
 | sle=>rw[<-Cg b,hl]at hi;cases hi
 | sl _ _ blk off c vs hb hs hc hsz hv hd=> subst hl;refine⟨blk,off,c,by rw[Cg],hs,?_⟩;have h1:=hv i _ 0 (.str b[i]) (Kf hi) rfl;have h2:=hd i _ 0 (.str b[i]) (Kf hi) rfl;generalize vs i 0=u at h1 h2;cases h2;simpa using h1
theorem eI {w:World}{ok:Nat->Prop}{p:List Wr}{v:Value}(h:DR w ok (.sl 2 (pk p)) v):Holds2 w.heap.size w v (prs p):=by
 have e0:(prs p).length=p.length:=by simp[prs]
 generalize hl:pk p=l at h;have hlen:=Dq p
 cases h with
 | sl0=>rw[hl]at hlen;simp at hlen;exact⟨none,0,by rw[e0,<-hlen],.inl (List.eq_nil_of_length_eq_zero (by omega))⟩
 | sle _ a c=>rw[hl]at hlen;simp at hlen;exact⟨some a,c,by rw[e0,<-hlen],.inl (List.eq_nil_of_length_eq_zero (by omega))⟩
 | sl _ _ blk off c vs hb hs hc hsz hv hd=>
  subst hl;refine⟨some ⟨blk,off,none⟩,c,by rw[e0,hlen],.inr ⟨blk,off,rfl,hs,λj q hj=>?_⟩⟩;have hjl:j<p.length:=by rw[<-e0];exact(List.getElem?_eq_some_iff.1 hj).1
  have hq:q=(p[j].1,p[j].2.1):=by simpa[prs,hjl] using hj.symm
  subst hq;have h1:=hv j _ 0 (.int .i64 p[j].1) (HF hjl) rfl;have h2:=hd j _ 0 (.int .i64 p[j].1) (HF hjl) rfl;have h3:=hv j _ 1 (.str p[j].2.1) (HF hjl) rfl;have h4:=hd j _ 1 (.str p[j].2.1) (HF hjl) rfl;generalize vs j 0=u at h1 h2;generalize vs j 1=u' at h3 h4;cases h2;cases h4;exact⟨by simpa using h1,by simpa[Nat.add_assoc] using h3⟩
theorem Rm {b:List bA}{p:List Wr}{i:Int}(h:A7 b p i=0):Rt b p=true/\0<=i/\i<b.length:=by
 unfold A7 at h;split at h;·cases h
 ·rename_i h1;split at h;·cases h
  ·rename_i h2;exact⟨by simpa using h1,by omega,by omega⟩
theorem Zj:DJ Tryz.prog 93 (.prim none NK):=by
 refine⟨enters_of Tryz.func93 (by kernel_rfl) rfl,λargs H r H' h=>?_⟩;unfold NK at h;split at h<;>try (cases h;done)
 rename_i l m i;split at h<;>try (cases h;done)
 rename_i b p hb hp;split at h<;>simp only[oI,pI,reduceCtorEq]at h;rename_i hfit;obtain⟨rfl,rfl⟩:=h;obtain rfl:=TF hb;obtain rfl:=TH hp;have hf:=eZ hfit;obtain⟨s,hs⟩:∃s,(if A7 b p i=0 then BD b p i else iT)=s:=⟨_,rfl⟩
 rw[PU,hs];refine G7 (u := .tuple #[.string s,.int .i64 (A7 b p i)]) (λw C ow m => .tup _ [.string s,.int .i64 (A7 b p i)] rfl λj c v hc hv=>?_) λw C ow m vs hc=>?_
 ·match j with
  | 0=>simp only[List.getElem?_cons_zero,oI]at hc hv;subst hc;subst hv;exact .n _ _ (.str _)
  | 1=>simp only[List.getElem?_cons_succ,List.getElem?_cons_zero,oI]at hc hv;subst hc;subst hv;exact .n _ _ (.int _ _)
  | j+2=>simp at hc
 ·obtain⟨u,v,rfl,hu,hv⟩:=DD hc;obtain⟨us,hul,hus,rfl⟩:=hu.agg_inv;obtain⟨vb,vp,rfl⟩:∃vb vp,us=[vb,vp]:=by
   match us,hul with
   | [a,b],_=>exact⟨a,b,rfl⟩
  have hvb:=hus 0 _ vb rfl rfl;have hvp:=hus 1 _ vp rfl rfl
  cases hv with
  | n _ _ hd=>
   cases hd
   cases hvb with
   | o _ _ hdb=>
    cases hvp with
    | o _ _ hdp=>
     have hck:∀W,Below w.heap.size w W->Calls Tryz.prog 136 #[.agg #[vb,vp],.int .i64 i] W λe W'=>e = .returned (.int .i64 (A7 b p i))/\Below W.heap.size W W':=λW hW=>by
      have h1:DR W ((⟨W.heap.size,λ_=>True⟩:Cx).okm (λ_=>False)) (.sl 1 (bk b)) vb:=hdb.mono hW.size λk _ hk=>⟨⟨.inl trivial,λh=>h⟩,hW.block k hk⟩
      have h2:DR W ((⟨W.heap.size,λ_=>True⟩:Cx).okm (λ_=>False)) (.sl 2 (pk p)) vp:=hdp.mono hW.size λk _ hk=>⟨⟨.inl trivial,λh=>h⟩,hW.block k hk⟩
      have hcells:Cells W ⟨W.heap.size,λ_=>True⟩ (λ_=>False) (λ_ _=>none) [CK b p,.n (.int .i64 i)] [.agg #[vb,vp],.int .i64 i]:=
        cells_cons (.agg _ [vb,vp] rfl λj c v hc hv=>by
         match j with
         | 0=>simp only[List.getElem?_cons_zero,oI]at hc hv;subst hc;subst hv;exact .o _ _ h1
         | 1=>simp only[List.getElem?_cons_succ,List.getElem?_cons_zero,oI]at hc hv;subst hc;subst hv;exact .o _ _ h2
         | j+2=>simp at hc) (cells_cons (vr_int _ _) cells_nil)
      refine(calls_of_runs Up (AAn b p i hf) hcells).mono λe W' ⟨u,he,hu,hbl⟩=>?_
      cases hu with
      | n _ _ hd=>cases hd;exact⟨he,hbl⟩
     by_cases hc0:A7 b p i=0
     ·obtain⟨hrt,hi0,hi1⟩:=Rm hc0;obtain⟨hbl,hpl,_⟩:=(GS hrt).2.1;have hin:i.toNat<b.length:=by omega
      obtain⟨blk,off,c,hvb',hblk,hcell⟩:=bR hdb hin;rw[hc0]at hck |-;refine(callsIn_wide (n:=9)).1 ?_;refine(dV _ 9 trivial trivial trivial trivial rfl (by omega) vb vp i b[i.toNat] (prs p) w (λW hW=>callsIn_wide.2 (hck W hW)) (by simp[prs];omega) (eI hdp)
        ⟨blk,off,b.length,c,hvb',hblk,hi0,hi1,hcell⟩).mono ?_
      rintro e W' ⟨⟨s',rfl,h⟩,hbw⟩;refine⟨?_,hbw⟩;rw[<-hs,if_pos hc0];rcases h with⟨hno,rfl⟩|⟨k,hk,hok,rfl⟩
      ·rw[eY hno,gI hin];rfl
      ·rw[dW hk hok]
     ·refine(callsIn_wide (n:=9)).1 ?_;refine(ZA _ 9 trivial trivial trivial rfl (by omega) vb vp i (A7 b p i) w (λW hW=>callsIn_wide.2 (hck W hW)) hc0).mono ?_;rintro e W' ⟨rfl,hbw⟩;rw[<-hs,if_neg hc0];exact⟨rfl,hbw⟩
end Go.Proofs.YtjmpnbbeplgchabGreatDoor.M
namespace Go.Proofs.YtjmpnbbeplgchabGreatDoor.M
set_option linter.unusedVariables false
set_option linter.unusedSimpArgs false
open Go Go.Mir
theorem Dy (b:List bA)(p:List Wr)(w:Wr)(i:Int):BD b (p++[w]) i=if w.1=i then w.2.1 else BD b p i:=by
 unfold BD;rw[List.reverse_append,List.reverse_singleton,List.singleton_append,List.find?_cons];by_cases h:w.1=i;·rw[decide_eq_true h,if_pos h]
 ·rw[decide_eq_false h,if_neg h]
theorem V0 (b:List bA)(i:Int):BD b [] i=(b[i.toNat]?).getD iT:=rfl
theorem Oc {α:Type}{l:List α}{k:Nat}(h:k<l.length):l.take (k+1)=l.take k++[l[k]]:=by rw[List.take_add_one,gI h];rfl
def nwW (i:Int)(s:bA):Wr:=(i,TrimS s,())
theorem eQ (p:List Wr)(w:Wr):pk p++[.rcd [.int .i64 w.1,.str w.2.1]]=pk (p++[w]):=by simp[pk]
theorem fF (p:List Wr)(h:p.length<=2048):Runs Fs 151 [.o (.sl 2 (pk p))] [] (.row 15100001 0) [(15100001,.row false false 0 126 2 (pk p))]:=
 AR wD _ (by rw[Dq];omega)
def GO (b:List bA)(p:List Wr)(i:Int)(s:bA):AV:=
 if A7 b p i≠0 then .tup [CK [] [],aI (A7 b p i)] else if 4096<s.size\/2048<=p.length then .tup [CK [] [],aI 2] else .tup [CK b (p++[nwW i s]),aI 0]
theorem AFV (b:List bA)(p:List Wr)(i:Int)(s:bA)(hf:Fits b p)(hs:(s.size:Int)<=9223372036854775807):Runs Fs 117 [CK b p,aI i,aS s] [] (GO b p i s) []:=by
 refine Ag (c:=c117) rfl rfl ?_;rw[CK,ACc,(yV _ _ _ _ _).down,Dq];have h45:=AAn b p i hf;refine⟨_,h45,Aa (λh=>by rw[GO,if_pos (by simpa using h)];rfl) (λh=>?_)⟩;have h:¬A7 b p i≠0:=by simpa using h
 refine Ab (λh1=>by rw[GO,if_neg h,if_pos (by omega)];rfl) (λh1=>?_);refine Ab (λh2=>by rw[GO,if_neg h,if_pos (by omega)];rfl) (λh2=>?_);refine⟨_,_,fF p (by omega),_,Vs s hs,rfl,.inl rfl,⟨⟨rfl,rfl⟩,rfl⟩,?_,rfl,?_⟩;·rw[Dq];simp only[List.length_singleton];omega
 ·rw[GO,if_neg h,if_neg (by omega)];have:=eQ p (nwW i s);rw[nwW]at this;dsimp only at this;rw[this];rfl
def LC (b:List bA)(p:List Wr):AV:=if Rt b p then .tup [CK (Il (λ_=>255) b p p.length) [],aI 0] else .tup [CK [] [],aI 1]
theorem p73 (b:List bA)(p:List Wr)(hf:Fits b p):Runs Fs 73 [CK b p] [] (LC b p) []:=by
 refine Ag (c:=c73) rfl rfl ?_;rewrite[CK,AHR,(AEz _ _ _).down];refine⟨_,uQ b p hf,Aa (λh=>?_) (λh=>?_)⟩;·rw[LC,if_neg (by simpa using h)];rfl
 ·have h:Rt b p=true:=by simpa using h
  refine⟨_,_,zA b p (iR hf h),?_⟩;rw[LC,if_pos h];rfl
theorem bU (a s:bA)(h:s.size<=4096):Ix a s 255=TrimS s:=by
 refine sR (Qm a s 255) (by rw[BQ];exact FL) λk=>?_;rw[rJ,BQ,H6];by_cases hk:k<4096;·rw[if_pos hk,nS _ (by omega),if_pos rfl];rfl
 ·rw[if_neg hk];exact(dS (s:=s) (by omega)).symm
theorem RS {s:bA}(h:Tm s=true):TrimS s=s/\s.size<=4096:=by rw[Tm,Bool.and_eq_true,decide_eq_true_iff,decide_eq_true_iff]at h;exact⟨h.2,by omega⟩
theorem Nf {b:List bA}{p:List Wr}(h:Rt b p=true):∀n,n<=p.length->∀i:Nat,i<b.length->(Il (λ_=>255) b p n)[i]?=some (BD b (p.take n) i)
 | 0,_,i,hi=>by rw[List.take_zero,V0];show b[i]?=some (b[(i:Int).toNat]?.getD iT);rw[show(i:Int).toNat=i by omega,gI hi];rfl
 | n+1,hn,i,hi=>by
  obtain⟨h1,h2,h3⟩:=GS h;have hW:=h3 _ (List.getElem_mem (by omega:n<p.length));rw[Wm,Bool.and_eq_true,Bool.and_eq_true,decide_eq_true_iff,decide_eq_true_iff]at hW;have ih:=Nf h n (by omega) i hi;rw[Mo _ _ _ _ (by omega) (by omega),Oc (by omega:n<p.length),Dy];obtain⟨t1,t2⟩:=RS hW.2.2;rw[bU _ _ t2,t1];by_cases he:p[n].1=(i:Int);·rw[if_pos he,show p[n].1.toNat=i by omega,List.getElem?_set_self (by rw[Bf];exact hi)]
  ·rw[if_neg he,List.getElem?_set_ne (by omega)];exact ih
theorem R5 {b:List bA}{p:List Wr}(h:Rt b p=true)(i:Int)(h0:0<=i)(hi:i<b.length):(Il (λ_=>255) b p p.length)[i.toNat]?=some (BD b p i):=by have:=Nf h p.length (Nat.le_refl _) i.toNat (by omega);rw[List.take_of_length_le (Nat.le_refl _)]at this;rw[this,show((i.toNat:Nat):Int)=i by omega]
end Go.Proofs.YtjmpnbbeplgchabGreatDoor.M
