import Derived.Test.YtegndijbpiccgaaGreatDoorR5Read
import Derived.Test.YtegndijbpiccgaaGreatDoorR5Dv
import Derived.Test.YtegndijbpiccgaaGreatDoorMirM
namespace Go.Proofs.YtegndijbpiccgaaGreatDoor.M
set_option linter.unusedVariables false
set_option linter.unusedSimpArgs false
open Go Go.Mir Go.RowKit
def A6 (b:List bA)(p:List Wr)(i:Int):Int:=if Rt b p=false then 1 else if i<0\/(b.length:Int)<=i then 30 else 0
theorem p99 (b:List bA)(p:List Wr)(i:Int)(hf:Fits b p):Runs Fs 99 [CO b p,aI i] [] (aI (A6 b p i)) []:=by
 refine An (c:=c99) rfl rfl ?_;rw[CO,AFs,(AF3 _ _ _ _).down,CL];refine⟨_,tO b p hf,Aa (λh=>by rw[A6,if_pos (by simpa using h)]) (λh=>?_)⟩;have h:¬Rt b p=false:=by simpa using h
 refine Ab (λh1=>by rw[A6,if_neg h,if_pos (by omega)]) (λh1=>?_);refine Ab (λh2=>by rw[A6,if_neg h,if_pos (by omega)]) (λh2=>?_);rw[A6,if_neg h,if_neg (by omega)]
def TellS (b:List bA)(p:List Wr)(i:Int):bA:=match p.reverse.find? (λw=>decide (w.1=i)) with
 | some w=>w.2.1
 | none=>(b[i.toNat]?).getD gJ
def Rh (b:List bA)(p:List Wr)(i:Int):AV := .tup [aS (if A6 b p i=0 then TellS b p i else gJ),aI (A6 b p i)]
def prs (p:List Wr):List (Int×bA):=p.map λw=>(w.1,w.2.1)
theorem HU (ps:List (Int×bA)):∀k,k<=ps.length->(G2 ps k).map (·.2)=ps.reverse.take k
 | 0,_=>by simp[G2,VW]
 | k+1,h=>by have ih:=HU ps k (by omega);rw[G2,LN,List.map_append,List.take_add_one,<-ih];congr 1;rw[List.getElem?_reverse (by omega)];simp only[List.map_cons,List.map_nil,Px,UH];rw[gI (by omega)];rfl
theorem dY {b:List bA}{p:List Wr}{i:Int}(h:∀x∈G2 (prs p) (prs p).length,x.2.1≠i):TellS b p i=(b[i.toNat]?).getD gJ:=by
 have hc:=HU (prs p) (prs p).length (Nat.le_refl _);rw[List.take_of_length_le (by simp)]at hc;have:p.reverse.find? (λw=>decide (w.1=i))=none:=by
  rw[List.find?_eq_none];intro w hw;have:(w.1,w.2.1)∈(prs p).reverse:=by rw[prs,<-List.map_reverse];exact List.mem_map_of_mem (f:=λw:Wr=>(w.1,w.2.1)) hw
  rw[<-hc]at this;obtain⟨x,hx,e⟩:=List.mem_map.1 this;have:=h x hx;rw[e]at this;simpa using this
 rw[TellS,this]
theorem aD {b:List bA}{p:List Wr}{i:Int}{k:Nat}(hk:k<=(prs p).length)(h:Ta i (G2 (prs p) k)):TellS b p i=J8 (G2 (prs p) k):=by
 obtain⟨pre,x,e,hn,hx⟩:=h
 have hc:=HU (prs p) k hk
 rw[e,List.map_append,prs,<-List.map_reverse,<-List.map_take]at hc
 rw[e,L8]
 -- the writes themselves
 have hsplit:p.reverse=p.reverse.take k++p.reverse.drop k:=(List.take_append_drop k _).symm
 have hl:=congrArg List.length hc
 simp only[List.length_append,List.length_map,List.length_cons,List.length_nil]at hl
 generalize hq:p.reverse.take k=q at *
 obtain⟨q1,w,rfl⟩:∃q1 w,q=q1++[w]:=by
  rcases List.eq_nil_or_concat q with rfl|⟨q1,w,rfl⟩
  · simp at hl
  · exact⟨q1,w,by simp⟩
 rw[List.map_append]at hc
 have hc2:=List.append_inj hc (by simp only[List.length_append,List.length_map,List.length_cons,List.length_nil]at hl |-;omega)
 have hw:(w.1,w.2.1)=x.2:=by simpa using hc2.2.symm
 have hf:p.reverse.find? (λw=>decide (w.1=i))=some w:=by
  rw[hsplit,List.append_assoc,List.find?_append,List.find?_append]
  have h1:q1.find? (λw=>decide (w.1=i))=none:=by
    rw[List.find?_eq_none]
    intro v hv
    have:(v.1,v.2.1)∈List.map (λw:Wr=>(w.1,w.2.1)) q1:=List.mem_map_of_mem (f:=λw:Wr=>(w.1,w.2.1)) hv
    rw[<-hc2.1]at this
    obtain⟨y,hy,e'⟩:=List.mem_map.1 this
    have:=hn y hy
    rw[e']at this
    simpa using this
  rw[h1]
  have:w.1=i:=by rw[<-hx,<-hw]
  simp[this]
 rw[TellS,hf,<-hw]
def RF:List Mir.D->Option (List bA)
 | []=>some []
 | .str s::r=>(RF r).map (s::·)
 | _::_=>none
def RJ:List Mir.D->Option (List Wr)
 | []=>some []
 | .rcd [.int .i64 n,.str s]::r=>(RJ r).map ((n,s,())::·)
 | _::_=>none
theorem Tc:∀ {l:List Mir.D} {b:List bA},RF l=some b->l=bk b
 | [],b,h=>by simp only[RF,oI]at h;subst h;rfl
 | x::r,b,h=>by
  unfold RF at h;split at h<;>try (simp at h;done)
  ·rename_i e;cases e
  ·rename_i s r' e;cases e;obtain⟨b',hb,rfl⟩:=Option.map_eq_some_iff.1 h;rw[Tc hb];rfl
theorem Uf:∀ {l:List Mir.D} {p:List Wr},RJ l=some p->l=pk p
 | [],b,h=>by simp only[RJ,oI]at h;subst h;rfl
 | x::r,b,h=>by
  unfold RJ at h;split at h<;>try (simp at h;done)
  ·rename_i e;cases e
  ·rename_i n s r' e;cases e;obtain⟨b',hb,rfl⟩:=Option.map_eq_some_iff.1 h;rw[Uf hb];rfl
theorem T8:∀b:List bA,RF (bk b)=some b
 | []=>rfl
 | s::r=>by have:=T8 r;show(RF (bk r)).map (s::·)=_;rw[this];rfl
theorem Uj:∀p:List Wr,RJ (pk p)=some p
 | []=>rfl
 | (n,s,())::r=>by have:=Uj r;show(RJ (pk r)).map ((n,s,())::·)=_;rw[this];rfl
def Yy (b:List bA)(p:List Wr):Bool:=decide (b.length<=9223372036854775807)&&decide (p.length<=9223372036854775807)&&b.all (λs=>decide (s.size<=9223372036854775807))&&p.all (λw=>decide (w.2.1.size<=9223372036854775807))
theorem dV {b:List bA}{p:List Wr}(h:Yy b p=true):Fits b p:=by simp only[Yy,Bool.and_eq_true,decide_eq_true_eq,List.all_eq_true]at h;exact⟨h.1.1.1,h.1.1.2,h.1.2,h.2⟩
theorem bE {b:List bA}{p:List Wr}(h:Fits b p):Yy b p=true:=by simp only[Yy,Bool.and_eq_true,decide_eq_true_eq,List.all_eq_true];exact⟨⟨⟨h.bl,h.pl⟩,h.bs⟩,h.ps⟩
def ND:List AV->Heap->Option (AV×Heap)
 | [.agg [.o (.sl 1 l),.o (.sl 2 m)],.n (.int .i64 i)],H=>match RF l,RJ m with
   | some b,some p=>if Yy b p then some (Rh b p i,H) else none
   | _,_=>none
 | _,_=>none
theorem Vy {G:Nat->Option Fun}(hf:G 60=some (.prim none ND))(b:List bA)(p:List Wr)(i:Int)(h:Fits b p):Runs G 60 [CO b p,aI i] [] (Rh b p i) []:=by
 refine⟨1,λk hk=>?_⟩;obtain⟨k,rfl⟩:∃j,k=j+1:=⟨k-1,by omega⟩
 simp only[run,hf,CO,ND,T8,Uj,bE h,if_true]
theorem aX {w:World}{ok:Nat->Prop}{b:List bA}{v:Value}(h:DR w ok (.sl 1 (bk b)) v){i:Nat}(hi:i<b.length):∃blk off c,v = .slice (some ⟨blk,off,none⟩) b.length c/\blk<w.heap.size/\w.cell? ⟨blk,off+i,none⟩=some (.string b[i]):=by
 generalize hl:bk b=l at h
 cases h with
 | sl0=>rw[<-CL b,hl]at hi;cases hi
 | sle=>rw[<-CL b,hl]at hi;cases hi
 | sl _ _ blk off c vs hb hs hc hsz hv hd=> subst hl;refine⟨blk,off,c,by rw[CL],hs,?_⟩;have h1:=hv i _ 0 (.str b[i]) (MD hi) rfl;have h2:=hd i _ 0 (.str b[i]) (MD hi) rfl;generalize vs i 0=u at h1 h2;cases h2;simpa using h1
theorem bG {w:World}{ok:Nat->Prop}{p:List Wr}{v:Value}(h:DR w ok (.sl 2 (pk p)) v):Holds2 w.heap.size w v (prs p):=by
 have e0:(prs p).length=p.length:=by simp[prs]
 generalize hl:pk p=l at h;have hlen:=EK p
 cases h with
 | sl0=>rw[hl]at hlen;simp at hlen;exact⟨none,0,by rw[e0,<-hlen],.inl (List.eq_nil_of_length_eq_zero (by omega))⟩
 | sle _ a c=>rw[hl]at hlen;simp at hlen;exact⟨some a,c,by rw[e0,<-hlen],.inl (List.eq_nil_of_length_eq_zero (by omega))⟩
 | sl _ _ blk off c vs hb hs hc hsz hv hd=>
  subst hl;refine⟨some ⟨blk,off,none⟩,c,by rw[e0,hlen],.inr ⟨blk,off,rfl,hs,λj q hj=>?_⟩⟩;have hjl:j<p.length:=by rw[<-e0];exact(List.getElem?_eq_some_iff.1 hj).1
  have hq:q=(p[j].1,p[j].2.1):=by simpa[prs,hjl] using hj.symm
  subst hq;have h1:=hv j _ 0 (.int .i64 p[j].1) (I1 hjl) rfl;have h2:=hd j _ 0 (.int .i64 p[j].1) (I1 hjl) rfl;have h3:=hv j _ 1 (.str p[j].2.1) (I1 hjl) rfl;have h4:=hd j _ 1 (.str p[j].2.1) (I1 hjl) rfl;generalize vs j 0=u at h1 h2;generalize vs j 1=u' at h3 h4;cases h2;cases h4;exact⟨by simpa using h1,by simpa[Nat.add_assoc] using h3⟩
theorem Rb {b:List bA}{p:List Wr}{i:Int}(h:A6 b p i=0):Rt b p=true/\0<=i/\i<b.length:=by
 unfold A6 at h;split at h;·cases h
 ·rename_i h1;split at h;·cases h
  ·rename_i h2;exact⟨by simpa using h1,by omega,by omega⟩
theorem Ya:D2 Tryz.prog 60 (.prim none ND):=by
 refine⟨enters_of Tryz.func60 (by kernel_rfl) rfl,λargs H r H' h=>?_⟩;unfold ND at h;split at h<;>try (cases h;done)
 rename_i l m i;split at h<;>try (cases h;done)
 rename_i b p hb hp;split at h<;>simp only[oI,pI,reduceCtorEq]at h;rename_i hfit;obtain⟨rfl,rfl⟩:=h;obtain rfl:=Tc hb;obtain rfl:=Uf hp;have hf:=dV hfit;obtain⟨s,hs⟩:∃s,(if A6 b p i=0 then TellS b p i else gJ)=s:=⟨_,rfl⟩
 rw[Rh,hs];refine Hr (u := .tuple #[.string s,.int .i64 (A6 b p i)]) (λw C ow m => .tup _ [.string s,.int .i64 (A6 b p i)] rfl λj c v hc hv=>?_) λw C ow m vs hc=>?_
 ·match j with
  | 0=>simp only[List.getElem?_cons_zero,oI]at hc hv;subst hc;subst hv;exact .n _ _ (.str _)
  | 1=>simp only[List.getElem?_cons_succ,List.getElem?_cons_zero,oI]at hc hv;subst hc;subst hv;exact .n _ _ (.int _ _)
  | j+2=>simp at hc
 ·obtain⟨u,v,rfl,hu,hv⟩:=DA hc;obtain⟨us,hul,hus,rfl⟩:=hu.agg_inv;obtain⟨vb,vp,rfl⟩:∃vb vp,us=[vb,vp]:=by
   match us,hul with
   | [a,b],_=>exact⟨a,b,rfl⟩
  have hvb:=hus 0 _ vb rfl rfl;have hvp:=hus 1 _ vp rfl rfl
  cases hv with
  | n _ _ hd=>
   cases hd
   cases hvb with
   | o _ _ hdb=>
    cases hvp with
    | o _ _ hdp=>
     have hck:∀W,Below w.heap.size w W->Calls Tryz.prog 99 #[.agg #[vb,vp],.int .i64 i] W λe W'=>e = .returned (.int .i64 (A6 b p i))/\Below W.heap.size W W':=λW hW=>by
      have h1:DR W ((⟨W.heap.size,λ_=>True⟩:Cx).okm (λ_=>False)) (.sl 1 (bk b)) vb:=hdb.mono hW.size λk _ hk=>⟨⟨.inl trivial,λh=>h⟩,hW.block k hk⟩
      have h2:DR W ((⟨W.heap.size,λ_=>True⟩:Cx).okm (λ_=>False)) (.sl 2 (pk p)) vp:=hdp.mono hW.size λk _ hk=>⟨⟨.inl trivial,λh=>h⟩,hW.block k hk⟩
      have hcells:Cells W ⟨W.heap.size,λ_=>True⟩ (λ_=>False) (λ_ _=>none) [CO b p,.n (.int .i64 i)] [.agg #[vb,vp],.int .i64 i]:=
        cells_cons (.agg _ [vb,vp] rfl λj c v hc hv=>by
         match j with
         | 0=>simp only[List.getElem?_cons_zero,oI]at hc hv;subst hc;subst hv;exact .o _ _ h1
         | 1=>simp only[List.getElem?_cons_succ,List.getElem?_cons_zero,oI]at hc hv;subst hc;subst hv;exact .o _ _ h2
         | j+2=>simp at hc) (cells_cons (vr_int _ _) cells_nil)
      refine(calls_of_runs T0 (p99 b p i hf) hcells).mono λe W' ⟨u,he,hu,hbl⟩=>?_
      cases hu with
      | n _ _ hd=>cases hd;exact⟨he,hbl⟩
     by_cases hc0:A6 b p i=0
     ·obtain⟨hrt,hi0,hi1⟩:=Rb hc0;obtain⟨hbl,hpl,_⟩:=(Ic hrt).2.1;have hin:i.toNat<b.length:=by omega
      obtain⟨blk,off,c,hvb',hblk,hcell⟩:=aX hdb hin;rw[hc0]at hck |-;refine(callsIn_wide (n:=9)).1 ?_;refine(cP _ 9 trivial trivial trivial trivial rfl (by omega) vb vp i b[i.toNat] (prs p) w (λW hW=>callsIn_wide.2 (hck W hW)) (by simp[prs];omega) (bG hdp)
        ⟨blk,off,b.length,c,hvb',hblk,hi0,hi1,hcell⟩).mono ?_
      rintro e W' ⟨⟨s',rfl,h⟩,hbw⟩;refine⟨?_,hbw⟩;rw[<-hs,if_pos hc0];rcases h with⟨hno,rfl⟩|⟨k,hk,hok,rfl⟩
      ·rw[dY hno,gI hin];rfl
      ·rw[aD hk hok]
     ·refine(callsIn_wide (n:=9)).1 ?_;refine(Zg _ 9 trivial trivial trivial rfl (by omega) vb vp i (A6 b p i) w (λW hW=>callsIn_wide.2 (hck W hW)) hc0).mono ?_;rintro e W' ⟨rfl,hbw⟩;rw[<-hs,if_neg hc0];exact⟨rfl,hbw⟩
end Go.Proofs.YtegndijbpiccgaaGreatDoor.M
namespace Go.Proofs.YtegndijbpiccgaaGreatDoor.M
set_option linter.unusedVariables false
set_option linter.unusedSimpArgs false
open Go Go.Mir
theorem Dx (b:List bA)(p:List Wr)(w:Wr)(i:Int):TellS b (p++[w]) i=if w.1=i then w.2.1 else TellS b p i:=by
 unfold TellS;rw[List.reverse_append,List.reverse_singleton,List.singleton_append,List.find?_cons];by_cases h:w.1=i;·rw[decide_eq_true h,if_pos h]
 ·rw[decide_eq_false h,if_neg h]
theorem Vg (b:List bA)(i:Int):TellS b [] i=(b[i.toNat]?).getD gJ:=rfl
theorem Ps {α:Type}{l:List α}{k:Nat}(h:k<l.length):l.take (k+1)=l.take k++[l[k]]:=by rw[List.take_add_one,gI h];rfl
def nwW (i:Int)(s:bA):Wr:=(i,TrimS s,())
theorem aH (p:List Wr)(w:Wr):pk p++[.rcd [.int .i64 w.1,.str w.2.1]]=pk (p++[w]):=by simp[pk]
theorem bL (p:List Wr)(h:p.length<=2048):Runs Fs 100 [.o (.sl 2 (pk p))] [] (.row 10000001 0) [(10000001,.row false false 0 88 2 (pk p))]:=
 AO tU _ (by rw[EK];omega)
def GO (b:List bA)(p:List Wr)(i:Int)(s:bA):AV:=
 if A6 b p i≠0 then .tup [CO [] [],aI (A6 b p i)] else if 4096<s.size\/2048<=p.length then .tup [CO [] [],aI 2] else .tup [CO b (p++[nwW i s]),aI 0]
theorem p53 (b:List bA)(p:List Wr)(i:Int)(s:bA)(hf:Fits b p)(hs:(s.size:Int)<=9223372036854775807):Runs Fs 53 [CO b p,aI i,aS s] [] (GO b p i s) []:=by
 refine An (c:=c53) rfl rfl ?_;rw[CO,ADZ,(ACD _ _ _ _ _).down,EK];have h45:=p99 b p i hf;refine⟨_,h45,Aa (λh=>by rw[GO,if_pos (by simpa using h)];rfl) (λh=>?_)⟩;have h:¬A6 b p i≠0:=by simpa using h
 refine Ab (λh1=>by rw[GO,if_neg h,if_pos (by omega)];rfl) (λh1=>?_);refine Ab (λh2=>by rw[GO,if_neg h,if_pos (by omega)];rfl) (λh2=>?_);refine⟨_,_,bL p (by omega),_,sE s hs,rfl,.inl rfl,⟨⟨rfl,rfl⟩,rfl⟩,?_,rfl,?_⟩;·rw[EK];simp only[List.length_singleton];omega
 ·rw[GO,if_neg h,if_neg (by omega)];have:=aH p (nwW i s);rw[nwW]at this;dsimp only at this;rw[this];rfl
def MA (b:List bA)(p:List Wr):AV:=if Rt b p then .tup [CO (D7 (λ_=>255) b p p.length) [],aI 0] else .tup [CO [] [],aI 1]
theorem p54 (b:List bA)(p:List Wr)(hf:Fits b p):Runs Fs 54 [CO b p] [] (MA b p) []:=by
 refine An (c:=c54) rfl rfl ?_;rewrite[CO,AFY,(AG2 _ _ _).down];refine⟨_,tO b p hf,Aa (λh=>?_) (λh=>?_)⟩;·rw[MA,if_neg (by simpa using h)];rfl
 ·have h:Rt b p=true:=by simpa using h
  refine⟨_,_,AFE b p (gG hf h),?_⟩;rw[MA,if_pos h];rfl
theorem cO (a s:bA)(h:s.size<=4096):HD a s 255=TrimS s:=by
 refine Yn (K7 a s 255) (by rw[BS];exact FY) λk=>?_;rw[Yp,BS,Ia];by_cases hk:k<4096;·rw[if_pos hk,Yf _ (by omega),if_pos rfl];rfl
 ·rw[if_neg hk];exact(OI (s:=s) (by omega)).symm
theorem Sv {s:bA}(h:Tm s=true):TrimS s=s/\s.size<=4096:=by rw[Tm,Bool.and_eq_true,decide_eq_true_iff,decide_eq_true_iff]at h;exact⟨h.2,by omega⟩
theorem Nx {b:List bA}{p:List Wr}(h:Rt b p=true):∀n,n<=p.length->∀i:Nat,i<b.length->(D7 (λ_=>255) b p n)[i]?=some (TellS b (p.take n) i)
 | 0,_,i,hi=>by rw[List.take_zero,Vg];show b[i]?=some (b[(i:Int).toNat]?.getD gJ);rw[show(i:Int).toNat=i by omega,gI hi];rfl
 | n+1,hn,i,hi=>by
  obtain⟨h1,h2,h3⟩:=Ic h;have hW:=h3 _ (List.getElem_mem (by omega:n<p.length));rw[Wm,Bool.and_eq_true,Bool.and_eq_true,decide_eq_true_iff,decide_eq_true_iff]at hW;have ih:=Nx h n (by omega) i hi;rw[Lh _ _ _ _ (by omega) (by omega),Ps (by omega:n<p.length),Dx];obtain⟨t1,t2⟩:=Sv hW.2.2;rw[cO _ _ t2,t1];by_cases he:p[n].1=(i:Int);·rw[if_pos he,show p[n].1.toNat=i by omega,List.getElem?_set_self (by rw[BM];exact hi)]
  ·rw[if_neg he,List.getElem?_set_ne (by omega)];exact ih
theorem Sp {b:List bA}{p:List Wr}(h:Rt b p=true)(i:Int)(h0:0<=i)(hi:i<b.length):(D7 (λ_=>255) b p p.length)[i.toNat]?=some (TellS b p i):=by have:=Nx h p.length (Nat.le_refl _) i.toNat (by omega);rw[List.take_of_length_le (Nat.le_refl _)]at this;rw[this,show((i.toNat:Nat):Int)=i by omega]
end Go.Proofs.YtegndijbpiccgaaGreatDoor.M
