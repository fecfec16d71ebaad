import Derived.Test.YtegndijbpiccgaaGreatDoorR5Pe
import Derived.Test.YtegndijbpiccgaaGreatDoorR5Po
namespace Go.Proofs.YtegndijbpiccgaaGreatDoor.M
set_option linter.unusedVariables false
set_option linter.unusedSimpArgs false
open Go Go.Mir
theorem dW {w:Wd}{i j:Nat}(h:Ff w i=some j):∀n,i<=n->Ff w n=some j:=by
 intro n hn
 induction hn with
 | refl=>exact h
 | step _ ih=>rw[Ff,ih]
structure Rdy (b:List bA) (p:List Wr) (f:Fnd) (block:Nat):Prop where
 fits:FitsP b p f
 chk:(ChkR f.wd [f.su.m]).2=0
 gen:f.wd.gen<1099511627776
 ff:firstFree (gave f.wd f.su.m)=some block
theorem Rdy.facts {b:List bA}{p:List Wr}{f:Fnd}{block:Nat}(r:Rdy b p f block):10<=block/\block<b.length/\suOK (nwSu f block)/\(AE f block).length=b.length:=by
 obtain⟨hr,hsu,hw,hz,hn,hs,hg,ht,hro⟩:=r.fits;obtain⟨_,h,P,B,htr,hm,hno⟩:=X3 r.chk;obtain⟨f1,f2,f3⟩:=DC r.ff;have hlen:(gave f.wd f.su.m).now.length=f.wd.now.length:=by simp[gave]
 rw[hlen]at f1;have hgen:=r.gen;have b10:10<=block:=Classical.byContradiction λhc=>by have:=(hw.1.2.2.2 block (by omega)).1;have h2:AY (gave f.wd f.su.m) block=true:=f2;unfold AY at h2;rw[show(gave f.wd f.su.m).base=f.wd.base from rfl,this]at h2;simp at h2
 refine⟨b10,by omega,?_,by rw[AE];simp[gave];omega⟩;have hrr:=hw.2.2.2.2.1;refine⟨by show 1<=f.wd.gen;exact hw.2.2.1,by show f.wd.gen<=_;omega,by show 24<=f.su.z;exact hsu.2.2.1,by show f.su.z<=2048;exact hsu.2.2.2.1,by show f.wd.root=0\/(10<=f.wd.root/\f.wd.root<f.su.z);omega,by show(10:Int)<=block;omega,by show(block:Int)<f.su.z;omega,?_⟩;show(block:Int)≠f.wd.root;rcases htr with⟨h0,_⟩|⟨_,_,_,htr,_⟩
 ·omega
 ·intro e;have hh:=htr.root_mem;have h2:=hno block f1;have hne:f.wd.root.toNat≠f.su.m.toNat:=by omega
  have h3:AY (gave f.wd f.su.m) block=true:=f2;unfold AY at h3;rw[Bool.and_eq_true]at h3;have h4:tr ((gave f.wd f.su.m).now) block=tr f.wd.now block:=by show tr (f.wd.now.set f.su.m.toNat false) block=_;rw[E7 (by omega),if_neg (by omega)]
  rw[h4,h2]at h3;simp[e,hh]at h3
theorem Bi {b:List bA}{p:List Wr}(h:Rt b p=true):Fits b p:=by obtain⟨h1,h2,h3⟩:=Ic h;refine⟨by omega,by omega,λs hs=>by have:=(Sv (h1 s hs)).2;omega,λx hx=>?_⟩;have:=h3 x hx;rw[Wm,Bool.and_eq_true,Bool.and_eq_true]at this;have:=(Sv this.2.2).2;omega
theorem oY {s:Pw}{c:Cl}(h:Rt s.b s.p=true):Rt (Gw s c).1.b (Gw s c).1.p=true:=by
 unfold Gw;split;·exact h
 ·split;·exact X7 h _ _
  ·rename_i h1;split;·exact h
   ·rename_i h2;split;·exact h
    ·rename_i h3;have hc:okC s.b c:=⟨by omega,by omega,by omega⟩
     exact Ib (b:=s.b) (p:=s.p) (l:=[c]) h (λx hx=>by rw[List.mem_singleton.1 hx];exact hc) (by simp;omega)
theorem W6 {s:Pw}{c:Cl}(h:(Gw s c).2≠0):(Gw s c).1=s:=by
 unfold Gw at h |-;split;·rfl
 ·rename_i h0;rw[if_neg h0]at h;split;·rename_i h1;rw[if_pos h1]at h;exact absurd rfl h
  ·rename_i h1;rw[if_neg h1]at h;split;·rfl
   ·rename_i h2;rw[if_neg h2]at h;split;·rfl
    ·rename_i h3;rw[if_neg h3]at h;exact absurd rfl h
theorem gB {l:Int}(h:Dj l):Dj (dn l):=by unfold dn Dj at *;split<;>omega
theorem jM {s:Pw}{c:Cl}(h:Dj s.left):Dj (Gw s c).1.left:=by
 unfold Gw;split;·exact h
 ·split;·exact gB h
  ·split;·exact h
   ·split;·exact h
    ·exact gB h
theorem YW (s:Pw)(c:Cl):AJ s [c]=Gw s c:=by
 rw[AJ];by_cases h:(Gw s c).2=0;·rw[if_neg (by simpa using h),AJ];exact Prod.ext rfl h.symm
 ·rw[if_pos h];exact Prod.ext (W6 h).symm rfl
theorem F1:∀(l:List Cl) {s:Pw},Rt s.b s.p=true->Rt (AJ s l).1.b (AJ s l).1.p=true
 | [],s,h=>h
 | c::r,s,h=>by
  rw[AJ];split;·exact h
  ·exact F1 r (oY h)
theorem Jg:∀(l:List Cl) {s:Pw},Dj s.left->Dj (AJ s l).1.left
 | [],s,h=>h
 | c::r,s,h=>by
  rw[AJ];split;·exact h
  ·exact Jg r (jM h)
theorem Ny (s:Pw)(l:List Cl)(c:Cl):AJ s (l++[c])=if (AJ s l).2≠0 then AJ s l else Gw (AJ s l).1 c:=by rw[K8,YW]
theorem Ol {s:Pw}{l:List Cl}{i:Int}{x:bA}(h:Rt s.b s.p=true)(h0:0<=i):ZN (AJ s l) i x=AJ s (l++[(i,x)]):=by
 rw[Ny,ZN];by_cases he:(AJ s l).2=0;·rw[if_pos he,if_neg (by simpa using he),qB (F1 l h) h0]
 ·rw[if_neg he,if_pos he]
theorem TP {s:Pw}{l:List Cl}(h:Rt s.b s.p=true):ZR (AJ s l)=AJ s (l++[(-1,empS)]):=by
 rw[Ny,ZR];by_cases he:(AJ s l).2=0;·rw[if_pos he,if_neg (by simpa using he),qU (F1 l h)]
 ·rw[if_neg he,if_pos he]
theorem NJ:∀(l:List Cl) (s:Pw),(∀c∈l,0<=c.1)->(AJ s l).1.b=s.b/\∃q:List Wr,(AJ s l).1.p=s.p++q/\∀w∈q,∃c∈l,w.1=c.1
 | [],s,_=>⟨rfl,[],by simp[AJ],λw h=>by cases h⟩
 | c::r,s,hc=>by
  rw[AJ];split;·exact⟨rfl,[],by simp,λw h=>by cases h⟩
  ·rename_i he;have he:(Gw s c).2=0:=by simpa using he
   have e:(Gw s c).1.b=s.b/\(Gw s c).1.p=s.p++[nwW c.1 c.2]:=by
    unfold Gw at he |-;split at he;·cases he
    ·rename_i h0;have h1:=hc c (by simp);rw[if_neg (by omega)]at he;rw[if_neg h0,if_neg (by omega)];split at he;·cases he
     ·rename_i h2;rw[if_neg h2];split at he;·cases he
      ·rename_i h3;rw[if_neg h3];exact⟨rfl,rfl⟩
   obtain⟨g1,q,g2,g3⟩:=NJ r (Gw s c).1 (λx hx=>hc x (by simp[hx]));refine⟨g1.trans e.1,nwW c.1 c.2::q,by rw[g2,e.2];simp,λw hw=>?_⟩;rcases List.mem_cons.1 hw with rfl|hw;·exact⟨c,by simp,rfl⟩
   ·obtain⟨x,hx,hxe⟩:=g3 w hw;exact⟨x,by simp[hx],hxe⟩
theorem Ud {b:List bA}{p:List Wr}{pages:List bA}{now:List Bool}{block:Nat}:∀ {n:Nat},n<=10->HA b p pages now block n=[]
 | 0,_=>rfl
 | n+1,h=>by rw[HA,if_neg (by omega),Ud (by omega)]
theorem Lq {w:Wd}{m:Int}(h:Ce w.base w.now)(hm:10<=m):Ce (gave w m).base (gave w m).now:=by
 obtain⟨h1,h2,h3,h4⟩:=h;refine⟨by show w.base.length=(w.now.set _ _).length;simp[h1],by show _<=(w.now.set _ _).length;simp;exact h2,by show(w.now.set _ _).length<=_;simp;exact h3,λj hj=>⟨(h4 j hj).1,?_⟩⟩;show tr (w.now.set m.toNat false) j=true;by_cases hx:m.toNat<w.now.length;·rw[E7 hx,if_neg (by omega)];exact(h4 j hj).2
 ·rw[List.set_eq_of_length_le (by omega)];exact(h4 j hj).2
def Ru (x:Pw×Fnd×Int):AV := .tup [EG x.1,Db x.2.1,aI x.2.2]
theorem Q6 {s:Pw}{f:Fnd}(hf:FitsP s.b s.p f)(hc:(ChkR f.wd [f.su.m]).2=0)(hg:f.wd.gen<1099511627776)(h:firstFree (gave f.wd f.su.m)=none):CommitR s f=(Tz,fd0,60):=by rw[CommitR,if_neg (by simpa using hf),if_neg (by simpa using hc),if_neg (by omega),h]
theorem Qm {s:Pw}{f:Fnd}{block:Nat}(r:Rdy s.b s.p f block):CommitR s f =
  if (AJ s (AX s.b s.p f block)).2=140 then ((AJ s (AX s.b s.p f block)).1,fd0,140)
  else if (AJ s (AX s.b s.p f block)).2≠0 then (Tz,fd0,(AJ s (AX s.b s.p f block)).2)
  else ((AJ s (AX s.b s.p f block)).1,nwFd f block,0):=by
 rw[CommitR,if_neg (by simpa using r.fits),if_neg (by simpa using r.chk),if_neg (by have:=r.gen;omega),r.ff]
theorem ACp (e:Int):Runs A5 58 [aI e] [] (.tup [.agg [aL [],.o (.sl 2 []),aI 0],.agg [aI 0,aI 0,aI 0,aI 0,aI 0,aL [],aL [],aL [],aI 0,aI 0,aL []],aI e]) []:=p58 e
theorem Zq {st:Pw}{i:Nat}(h:Rt st.b st.p=true)(hi:i<st.b.length):Rh st.b st.p i = .tup [aS (TellS st.b st.p i),aI 0]:=by
 have e:A6 st.b st.p i=0:=by rw[A6,if_neg (by rw[h];simp),if_neg (by omega)]
 rw[Rh,e,if_pos rfl]
theorem sH (s:Pw)(f:Fnd)(hfs:Fits s.b s.p)(hw:WFits f.wd)(hl:Dj s.left):Runs A5 24 [EG s,Db f] [] (Ru (CommitR s f)) []:=by
 have g1:=p26 s.b s.p f hfs hw;rw[CO,Db]at g1;refine An (c:=c24) rfl rfl ?_;rw[EG,Db,AGb,(ACT _ _ _ _ _ _ _ _ _ _ _ _ _ _ _).down];have bad:∀ {e:Int} {r:AV},Ru (Tz,fd0,e)=r->∃x1:LD,∃x2:LD,∃x3:Int,∃x4:Int,∃x5:Int,∃x6:Int,∃x7:Int,∃x8:Int,∃x9:LD,∃x10:LD,∃x11:LD,∃x12:Int,∃x13:Int,∃x14:LD,∃x15:Int,
     Runs A5 58 [aI e] [] (.tup [.agg [aL x1,.o (.sl 2 x2),aI x3],.agg [aI x4,aI x5,aI x6,aI x7,aI x8,aL x9,aL x10,aL x11,aI x12,aI x13,aL x14],aI x15]) [] /\
     (.tup [.agg [.o (.sl 1 x1),.o (.sl 2 x2),.n (.int .i64 x3)],.agg [.n (.int .i64 x4),.n (.int .i64 x5),.n (.int .i64 x6),.n (.int .i64 x7),.n (.int .i64 x8),.o (.sl 1 x9),.o (.sl 1 x10),.o (.sl 1 x11),.n (.int .i64 x12),.n (.int .i64 x13),.o (.sl 1 x14)],.n (.int .i64 x15)]:AV)=r:=λ{e r} h=>
   ⟨[],[],0,0,0,0,0,0,[],[],[],0,0,[],e,ACp e,h⟩
 refine⟨_,g1,Aa (λh=>bad ?_) (λh=>?_)⟩;·rw[CommitR,if_pos (by simpa using h)]
 have hf:FitsP s.b s.p f:=by simpa using h
 have g2:=((p44 f.wd hw [f.su.m] (by simp)).up DL).up Kf;rw[EA]at g2;refine⟨rfl,_,_,_,_,g2,Aa (λh=>bad ?_) (λh=>?_)⟩;·rw[CommitR,if_neg (by simpa using hf),if_pos (by simpa using h)]
 have hc:(ChkR f.wd [f.su.m]).2=0:=by simpa using h
 refine Ab (λh=>bad ?_) (λh=>?_);·rw[CommitR,if_neg (by simpa using hf),if_neg (by simpa using hc),if_pos h]
 have hg:f.wd.gen<1099511627776:=by omega
 obtain⟨hr,hsu,hwr,hz,hn,hs,hgn,ht,hro⟩:=id hf;have hm:=hsu.2.2.2.2.2;have hg1:=hwr.2.2.1;have g3:=(p59 f.wd.base f.wd.now hwr.1 f.su.m).up Kf;rw[if_neg (by rintro(h|h|h);omega;omega;rw[ht]at h;cases h),Kt,Kt]at g3;have g4:=(p34 (gave f.wd f.su.m) (Lq hwr.1 hm.1)).up Kf;refine⟨rfl,_,_,_,g3,Aa (λh=>by simp at h) (λ_=>?_)⟩
 cases hff:firstFree (gave f.wd f.su.m) with
 | none=> rw[hff]at g4;dsimp only at g4;rw[sN,Kt]at g4;refine⟨_,_,_,_,g4,Aa (λ_=>bad ?_) (λh=>by simp at h)⟩;rw[Q6 hf hc hg hff]
 | some block=>
  rw[hff]at g4;dsimp only at g4;rw[Kt,Kt]at g4;have rd:Rdy s.b s.p f block:=⟨hf,hc,hg,hff⟩
  obtain⟨k1,k2,k3,k4⟩:=rd.facts;have en:(gave f.wd f.su.m).now.set block true=AE f block:=rfl;rw[en]at g4;have hpl:f.wd.pages.length=f.wd.now.length:=hwr.2.1;have hn48:=hwr.1.2.2.1;have g5:=p37 (AE f block) (by omega);have g6:=(((p36 3 f.wd.gen (packS (AE f block))).up E4).up DL).up Kf;rw[L5,if_pos (Ky (by omega) (by omega) (by omega)),pg]at g6;have g7:=(((p38 (nwSu f block)).up E4).up DL).up Kf;rw[Q3,if_pos k3,Vz]at g7;refine⟨_,_,_,_,g4,Aa (λh=>by simp at h) (λ_=>⟨_,g5,_,_,g6,Aa (λh=>by simp at h) (λ_=>⟨_,_,g7,Aa (λh=>by simp at h) (λ_=>?_)⟩)⟩)⟩;rw[AH,k4];refine⟨λk x=>∃n:Nat,k=n/\10<=n/\n<=s.b.length/\x=(bk (AJ s (HA s.b s.p f.wd.pages (AE f block) block n)).1.b,pk (AJ s (HA s.b s.p f.wd.pages (AE f block) block n)).1.p,(AJ s (HA s.b s.p f.wd.pages (AE f block) block n)).1.left,(AJ s (HA s.b s.p f.wd.pages (AE f block) block n)).2,()),λk _=>(s.b.length-k).toNat,⟨rfl,10,rfl,by omega,by omega,by rw[Ud (by omega)];rfl⟩,?_⟩;rintro _ _ ⟨n,rfl,h10,hnn,rfl⟩ _;have e1:w6 ((n:Int)+1)=((n+1:Nat):Int):=by rw[Ad _ (by omega)];omega
  have hrt:=F1 (HA s.b s.p f.wd.pages (AE f block) block n) hr;have hin:=Jg (HA s.b s.p f.wd.pages (AE f block) block n) hl;obtain⟨hb1,q,hq1,hq2⟩:=NJ (HA s.b s.p f.wd.pages (AE f block) block n) s (λc hc=>by obtain⟨i,_,rfl,_⟩:=KK hc;show(0:Int)<=(i:Int);omega);refine Ab (λhlt=>?_) (λhge=>?_)
  ·have hi:n<(AE f block).length:=by omega
   have hpg:(AG f.wd.pages)[(n:Int).toNat]?=some (.str (blk f.wd.pages n)):=LR (b:=f.wd.pages) (by omega) (by omega);have hps:((blk f.wd.pages n).size:Int)<=9223372036854775807:=by
    rcases KF (l:=f.wd.pages) (i:=(n:Int)) with h|h;·have:=hwr.2.2.2.2.2 _ h;omega
    ·rw[h];decide
   have gr:=Vy AFH (AJ s (HA s.b s.p f.wd.pages (AE f block) block n)).1.b (AJ s (HA s.b s.p f.wd.pages (AE f block) block n)).1.p n (Bi hrt);rw[Zq hrt (by rw[hb1];omega),CO]at gr;have et:TellS (AJ s (HA s.b s.p f.wd.pages (AE f block) block n)).1.b (AJ s (HA s.b s.p f.wd.pages (AE f block) block n)).1.p n=TellS s.b s.p n:=by rw[hb1,hq1,FK];intro w hw;obtain⟨c,hc,hce⟩:=hq2 w hw;obtain⟨i,hi,rfl,_⟩:=KK hc;rw[hce];show((i:Nat):Int)≠n;omega
   rw[et]at gr;refine⟨_,_,gr,rfl,by omega,_,Cg (i:=(n:Int).toNat) (by omega),_,rfl,?_⟩;have en2:(AE f block)[(n:Int).toNat]=tr (AE f block) n:=by rw[DN hi];rfl
   have stay:¬(10<=n/\tr (AE f block) n=true/\n≠block/\blk f.wd.pages n≠TellS s.b s.p n)->HA s.b s.p f.wd.pages (AE f block) block (n+1)=HA s.b s.p f.wd.pages (AE f block) block n:=λh=>by rw[HA,if_neg h]
   rw[en2,e1];refine Aa (λht=>Aa (λhb=>?_) (λhb=>?_)) (λht=>?_)
   ·have hb:n≠block:=λe=>by rw[e]at hb;simp at hb
    refine⟨rfl,by omega,_,hpg,_,rfl,GQ (λhx=>?_) (λhx=>?_)⟩
    ·have gs:=p61 (AJ s (HA s.b s.p f.wd.pages (AE f block) block n)) n (blk f.wd.pages n) (Bi hrt) hps hin;rw[MI,MI]at gs;have ew:HA s.b s.p f.wd.pages (AE f block) block (n+1)=HA s.b s.p f.wd.pages (AE f block) block n++[((n:Int),blk f.wd.pages n)]:=by rw[HA,if_pos ⟨h10,ht,hb,hx⟩]
     refine⟨rfl,by omega,_,hpg,_,rfl,_,_,_,_,gs,?_⟩;repeat (refine And.intro rfl ?_)
     refine⟨⟨n+1,rfl,by omega,by omega,?_⟩,by first|omega|(dsimp only;omega)⟩;rw[ew,<-Ol hr (by omega)]
    ·repeat (refine And.intro rfl ?_)
     exact⟨⟨n+1,rfl,by omega,by omega,by rw[stay (λh=>h.2.2.2 hx)]⟩,by first|omega|(dsimp only;omega)⟩
   ·have hb:(n:Int)=block:=by simpa using hb
    have hb:n=block:=by omega
    repeat (refine And.intro rfl ?_)
    exact⟨⟨n+1,rfl,by omega,by omega,by rw[stay (λh=>h.2.2.1 hb)]⟩,by first|omega|(dsimp only;omega)⟩
   ·repeat (refine And.intro rfl ?_)
    exact⟨⟨n+1,rfl,by omega,by omega,by rw[stay (λh=>by rw[ht]at h;exact absurd h.2.1 (by simp))]⟩,by first|omega|(dsimp only;omega)⟩
  ·obtain rfl:n=s.b.length:=by omega
   rw[Ad (1-f.slot) (by omega),Ad (f.wd.gen+1) (by omega)];generalize hW:HA s.b s.p f.wd.pages (AE f block) block s.b.length=W at hrt hin;have eC:AX s.b s.p f block=(((W++[((block:Int),Cz f.wd.gen (AE f block))])++[(-1,empS)])++[(1-f.slot,SuS (nwSu f block))])++[(-1,empS)]:=by rw[AX,k4,hW];simp
   have hms:=Hy (g:=f.wd.gen) (now:=AE f block) (by omega) (by omega) (by omega);have hss:=FO (nwSu f block);have s1:=p61 (AJ s W) block (Cz f.wd.gen (AE f block)) (Bi hrt) (by omega) hin;rw[Ol hr (by omega),MI,MI]at s1;have r1:=F1 (W++[((block:Int),Cz f.wd.gen (AE f block))]) hr;have i1:=Jg (W++[((block:Int),Cz f.wd.gen (AE f block))]) hl;have s2:=p62 (AJ s (W++[((block:Int),Cz f.wd.gen (AE f block))])) (Bi r1) i1;rw[TP hr,MI,MI]at s2;have r2:=F1 ((W++[((block:Int),Cz f.wd.gen (AE f block))])++[(-1,empS)]) hr;have i2:=Jg ((W++[((block:Int),Cz f.wd.gen (AE f block))])++[(-1,empS)]) hl;have s3:=p61 (AJ s ((W++[((block:Int),Cz f.wd.gen (AE f block))])++[(-1,empS)])) (1-f.slot) (SuS (nwSu f block)) (Bi r2) (by omega) i2;rw[Ol hr (by omega),MI,MI]at s3;have r3:=F1 (((W++[((block:Int),Cz f.wd.gen (AE f block))])++[(-1,empS)])++[(1-f.slot,SuS (nwSu f block))]) hr;have i3:=Jg (((W++[((block:Int),Cz f.wd.gen (AE f block))])++[(-1,empS)])++[(1-f.slot,SuS (nwSu f block))]) hl;have s4:=p62 (AJ s (((W++[((block:Int),Cz f.wd.gen (AE f block))])++[(-1,empS)])++[(1-f.slot,SuS (nwSu f block))])) (Bi r3) i3;rw[TP hr,<-eC,MI,MI]at s4;have hcm:=Qm rd;refine⟨_,_,_,_,s1,_,_,_,_,s2,_,_,_,_,s3,_,_,_,_,s4,Aa (λh=>?_) (λh=>Aa (λh2=>bad ?_) (λh2=>?_))⟩
   ·have h:(AJ s (AX s.b s.p f block)).2=140:=by simpa using h
    rw[hcm,if_pos h];rfl
   ·have h:(AJ s (AX s.b s.p f block)).2≠140:=by simpa using h
    have h2:(AJ s (AX s.b s.p f block)).2≠0:=by simpa using h2
    rw[hcm,if_neg h,if_pos h2]
   ·have h2:(AJ s (AX s.b s.p f block)).2=0:=by simpa using h2
    rw[hcm,if_neg (by rw[h2];decide),if_neg (by simpa using h2)];have har:Ce (gave f.wd f.su.m).base (AE f block):=by
     obtain⟨a1,a2,a3,a4⟩:=Lq hwr.1 hm.1;have hgl:(gave f.wd f.su.m).now.length=f.wd.now.length:=by simp[gave]
     refine⟨by rw[k4];show f.wd.base.length=_;have:=hwr.1.1;omega,by omega,by omega,λj hj=>⟨(a4 j hj).1,?_⟩⟩;rw[AE,E7 (by simp[gave];omega),if_neg (by omega)];exact(a4 j hj).2
    have ga:=R1 AHo (gave f.wd f.su.m).base (AE f block) (by have:=har.1;have:=har.2.2.1;unfold Small;omega) (by have:=har.2.2.1;unfold Small;omega);rw[Rm,if_pos (aRB_iff.2 har),Kt]at ga;have hsl:(AG f.wd.pages).length=f.wd.pages.length:=by simp[AG]
    refine⟨.inl rfl,⟨⟨rfl,rfl⟩,rfl⟩,by rw[hsl];omega,⟨rfl,rfl⟩,by omega,by rw[List.nil_append,hsl];omega,⟨⟨⟨rfl,rfl⟩,rfl⟩,rfl⟩,by rw[List.nil_append,hsl,Int.toNat_natCast];omega,_,_,_,ga,rfl,?_⟩;rw[List.nil_append,Int.toNat_natCast,Fe];rfl
end Go.Proofs.YtegndijbpiccgaaGreatDoor.M
