import Derived.Test.YtjmpnbbeplgchabGreatDoorR6Pe
import Derived.Test.YtjmpnbbeplgchabGreatDoorR6Pn
namespace Go.Proofs.YtjmpnbbeplgchabGreatDoor.M
set_option linter.unusedVariables false
set_option linter.unusedSimpArgs false
open Go Go.Mir
theorem gL {w:Wd}{i j:Nat}(h:DU w i=some j):∀n,i<=n->DU w n=some j:=by
 intro n hn
 induction hn with
 | refl=>exact h
 | step _ ih=>rw[DU,ih]
structure Rdy (b:List bA) (p:List Wr) (f:Fnd) (block:Nat):Prop where
 fits:FitsP b p f
 chk:(ChkR f.wd [f.su.m]).2=0
 gen:f.wd.gen<1099511627776
 ff:firstFree (gave f.wd f.su.m)=some block
theorem Rdy.facts {b:List bA}{p:List Wr}{f:Fnd}{block:Nat}(r:Rdy b p f block):10<=block/\block<b.length/\suOK (nwSu f block)/\(nowC f block).length=b.length:=by
 obtain⟨hr,hsu,hw,hz,hn,hs,hg,ht,hro⟩:=r.fits;obtain⟨_,h,P,B,htr,hm,hno⟩:=IS r.chk;obtain⟨f1,f2,f3⟩:=DE r.ff;have hlen:(gave f.wd f.su.m).now.length=f.wd.now.length:=by simp[gave]
 rw[hlen]at f1;have hgen:=r.gen;have b10:10<=block:=Classical.byContradiction λhc=>by have:=(hw.1.2.2.2 block (by omega)).1;have h2:AJ (gave f.wd f.su.m) block=true:=f2;unfold AJ at h2;rw[show(gave f.wd f.su.m).base=f.wd.base from rfl,this]at h2;simp at h2
 refine⟨b10,by omega,?_,by rw[nowC];simp[gave];omega⟩;have hrr:=hw.2.2.2.2.1;refine⟨by show 1<=f.wd.gen;exact hw.2.2.1,by show f.wd.gen<=_;omega,by show 24<=f.su.z;exact hsu.2.2.1,by show f.su.z<=2048;exact hsu.2.2.2.1,by show f.wd.root=0\/(10<=f.wd.root/\f.wd.root<f.su.z);omega,by show(10:Int)<=block;omega,by show(block:Int)<f.su.z;omega,?_⟩;show(block:Int)≠f.wd.root;rcases htr with⟨h0,_⟩|⟨_,_,_,htr,_⟩
 ·omega
 ·intro e;have hh:=htr.root_mem;have h2:=hno block f1;have hne:f.wd.root.toNat≠f.su.m.toNat:=by omega
  have h3:AJ (gave f.wd f.su.m) block=true:=f2;unfold AJ at h3;rw[Bool.and_eq_true]at h3;have h4:tr ((gave f.wd f.su.m).now) block=tr f.wd.now block:=by show tr (f.wd.now.set f.su.m.toNat false) block=_;rw[DW (by omega),if_neg (by omega)]
  rw[h4,h2]at h3;simp[e,hh]at h3
theorem Bn {b:List bA}{p:List Wr}(h:Rt b p=true):Fits b p:=by obtain⟨h1,h2,h3⟩:=GS h;refine⟨by omega,by omega,λs hs=>by have:=(RS (h1 s hs)).2;omega,λx hx=>?_⟩;have:=h3 x hx;rw[Wm,Bool.and_eq_true,Bool.and_eq_true]at this;have:=(RS this.2.2).2;omega
theorem mI {s:Pw}{c:Cl}(h:Rt s.b s.p=true):Rt (Ge s c).1.b (Ge s c).1.p=true:=by
 unfold Ge;split;·exact h
 ·split;·exact Rk h _ _
  ·rename_i h1;split;·exact h
   ·rename_i h2;split;·exact h
    ·rename_i h3;have hc:okC s.b c:=⟨by omega,by omega,by omega⟩
     exact OI (b:=s.b) (p:=s.p) (l:=[c]) h (λx hx=>by rw[List.mem_singleton.1 hx];exact hc) (by simp;omega)
theorem ZT {s:Pw}{c:Cl}(h:(Ge s c).2≠0):(Ge s c).1=s:=by
 unfold Ge at h |-;split;·rfl
 ·rename_i h0;rw[if_neg h0]at h;split;·rename_i h1;rw[if_pos h1]at h;exact absurd rfl h
  ·rename_i h1;rw[if_neg h1]at h;split;·rfl
   ·rename_i h2;rw[if_neg h2]at h;split;·rfl
    ·rename_i h3;rw[if_neg h3]at h;exact absurd rfl h
theorem iP {l:Int}(h:Br l):Br (dn l):=by unfold dn Br at *;split<;>omega
theorem kO {s:Pw}{c:Cl}(h:Br s.left):Br (Ge s c).1.left:=by
 unfold Ge;split;·exact h
 ·split;·exact iP h
  ·split;·exact h
   ·split;·exact h
    ·exact iP h
theorem Xj (s:Pw)(c:Cl):AL s [c]=Ge s c:=by
 rw[AL];by_cases h:(Ge s c).2=0;·rw[if_neg (by simpa using h),AL];exact Prod.ext rfl h.symm
 ·rw[if_pos h];exact Prod.ext (ZT h).symm rfl
theorem DF:∀(l:List Cl) {s:Pw},Rt s.b s.p=true->Rt (AL s l).1.b (AL s l).1.p=true
 | [],s,h=>h
 | c::r,s,h=>by
  rw[AL];split;·exact h
  ·exact DF r (mI h)
theorem Hp:∀(l:List Cl) {s:Pw},Br s.left->Br (AL s l).1.left
 | [],s,h=>h
 | c::r,s,h=>by
  rw[AL];split;·exact h
  ·exact Hp r (kO h)
theorem NI (s:Pw)(l:List Cl)(c:Cl):AL s (l++[c])=if (AL s l).2≠0 then AL s l else Ge (AL s l).1 c:=by rw[Mr,Xj]
theorem O9 {s:Pw}{l:List Cl}{i:Int}{x:bA}(h:Rt s.b s.p=true)(h0:0<=i):Z5 (AL s l) i x=AL s (l++[(i,x)]):=by
 rw[NI,Z5];by_cases he:(AL s l).2=0;·rw[if_pos he,if_neg (by simpa using he),tM (DF l h) h0]
 ·rw[if_neg he,if_pos he]
theorem Uu {s:Pw}{l:List Cl}(h:Rt s.b s.p=true):Z7 (AL s l)=AL s (l++[(-1,Ar)]):=by
 rw[NI,Z7];by_cases he:(AL s l).2=0;·rw[if_pos he,if_neg (by simpa using he),sG (DF l h)]
 ·rw[if_neg he,if_pos he]
theorem Nt:∀(l:List Cl) (s:Pw),(∀c∈l,0<=c.1)->(AL s l).1.b=s.b/\∃q:List Wr,(AL s l).1.p=s.p++q/\∀w∈q,∃c∈l,w.1=c.1
 | [],s,_=>⟨rfl,[],by simp[AL],λw h=>by cases h⟩
 | c::r,s,hc=>by
  rw[AL];split;·exact⟨rfl,[],by simp,λw h=>by cases h⟩
  ·rename_i he;have he:(Ge s c).2=0:=by simpa using he
   have e:(Ge s c).1.b=s.b/\(Ge s c).1.p=s.p++[nwW c.1 c.2]:=by
    unfold Ge at he |-;split at he;·cases he
    ·rename_i h0;have h1:=hc c (by simp);rw[if_neg (by omega)]at he;rw[if_neg h0,if_neg (by omega)];split at he;·cases he
     ·rename_i h2;rw[if_neg h2];split at he;·cases he
      ·rename_i h3;rw[if_neg h3];exact⟨rfl,rfl⟩
   obtain⟨g1,q,g2,g3⟩:=Nt r (Ge s c).1 (λx hx=>hc x (by simp[hx]));refine⟨g1.trans e.1,nwW c.1 c.2::q,by rw[g2,e.2];simp,λw hw=>?_⟩;rcases List.mem_cons.1 hw with rfl|hw;·exact⟨c,by simp,rfl⟩
   ·obtain⟨x,hx,hxe⟩:=g3 w hw;exact⟨x,by simp[hx],hxe⟩
theorem Td {b:List bA}{p:List Wr}{pages:List bA}{now:List Bool}{block:Nat}:∀ {n:Nat},n<=10->Hv b p pages now block n=[]
 | 0,_=>rfl
 | n+1,h=>by rw[Hv,if_neg (by omega),Td (by omega)]
theorem Lb {w:Wd}{m:Int}(h:BJ w.base w.now)(hm:10<=m):BJ (gave w m).base (gave w m).now:=by
 obtain⟨h1,h2,h3,h4⟩:=h;refine⟨by show w.base.length=(w.now.set _ _).length;simp[h1],by show _<=(w.now.set _ _).length;simp;exact h2,by show(w.now.set _ _).length<=_;simp;exact h3,λj hj=>⟨(h4 j hj).1,?_⟩⟩;show tr (w.now.set m.toNat false) j=true;by_cases hx:m.toNat<w.now.length;·rw[DW hx,if_neg (by omega)];exact(h4 j hj).2
 ·rw[List.set_eq_of_length_le (by omega)];exact(h4 j hj).2
def cmV (x:Pw×Fnd×Int):AV := .tup [Cu x.1,FB x.2.1,aI x.2.2]
theorem P0 {s:Pw}{f:Fnd}(hf:FitsP s.b s.p f)(hc:(ChkR f.wd [f.su.m]).2=0)(hg:f.wd.gen<1099511627776)(h:firstFree (gave f.wd f.su.m)=none):CommitR s f=(pw0,fd0,60):=by rw[CommitR,if_neg (by simpa using hf),if_neg (by simpa using hc),if_neg (by omega),h]
theorem Rn {s:Pw}{f:Fnd}{block:Nat}(r:Rdy s.b s.p f block):CommitR s f =
  if (AL s (A2 s.b s.p f block)).2=140 then ((AL s (A2 s.b s.p f block)).1,fd0,140)
  else if (AL s (A2 s.b s.p f block)).2≠0 then (pw0,fd0,(AL s (A2 s.b s.p f block)).2)
  else ((AL s (A2 s.b s.p f block)).1,nwFd f block,0):=by
 rw[CommitR,if_neg (by simpa using r.fits),if_neg (by simpa using r.chk),if_neg (by have:=r.gen;omega),r.ff]
theorem AIx (e:Int):Runs A8 91 [aI e] [] (.tup [.agg [aL [],.o (.sl 2 []),aI 0],.agg [aI 0,aI 0,aI 0,aI 0,aI 0,aL [],aL [],aL [],aI 0,aI 0,aL []],aI e]) []:=p91 e
theorem Yq {st:Pw}{i:Nat}(h:Rt st.b st.p=true)(hi:i<st.b.length):PU st.b st.p i = .tup [aS (BD st.b st.p i),aI 0]:=by
 have e:A7 st.b st.p i=0:=by rw[A7,if_neg (by rw[h];simp),if_neg (by omega)]
 rw[PU,e,if_pos rfl]
theorem p50 (s:Pw)(f:Fnd)(hfs:Fits s.b s.p)(hw:WFits f.wd)(hl:Br s.left):Runs A8 50 [Cu s,FB f] [] (cmV (CommitR s f)) []:=by
 have g1:=p59 s.b s.p f hfs hw;rw[CK,FB]at g1;refine Ag (c:=c50) rfl rfl ?_;rw[Cu,FB,AHc,(AGk _ _ _ _ _ _ _ _ _ _ _ _ _ _ _).down];have bad:∀ {e:Int} {r:AV},cmV (pw0,fd0,e)=r->∃x1:LD,∃x2:LD,∃x3:Int,∃x4:Int,∃x5:Int,∃x6:Int,∃x7:Int,∃x8:Int,∃x9:LD,∃x10:LD,∃x11:LD,∃x12:Int,∃x13:Int,∃x14:LD,∃x15:Int,
     Runs A8 91 [aI e] [] (.tup [.agg [aL x1,.o (.sl 2 x2),aI x3],.agg [aI x4,aI x5,aI x6,aI x7,aI x8,aL x9,aL x10,aL x11,aI x12,aI x13,aL x14],aI x15]) [] /\
     (.tup [.agg [.o (.sl 1 x1),.o (.sl 2 x2),.n (.int .i64 x3)],.agg [.n (.int .i64 x4),.n (.int .i64 x5),.n (.int .i64 x6),.n (.int .i64 x7),.n (.int .i64 x8),.o (.sl 1 x9),.o (.sl 1 x10),.o (.sl 1 x11),.n (.int .i64 x12),.n (.int .i64 x13),.o (.sl 1 x14)],.n (.int .i64 x15)]:AV)=r:=λ{e r} h=>
   ⟨[],[],0,0,0,0,0,0,[],[],[],0,0,[],e,AIx e,h⟩
 refine⟨_,g1,Aa (λh=>bad ?_) (λh=>?_)⟩;·rw[CommitR,if_pos (by simpa using h)]
 have hf:FitsP s.b s.p f:=by simpa using h
 have g2:=((p37 f.wd hw [f.su.m] (by simp)).up C5).up Gu;rw[Dp]at g2;refine⟨rfl,_,_,_,_,g2,Aa (λh=>bad ?_) (λh=>?_)⟩;·rw[CommitR,if_neg (by simpa using hf),if_pos (by simpa using h)]
 have hc:(ChkR f.wd [f.su.m]).2=0:=by simpa using h
 refine Ab (λh=>bad ?_) (λh=>?_);·rw[CommitR,if_neg (by simpa using hf),if_neg (by simpa using hc),if_pos h]
 have hg:f.wd.gen<1099511627776:=by omega
 obtain⟨hr,hsu,hwr,hz,hn,hs,hgn,ht,hro⟩:=id hf;have hm:=hsu.2.2.2.2.2;have hg1:=hwr.2.2.1;have g3:=(p92 f.wd.base f.wd.now hwr.1 f.su.m).up Gu;rw[if_neg (by rintro(h|h|h);omega;omega;rw[ht]at h;cases h),G1,G1]at g3;have g4:=(p54 (gave f.wd f.su.m) (Lb hwr.1 hm.1)).up Gu;refine⟨rfl,_,_,_,g3,Aa (λh=>by simp at h) (λ_=>?_)⟩
 cases hff:firstFree (gave f.wd f.su.m) with
 | none=> rw[hff]at g4;dsimp only at g4;rw[uL,G1]at g4;refine⟨_,_,_,_,g4,Aa (λ_=>bad ?_) (λh=>by simp at h)⟩;rw[P0 hf hc hg hff]
 | some block=>
  rw[hff]at g4;dsimp only at g4;rw[G1,G1]at g4;have rd:Rdy s.b s.p f block:=⟨hf,hc,hg,hff⟩
  obtain⟨k1,k2,k3,k4⟩:=rd.facts;have en:(gave f.wd f.su.m).now.set block true=nowC f block:=rfl;rw[en]at g4;have hpl:f.wd.pages.length=f.wd.now.length:=hwr.2.1;have hn48:=hwr.1.2.2.1;have g5:=p57 (nowC f block) (by omega);have g6:=(((p56 3 f.wd.gen (packS (nowC f block))).up Ea).up C5).up Gu;rw[J8,if_pos (KM (by omega) (by omega) (by omega)),pg]at g6;have g7:=(((p58 (nwSu f block)).up Ea).up C5).up Gu;rw[PC,if_pos k3,UO]at g7;refine⟨_,_,_,_,g4,Aa (λh=>by simp at h) (λ_=>⟨_,g5,_,_,g6,Aa (λh=>by simp at h) (λ_=>⟨_,_,g7,Aa (λh=>by simp at h) (λ_=>?_)⟩)⟩)⟩;rw[AI,k4];refine⟨λk x=>∃n:Nat,k=n/\10<=n/\n<=s.b.length/\x=(bk (AL s (Hv s.b s.p f.wd.pages (nowC f block) block n)).1.b,pk (AL s (Hv s.b s.p f.wd.pages (nowC f block) block n)).1.p,(AL s (Hv s.b s.p f.wd.pages (nowC f block) block n)).1.left,(AL s (Hv s.b s.p f.wd.pages (nowC f block) block n)).2,()),λk _=>(s.b.length-k).toNat,⟨rfl,10,rfl,by omega,by omega,by rw[Td (by omega)];rfl⟩,?_⟩;rintro _ _ ⟨n,rfl,h10,hnn,rfl⟩ _;have e1:wI ((n:Int)+1)=((n+1:Nat):Int):=by rw[Ac _ (by omega)];omega
  have hrt:=DF (Hv s.b s.p f.wd.pages (nowC f block) block n) hr;have hin:=Hp (Hv s.b s.p f.wd.pages (nowC f block) block n) hl;obtain⟨hb1,q,hq1,hq2⟩:=Nt (Hv s.b s.p f.wd.pages (nowC f block) block n) s (λc hc=>by obtain⟨i,_,rfl,_⟩:=KA hc;show(0:Int)<=(i:Int);omega);refine Ab (λhlt=>?_) (λhge=>?_)
  ·have hi:n<(nowC f block).length:=by omega
   have hpg:(AK f.wd.pages)[(n:Int).toNat]?=some (.str (blk f.wd.pages n)):=KW (b:=f.wd.pages) (by omega) (by omega);have hps:((blk f.wd.pages n).size:Int)<=9223372036854775807:=by
    rcases On (l:=f.wd.pages) (i:=(n:Int)) with h|h;·have:=hwr.2.2.2.2.2 _ h;omega
    ·rw[h];decide
   have gr:=Vh AIy (AL s (Hv s.b s.p f.wd.pages (nowC f block) block n)).1.b (AL s (Hv s.b s.p f.wd.pages (nowC f block) block n)).1.p n (Bn hrt);rw[Yq hrt (by rw[hb1];omega),CK]at gr;have et:BD (AL s (Hv s.b s.p f.wd.pages (nowC f block) block n)).1.b (AL s (Hv s.b s.p f.wd.pages (nowC f block) block n)).1.p n=BD s.b s.p n:=by rw[hb1,hq1,NC];intro w hw;obtain⟨c,hc,hce⟩:=hq2 w hw;obtain⟨i,hi,rfl,_⟩:=KA hc;rw[hce];show((i:Nat):Int)≠n;omega
   rw[et]at gr;refine⟨_,_,gr,rfl,by omega,_,BU (i:=(n:Int).toNat) (by omega),_,rfl,?_⟩;have en2:(nowC f block)[(n:Int).toNat]=tr (nowC f block) n:=by rw[Dl hi];rfl
   have stay:¬(10<=n/\tr (nowC f block) n=true/\n≠block/\blk f.wd.pages n≠BD s.b s.p n)->Hv s.b s.p f.wd.pages (nowC f block) block (n+1)=Hv s.b s.p f.wd.pages (nowC f block) block n:=λh=>by rw[Hv,if_neg h]
   rw[en2,e1];refine Aa (λht=>Aa (λhb=>?_) (λhb=>?_)) (λht=>?_)
   ·have hb:n≠block:=λe=>by rw[e]at hb;simp at hb
    refine⟨rfl,by omega,_,hpg,_,rfl,GL (λhx=>?_) (λhx=>?_)⟩
    ·have gs:=p94 (AL s (Hv s.b s.p f.wd.pages (nowC f block) block n)) n (blk f.wd.pages n) (Bn hrt) hps hin;rw[ME,ME]at gs;have ew:Hv s.b s.p f.wd.pages (nowC f block) block (n+1)=Hv s.b s.p f.wd.pages (nowC f block) block n++[((n:Int),blk f.wd.pages n)]:=by rw[Hv,if_pos ⟨h10,ht,hb,hx⟩]
     refine⟨rfl,by omega,_,hpg,_,rfl,_,_,_,_,gs,?_⟩;repeat (refine And.intro rfl ?_)
     refine⟨⟨n+1,rfl,by omega,by omega,?_⟩,by first|omega|(dsimp only;omega)⟩;rw[ew,<-O9 hr (by omega)]
    ·repeat (refine And.intro rfl ?_)
     exact⟨⟨n+1,rfl,by omega,by omega,by rw[stay (λh=>h.2.2.2 hx)]⟩,by first|omega|(dsimp only;omega)⟩
   ·have hb:(n:Int)=block:=by simpa using hb
    have hb:n=block:=by omega
    repeat (refine And.intro rfl ?_)
    exact⟨⟨n+1,rfl,by omega,by omega,by rw[stay (λh=>h.2.2.1 hb)]⟩,by first|omega|(dsimp only;omega)⟩
   ·repeat (refine And.intro rfl ?_)
    exact⟨⟨n+1,rfl,by omega,by omega,by rw[stay (λh=>by rw[ht]at h;exact absurd h.2.1 (by simp))]⟩,by first|omega|(dsimp only;omega)⟩
  ·obtain rfl:n=s.b.length:=by omega
   rw[Ac (1-f.slot) (by omega),Ac (f.wd.gen+1) (by omega)];generalize hW:Hv s.b s.p f.wd.pages (nowC f block) block s.b.length=W at hrt hin;have eC:A2 s.b s.p f block=(((W++[((block:Int),mapP f.wd.gen (nowC f block))])++[(-1,Ar)])++[(1-f.slot,SuS (nwSu f block))])++[(-1,Ar)]:=by rw[A2,k4,hW];simp
   have hms:=Fz (g:=f.wd.gen) (now:=nowC f block) (by omega) (by omega) (by omega);have hss:=GX (nwSu f block);have s1:=p94 (AL s W) block (mapP f.wd.gen (nowC f block)) (Bn hrt) (by omega) hin;rw[O9 hr (by omega),ME,ME]at s1;have r1:=DF (W++[((block:Int),mapP f.wd.gen (nowC f block))]) hr;have i1:=Hp (W++[((block:Int),mapP f.wd.gen (nowC f block))]) hl;have s2:=p95 (AL s (W++[((block:Int),mapP f.wd.gen (nowC f block))])) (Bn r1) i1;rw[Uu hr,ME,ME]at s2;have r2:=DF ((W++[((block:Int),mapP f.wd.gen (nowC f block))])++[(-1,Ar)]) hr;have i2:=Hp ((W++[((block:Int),mapP f.wd.gen (nowC f block))])++[(-1,Ar)]) hl;have s3:=p94 (AL s ((W++[((block:Int),mapP f.wd.gen (nowC f block))])++[(-1,Ar)])) (1-f.slot) (SuS (nwSu f block)) (Bn r2) (by omega) i2;rw[O9 hr (by omega),ME,ME]at s3;have r3:=DF (((W++[((block:Int),mapP f.wd.gen (nowC f block))])++[(-1,Ar)])++[(1-f.slot,SuS (nwSu f block))]) hr;have i3:=Hp (((W++[((block:Int),mapP f.wd.gen (nowC f block))])++[(-1,Ar)])++[(1-f.slot,SuS (nwSu f block))]) hl;have s4:=p95 (AL s (((W++[((block:Int),mapP f.wd.gen (nowC f block))])++[(-1,Ar)])++[(1-f.slot,SuS (nwSu f block))])) (Bn r3) i3;rw[Uu hr,<-eC,ME,ME]at s4;have hcm:=Rn rd;refine⟨_,_,_,_,s1,_,_,_,_,s2,_,_,_,_,s3,_,_,_,_,s4,Aa (λh=>?_) (λh=>Aa (λh2=>bad ?_) (λh2=>?_))⟩
   ·have h:(AL s (A2 s.b s.p f block)).2=140:=by simpa using h
    rw[hcm,if_pos h];rfl
   ·have h:(AL s (A2 s.b s.p f block)).2≠140:=by simpa using h
    have h2:(AL s (A2 s.b s.p f block)).2≠0:=by simpa using h2
    rw[hcm,if_neg h,if_pos h2]
   ·have h2:(AL s (A2 s.b s.p f block)).2=0:=by simpa using h2
    rw[hcm,if_neg (by rw[h2];decide),if_neg (by simpa using h2)];have har:BJ (gave f.wd f.su.m).base (nowC f block):=by
     obtain⟨a1,a2,a3,a4⟩:=Lb hwr.1 hm.1;have hgl:(gave f.wd f.su.m).now.length=f.wd.now.length:=by simp[gave]
     refine⟨by rw[k4];show f.wd.base.length=_;have:=hwr.1.1;omega,by omega,by omega,λj hj=>⟨(a4 j hj).1,?_⟩⟩;rw[nowC,DW (by simp[gave];omega),if_neg (by omega)];exact(a4 j hj).2
    have ga:=SV AEF (gave f.wd f.su.m).base (nowC f block) (by have:=har.1;have:=har.2.2.1;unfold Small;omega) (by have:=har.2.2.1;unfold Small;omega);rw[QN,if_pos (aRB_iff.2 har),G1]at ga;have hsl:(AK f.wd.pages).length=f.wd.pages.length:=by simp[AK]
    refine⟨.inl rfl,⟨⟨rfl,rfl⟩,rfl⟩,by rw[hsl];omega,⟨rfl,rfl⟩,by omega,by rw[List.nil_append,hsl];omega,⟨⟨⟨rfl,rfl⟩,rfl⟩,rfl⟩,by rw[List.nil_append,hsl,Int.toNat_natCast];omega,_,_,_,ga,rfl,?_⟩;rw[List.nil_append,Int.toNat_natCast,EU];rfl
end Go.Proofs.YtjmpnbbeplgchabGreatDoor.M
