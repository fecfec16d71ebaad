import Derived.Test.YtjmpnbbeplgchabGreatDoorR6ScanQ
namespace Go.Proofs.YtjmpnbbeplgchabGreatDoor.M
set_option linter.unusedVariables false
set_option linter.unusedSimpArgs false
open Go Go.Mir
def hW (lo hi:bA):Heap:=[hB 12100000 [aS lo],hB 12100001 [aS hi]]
theorem AHZ (k lo hi:bA):Runs AG 156 [aS k,.ptr 12100000 0,.ptr 12100001 0] (hW lo hi) (aB (!(within k lo hi))) (hW lo hi):=by
 refine Ci (c:=c156) rfl rfl (by kernel_rfl) ?_;show Vc AG c156.body (Af c156 [.n (.str k),.ptr 12100000 0,.ptr 12100001 0]) [(12100000,.box [.n (.str lo)]),(12100001,.box [.n (.str hi)])] (AQ c156 [(12100000,.box [.n (.str lo)]),(12100001,.box [.n (.str hi)])] _);rw[rK,(mD _ _ _ _).down];have e:(hi.toList==(ByteArray.mk (List.toArray [])).toList)=decide (hi=Ar):=Dn hi Ar;rw[e];show Ae (lt k lo) _ _;refine Aa (λh=>⟨by rw[within,h];rfl,rfl⟩) (λh=>Aa (λh2=>⟨?_,rfl⟩) (λh2=>⟨?_,rfl⟩))
 ·have h2:decide (hi=Ar)=false:=by simpa using h2
  rw[within,h,h2];rfl
 ·have h2:decide (hi=Ar)=true:=by simpa using h2
  rw[within,h,h2];rfl
theorem ADE (l:List bA)(hl:Small l.length)(lo hi:bA):∃r:Int,decide (r>=0)=l.any (λk => !(within k lo hi))/\Runs AG 123 [aL (AK l),.fn 156 [.ptr 12100000 0,.ptr 12100001 0]] (hW lo hi) (aI r) (hW lo hi):=by
 have key:∃r H',Runs AG 123 [.o (.sl 1 (AK l)),.fn 156 [.ptr 12100000 0,.ptr 12100001 0]] (hW lo hi) r H'/\∃k:Int,r = .n (.int .i64 k)/\H'=hW lo hi/\decide (k>=0)=l.any (λk => !(within k lo hi)):=by
  refine DI (R:=λr H'=>∃k:Int,r = .n (.int .i64 k)/\H'=hW lo hi/\decide (k>=0)=l.any (λk => !(within k lo hi))) WW rfl (by kernel_rfl) ?_;show Vc AG c123.body (Af c123 [.o (.sl 1 (AK l)),.fn 156 [.ptr 12100000 0,.ptr 12100001 0]]) [(12100000,.box [.n (.str lo)]),(12100001,.box [.n (.str hi)])] (AQ c123 [(12100000,.box [.n (.str lo)]),(12100001,.box [.n (.str hi)])] _);rw[jL,(oY _ _ _ _).down,Al];refine⟨λk=>0<=k/\k<=l.length/\∀(j:Nat) (h:j<l.length),(j:Int)<k->(!(within l[j] lo hi))=false,λk=>(l.length-k).toNat,⟨rfl,by omega,by omega,λj _ hj=>by omega⟩,?_⟩;rintro k ⟨k0,k1,hok⟩ _;refine Ab (λh=>?_) (λh=>⟨-1,rfl,rfl,?_⟩)
  ·have hi':k.toNat<l.length:=by omega
   refine⟨rfl,k0,_,A0 hi',_,rfl,_,AHZ _ lo hi,Aa (λhb=>⟨k,rfl,rfl,?_⟩) (λhb=>?_)⟩;·rw[decide_eq_true k0];exact(JD (p:=λk:bA => !(within k lo hi)) hi' hb).symm
   ·repeat (refine And.intro rfl ?_)
    rw[Ac _ (by omega)];exact⟨⟨by omega,by omega,G6 (p:=λk:bA => !(within k lo hi)) k0 hi' hb hok⟩,by first|omega|(dsimp only;omega)⟩
  ·exact(Ju (p:=λk:bA => !(within k lo hi)) k0 h hok).symm
 obtain⟨r,H',hr,k,rfl,rfl,hk⟩:=key;exact⟨k,hk,hr⟩
theorem AFQ (l:List bA)(hl:Small l.length)(lo hi:bA):Runs AG 83 [aL (AK l),.fn 156 [.ptr 12100000 0,.ptr 12100001 0]] (hW lo hi) (aB (l.any λk => !(within k lo hi))) (hW lo hi):=by refine Ci (c:=c83) rfl rfl (by kernel_rfl) ?_;show Vc AG c83.body (Af c83 [.o (.sl 1 (AK l)),.fn 156 [.ptr 12100000 0,.ptr 12100001 0]]) [(12100000,.box [.n (.str lo)]),(12100001,.box [.n (.str hi)])] (AQ c83 [(12100000,.box [.n (.str lo)]),(12100001,.box [.n (.str hi)])] _);rw[ABG,(AC7 _ _ _ _).down];obtain⟨r,hr,h⟩:=ADE l hl lo hi;exact⟨r,h,by rw[hr],rfl⟩
structure CS where
 used:List Bool
 np:Int
 he:Int
 nb:Int
 bad:Bool
def Cw (N:Nat)(bs:List Int):List Bool:=(List.range N).map λi:Nat=>decide ((i:Int)∈bs)
theorem Fk (N:Nat)(bs:List Int):(Cw N bs).length=N:=by simp[Cw]
theorem Ee {N:Nat}{bs:List Int}{i:Nat}(h:i<(Cw N bs).length):(Cw N bs)[i]=decide ((i:Int)∈bs):=by simp[Cw]
theorem NA {N:Nat}{bs:List Int}{b:Int}(h0:0<=b):(Cw N bs).set b.toNat true=Cw N (bs++[b]):=by
 refine List.ext_getElem (by simp[Cw]) λi h1 h2=>?_;rw[List.getElem_set,Ee,Ee (by simpa[Cw] using h1)];by_cases e:b.toNat=i
 ·rw[if_pos e];have:(i:Int)=b:=by omega
  simp[this]
 ·rw[if_neg e];have:(i:Int)≠b:=by omega
  simp[this]
def Ks (N:Nat)(t:TS):CS:=⟨Cw N t.bs,t.ps.length,t.he,t.bs.length,t.bad⟩
def hC (w:Wd)(s:CS)(v:Nat):Heap:=[hR 7900305 v 4 1 (Bk s.used),hB 7900307 [aL (Bk w.base),aL (Bk w.now),aL (AK w.pages),aI w.root,aI w.gen,aI s.np,aI s.he,aI s.nb,.row 7900305 v,aB s.bad]]
def UW (N:Nat)(s:CS)(t:TS):Prop:=s.bad=t.bad/\(t.bad=false->s=Ks N t)
theorem Ha (l:List Bool)(i:Nat)(b:Bool):(Bk l).set i (.bool b)=Bk (l.set i b):=by simp[Bk,List.map_set]
theorem QL {N:Nat}{s:CS}{t:TS}(h1:s.bad=true)(h2:t.bad=true):UW N s t:=⟨by rw[h1,h2],λh=>by rw[h2]at h;cases h⟩
set_option maxRecDepth 10000 in
set_option maxHeartbeats 15500000 in
theorem yC (w:Wd)(hf:WFits w)(hr:WRight w):∀(f:Nat) (b d:Int) (lo hi:bA) (t:TS) (v:Nat),d+f=10->1<=d->1<=f->TInv t->t.bad=false ->
   ∃s',Runs AG 121 [.ptr 7900307 0,.n (.int .i64 b),.n (.int .i64 d),.n (.str lo),.n (.str hi)] (hC w (Ks w.now.length t) v) (.tup []) (hC w s' v)/\UW w.now.length s' (below (Ax w) f b d lo hi t)
 | 0,b,d,lo,hi,t,v,_,_,hf1,_,_=>by omega
 | f+1,b,d,lo,hi,t,v,hdf,hd,_,ht,htb=>by
  have g40:=ADx w hf b (d==1);have hn:=Ig hr;have hlen:=ht.len;have hps:=ht.ps;have key:∃r H',Runs AG 121 [.ptr 7900307 0,.n (.int .i64 b),.n (.int .i64 d),.n (.str lo),.n (.str hi)] (hC w (Ks w.now.length t) v) r H'/\r = .tup []/\∃s',H'=hC w s' v/\UW w.now.length s' (below (Ax w) (f+1) b d lo hi t):=by
   refine DI (R:=λr H'=>r = .tup []/\∃s',H'=hC w s' v/\UW w.now.length s' (below (Ax w) (f+1) b d lo hi t)) xX rfl (by kernel_rfl) ?_;show Vc AG c121.body (Af c121 [.ptr 7900307 0,.n (.int .i64 b),.n (.int .i64 d),.n (.str lo),.n (.str hi)]) [(7900305,.row false false v 4 1 (Bk (Cw w.now.length t.bs))),(7900307,.box [.o (.sl 1 (Bk w.base)),.o (.sl 1 (Bk w.now)),.o (.sl 1 (AK w.pages)),.n (.int .i64 w.root),.n (.int .i64 w.gen),.n (.int .i64 t.ps.length),.n (.int .i64 t.he),.n (.int .i64 t.bs.length),.row 7900305 v,.n (.bool t.bad)])] (AQ c121 [(7900305,.row false false v 4 1 (Bk (Cw w.now.length t.bs))),(7900307,.box [.o (.sl 1 (Bk w.base)),.o (.sl 1 (Bk w.now)),.o (.sl 1 (AK w.pages)),.n (.int .i64 w.root),.n (.int .i64 w.gen),.n (.int .i64 t.ps.length),.n (.int .i64 t.he),.n (.int .i64 t.bs.length),.row 7900305 v,.n (.bool t.bad)])] _);rw[oR,(oA _ _ _ _ _ _ _ _ _ _ _ _ _ _ _ _).down,AI,Fk,htb];rw[PW,if_pos hr]at g40;have bad:∀(u:List Bool) (np he nb:Int),(below (Ax w) (f+1) b d lo hi t).bad=true->∃s',([hR 7900305 v 4 1 (Bk u),hB 7900307 [.o (.sl 1 (Bk w.base)),.o (.sl 1 (Bk w.now)),.o (.sl 1 (AK w.pages)),.n (.int .i64 w.root),.n (.int .i64 w.gen),.n (.int .i64 np),.n (.int .i64 he),.n (.int .i64 nb),.row 7900305 v,.n (.bool true)]]:Heap)=hC w s' v/\UW w.now.length s' (below (Ax w) (f+1) b d lo hi t):=λu np he nb e=>⟨⟨u,np,he,nb,true⟩,rfl,QL rfl e⟩
   cases hh:Ax w b (d==1) with
   | none=>
    rw[hh]at g40;refine⟨_,_,_,_,_,g40,Aa (λ_=>⟨rfl,bad _ _ _ _ ?_⟩) (λh=>by cases h)⟩;rw[below];split;·rfl
    ·rw[hh]
   | some n=>
    rw[hh]at g40;have hrg:=Hl hn hh;have hok:=D7 hh;have hk8:=hok.2.1;refine⟨_,_,_,_,_,g40,Aa (λh=>by cases h) (λ_=>Ab (λh=>⟨rfl,bad _ _ _ _ ?_⟩) (λh8=>?_))⟩
    ·rw[below];split;·rfl
     ·rw[hh];dsimp only;rw[if_pos (.inl h)]
    have hbN:b.toNat<w.now.length:=by omega
    have hbm:b.toNat<(Cw w.now.length t.bs).length:=by rw[Fk];exact hbN
    have hbb:((b.toNat:Nat):Int)=b:=by omega
    refine⟨⟨rfl,rfl⟩,by omega,by omega,⟨rfl,rfl⟩,_,BU hbm,_,rfl,?_⟩;rw[Ee,hbb];refine Ab (λh=>⟨rfl,bad _ _ _ _ ?_⟩) (λhbn=>?_);·rw[below,if_pos (.inl h)]
    have hb1:¬(b∈t.bs\/t.bad=true):=by rw[htb];simpa using hbn
    have eq:below (Ax w) (f+1) b d lo hi t=if d > 8\/(n.leaf=true/\n.keys=[]) then { t with bad:=true } else
        if n.leaf then ⟨t.ps++n.keys.zip n.vals,t.bs++[b],d,Ja n lo hi||(t.he != 0&&t.he != d)⟩
        else A5 (λc lo hi t=>below (Ax w) f c (d+1) lo hi t) lo hi n.keys n.kids ⟨t.ps,t.bs++[b],t.he,Ja n lo hi⟩:=by
      rw[below,if_neg hb1,hh]
    rw[Ha,NA (by omega),Al,Au,Ac ((t.bs.length:Int)+1) (by omega),Ac ((t.ps.length:Int)+n.keys.length) (by omega)];have ebl:((t.bs.length:Int)+1)=((t.bs++[b]).length:Nat):=by simp
    have g74:=AFQ n.keys (by omega) lo hi;have eoff:(n.keys.any λk => !(within k lo hi))=Ja n lo hi:=rfl;rw[eoff]at g74
    cases hl:n.leaf with
    | true=>
     have hvl:n.vals.length=n.keys.length:=by
      rcases hok.1.2.2 with⟨_,_,h,_⟩|⟨h,_⟩
      ·exact h
      ·rw[hl]at h;cases h
     refine Aa (λ_=>Aa (λh=>⟨rfl,bad _ _ _ _ (by rw[eq,if_pos (.inr ⟨hl,JF h⟩)])⟩) (λhk0=>?_)) (λh=>by cases h);have hk0:n.keys≠[]:=λe=>by rw[e]at hk0;simp at hk0
     rw[if_neg (by
      rintro(h|h);·exact h8 h
      ·exact hk0 h.2),hl,if_pos rfl]at eq
     refine⟨⟨rfl,rfl⟩,by omega,by omega,⟨⟨⟨rfl,rfl⟩,rfl⟩,rfl⟩,hbN,_,g74,Aa (λho=>⟨rfl,bad _ _ _ _ (by rw[eq,ho];rfl)⟩) (λho=>?_)⟩;refine Aa (λ_=>Aa (λh=>by cases h) (λ_=>?_)) (λh=>by cases h);have ezl:((t.ps.length:Int)+n.keys.length)=((t.ps++n.keys.zip n.vals).length:Nat):=by rw[List.length_append,List.length_zip];omega
     rw[ebl,ezl];refine Aa (λh1=>⟨rfl,⟨Cw w.now.length (t.bs++[b]),((t.ps++n.keys.zip n.vals).length:Nat),d,((t.bs++[b]).length:Nat),t.he != d⟩,rfl,?_⟩) (λh1=>⟨rfl,⟨Cw w.now.length (t.bs++[b]),((t.ps++n.keys.zip n.vals).length:Nat),d,((t.bs++[b]).length:Nat),false⟩,rfl,?_⟩)
     ·rw[eq,ho,h1];refine⟨?_,λh=>?_⟩;·show(t.he != d)=(false||(true&&(t.he != d)));rw[Bool.true_and,Bool.false_or]
      ·simp only[Ks,Bool.true_and,Bool.false_or]
     ·rw[eq,ho,h1];exact⟨rfl,λ_=>rfl⟩
    | false=>
     refine Aa (λh=>by cases h) (λ_=>?_);rw[if_neg (by
      rintro(h|h);·exact h8 h
      ·rw[hl]at h;cases h.1),hl,if_neg (by simp)]at eq
     have hkl:n.kids.length=n.keys.length+1:=by
      rcases hok.1.2.2 with⟨h,_⟩|⟨_,_,_,h,_⟩
      ·rw[hl]at h;cases h
      ·exact h
     refine⟨⟨rfl,rfl⟩,by omega,by omega,⟨⟨⟨rfl,rfl⟩,rfl⟩,rfl⟩,hbN,_,g74,Aa (λho=>⟨rfl,bad _ _ _ _ (by rw[eq,ho,E7 rfl])⟩) (λho=>?_)⟩;refine Aa (λh=>by cases h) (λ_=>?_);rw[ho]at eq;have hst:TInv ⟨t.ps,t.bs++[b],t.he,false⟩:=by have:=ht.add hbn (b:=b) (by omega) (P:=[]) (by simp) t.he false;simpa using this
     rw[ebl];refine⟨λi S Q=>0<=i/\i<=n.kids.length/\∃(t':TS),TInv t'/\t'.bad=false/\S=(Bk w.base,Bk w.now,AK w.pages,w.root,w.gen,(t'.ps.length:Int),t'.he,(t'.bs.length:Int),v,false,())/\Q=(v,Bk (Cw w.now.length t'.bs))/\below (Ax w) (f+1) b d lo hi t=A5 (λc lo hi t=>below (Ax w) f c (d+1) lo hi t) (AU lo n.keys i.toNat) hi (n.keys.drop i.toNat) (n.kids.drop i.toNat) t',λi _ _=>(n.kids.length-i).toNat,
       ⟨rfl,by omega,by omega,⟨t.ps,t.bs++[b],t.he,false⟩,hst,rfl,rfl,rfl,eq⟩,?_⟩
     rintro i S Q ⟨h0,h1,t',ht',htb',rfl,rfl,hinv⟩ _;dsimp only;rw[Ac (d+1) (by omega),Ac (i-1) (by omega),Ac (i+1) (by omega)];have e1:(i+1).toNat=i.toNat+1:=by omega
     have e2:(i-1).toNat=i.toNat-1:=by omega
     refine Ab (λhlt=>?_) (λhge=>?_)
     ·have hik:i.toNat<n.kids.length:=by omega
      have tail:∀(fr tl:bA),A5 (λc lo hi t=>below (Ax w) f c (d+1) lo hi t) (AU lo n.keys i.toNat) hi (n.keys.drop i.toNat) (n.kids.drop i.toNat) t'=A5 (λc lo hi t=>below (Ax w) f c (d+1) lo hi t) (AU lo n.keys (i.toNat+1)) hi (n.keys.drop (i.toNat+1)) (n.kids.drop (i.toNat+1)) (if t'.bad then t' else below (Ax w) f n.kids[i.toNat] (d+1) fr tl t') ->
          ∃s':CS,Runs AG 121 [.ptr 7900307 0,.n (.int .i64 n.kids[i.toNat]),.n (.int .i64 (d+1)),.n (.str fr),.n (.str tl)] [hR 7900305 v 4 1 (Bk (Cw w.now.length t'.bs)),hB 7900307 [.o (.sl 1 (Bk w.base)),.o (.sl 1 (Bk w.now)),.o (.sl 1 (AK w.pages)),.n (.int .i64 w.root),.n (.int .i64 w.gen),.n (.int .i64 t'.ps.length),.n (.int .i64 t'.he),.n (.int .i64 t'.bs.length),.row 7900305 v,.n (.bool false)]] (.tup []) (hC w s' v) /\
            (s'.bad=true->UW w.now.length s' (below (Ax w) (f+1) b d lo hi t)) /\
            (s'.bad=false->∃(t'':TS),TInv t''/\t''.bad=false/\(Bk w.base,Bk w.now,AK w.pages,w.root,w.gen,s'.np,s'.he,s'.nb,v,s'.bad,())=(Bk w.base,Bk w.now,AK w.pages,w.root,w.gen,(t''.ps.length:Int),t''.he,(t''.bs.length:Int),v,false,())/\(v,Bk s'.used)=(v,Bk (Cw w.now.length t''.bs))/\below (Ax w) (f+1) b d lo hi t=A5 (λc lo hi t=>below (Ax w) f c (d+1) lo hi t) (AU lo n.keys (i+1).toNat) hi (n.keys.drop (i+1).toNat) (n.kids.drop (i+1).toNat) t''):=λfr tl hs=>by
        obtain⟨s',g,c1,c2⟩:=yC w hf hr f n.kids[i.toNat] (d+1) fr tl t' v (by omega) (by omega) (by omega) ht' htb'
        rw[hC,Ks,htb']at g
        refine⟨s',g,λhb=>QL hb ?_,λhb=>?_⟩
        ·rw[c1]at hb
         rw[hinv,hs,htb']
         show(A5 _ _ _ _ _ (below (Ax w) f n.kids[i.toNat] (d+1) fr tl t')).bad=true
         rw[E7 hb];exact hb
        ·rw[c1]at hb
         have:=c2 hb
         subst this
         refine⟨below (Ax w) f n.kids[i.toNat] (d+1) fr tl t',G4 hn f _ (d+1) fr tl t' ht',hb,by simp only[Ks,hb],rfl,?_⟩
         rw[hinv,hs,htb',e1];rfl
      refine⟨rfl,h0,_,D1 hik,_,rfl,Ab (λhp=>?_) (λhp=>?_)⟩
      ·have hi1:(i-1).toNat<n.keys.length:=by omega
       have ef:AU lo n.keys i.toNat=n.keys[(i-1).toNat]:=by rw[LA (by omega) (by omega)];congr 1;omega
       refine⟨rfl,by omega,_,A0 hi1,_,rfl,Ab (λhq=>?_) (λhq=>?_)⟩
       ·have hi2:i.toNat<n.keys.length:=by omega
        have hs:=Iw (f:=λc lo hi t=>below (Ax w) f c (d+1) lo hi t) (lo:=lo) (hi:=hi) (t:=t') hi2 hik;rw[show below (Ax w) f n.kids[i.toNat] (d+1) (AU lo n.keys i.toNat) n.keys[i.toNat] t'=below (Ax w) f n.kids[i.toNat] (d+1) n.keys[(i-1).toNat] n.keys[i.toNat] t' by rw[ef]]at hs;obtain⟨s',g,c1,c2⟩:=tail _ _ hs;refine⟨rfl,h0,_,A0 hi2,_,rfl,_,_,_,_,_,_,_,_,_,_,_,_,g,Aa (λhb=>⟨rfl,s',rfl,c1 hb⟩) (λhb=>?_)⟩;exact⟨rfl,rfl,rfl,rfl,rfl,rfl,rfl,rfl,⟨by omega,by omega,c2 hb⟩,by first|omega|(dsimp only;omega)⟩
       ·have hs:=NR (f:=λc lo hi t=>below (Ax w) f c (d+1) lo hi t) (lo:=lo) (hi:=hi) (ks:=n.keys) (cs:=n.kids) (t:=t') (i:=i.toNat) (by omega) (by omega);have hd2:n.kids.drop (i.toNat+1)=[]:=List.drop_of_length_le (by omega);rw[show below (Ax w) f n.kids[i.toNat] (d+1) (AU lo n.keys i.toNat) hi t'=below (Ax w) f n.kids[i.toNat] (d+1) n.keys[(i-1).toNat] hi t' by rw[ef]]at hs;have hs:_=A5 (λc lo hi t=>below (Ax w) f c (d+1) lo hi t) (AU lo n.keys (i.toNat+1)) hi (n.keys.drop (i.toNat+1)) (n.kids.drop (i.toNat+1)) _:=hs.trans (by rw[hd2,Hf]);obtain⟨s',g,c1,c2⟩:=tail _ _ hs;refine⟨_,_,_,_,_,_,_,_,_,_,_,_,g,Aa (λhb=>⟨rfl,s',rfl,c1 hb⟩) (λhb=>?_)⟩;exact⟨rfl,rfl,rfl,rfl,rfl,rfl,rfl,rfl,⟨by omega,by omega,c2 hb⟩,by first|omega|(dsimp only;omega)⟩
      ·have hi2:i.toNat<n.keys.length:=by
        rcases hok.1.2.2 with⟨h,_⟩|⟨_,_,h,_⟩
        ·rw[hl]at h;cases h
        ·omega
       have ef:AU lo n.keys i.toNat=lo:=by rw[AU,if_pos (by omega)]
       have hs:=Iw (f:=λc lo hi t=>below (Ax w) f c (d+1) lo hi t) (lo:=lo) (hi:=hi) (t:=t') hi2 hik;rw[show below (Ax w) f n.kids[i.toNat] (d+1) (AU lo n.keys i.toNat) n.keys[i.toNat] t'=below (Ax w) f n.kids[i.toNat] (d+1) lo n.keys[i.toNat] t' by rw[ef]]at hs;refine Ab (λhq=>?_) (λhq=>by omega);obtain⟨s',g,c1,c2⟩:=tail _ _ hs;refine⟨rfl,h0,_,A0 hi2,_,rfl,_,_,_,_,_,_,_,_,_,_,_,_,g,Aa (λhb=>⟨rfl,s',rfl,c1 hb⟩) (λhb=>?_)⟩;exact⟨rfl,rfl,rfl,rfl,rfl,rfl,rfl,rfl,⟨by omega,by omega,c2 hb⟩,by first|omega|(dsimp only;omega)⟩
     ·have hd2:n.kids.drop i.toNat=[]:=List.drop_of_length_le (by omega);rw[hd2,Hf]at hinv;refine⟨rfl,Ks w.now.length t',by simp only[hC,Ks,htb'],?_⟩;rw[hinv];exact⟨rfl,λ_=>rfl⟩
  obtain⟨r,H',hr',rfl,s',rfl,hs'⟩:=key;exact⟨s',hr',hs'⟩
theorem Vp (N:Nat):Cw N []=List.replicate N false:=by refine List.ext_getElem (by simp[Cw]) λi h1 h2=>?_;rw[Ee];simp
theorem p79 (w:Wd)(hf:WFits w):(¬WRight w/\Runs AG 79 [Dp w] [] (.tup [.nilp,aI 1]) [])\/(WRight w/\(AZ w).bad=true/\Runs AG 79 [Dp w] [] (.tup [.nilp,aI 81]) []) \/
   (WRight w/\(AZ w).bad=false/\Runs AG 79 [Dp w] [] (.tup [.ptr 7900307 0,aI 0]) (hC w (Ks w.now.length (AZ w)) 0)):=by
 have g41:=uN w hf
 have key:∃r H',Runs AG 79 [Dp w] [] r H'/\((¬WRight w/\r = .tup [.nilp,.n (.int .i64 1)]/\H'=[])\/(WRight w/\(AZ w).bad=true/\r = .tup [.nilp,.n (.int .i64 81)]/\H'=[]) \/
     (WRight w/\(AZ w).bad=false/\r = .tup [.ptr 7900307 0,.n (.int .i64 0)]/\H'=hC w (Ks w.now.length (AZ w)) 0)):=by
   refine OK (R:=λr H'=>(¬WRight w/\r = .tup [.nilp,.n (.int .i64 1)]/\H'=[])\/(WRight w/\(AZ w).bad=true/\r = .tup [.nilp,.n (.int .i64 81)]/\H'=[]) \/
     (WRight w/\(AZ w).bad=false/\r = .tup [.ptr 7900307 0,.n (.int .i64 0)]/\H'=hC w (Ks w.now.length (AZ w)) 0)) AFv rfl ?_
   rw[Dp,ADb,(ABD _ _ _ _ _ _).down,AI]
   by_cases hr:WRight w
   ·rw[decide_eq_true hr]at g41
    have hn:=Ig hr
    have er:Bk (Cw w.now.length [])=List.replicate (Int.toNat (w.now.length:Int)) (.bool false):=by rw[Vp];simp[Bk]
    refine⟨_,g41,Aa (λh=>by cases h) (λ_=>⟨by omega,by omega,Aa (λh=>?_) (λh=>?_)⟩)⟩
    ·obtain⟨s',g,c1,c2⟩:=yC w hf hr 9 w.root 1 Ar Ar Oy 0 (by omega) (by omega) (by omega) KL rfl
     have e:below (Ax w) 9 w.root 1 Ar Ar Oy=AZ w:=by rw[AZ,if_neg (by simpa using h)]
     rw[e]at c1 c2
     have e0:hC w (Ks w.now.length Oy) 0=[hR 7900305 0 4 1 (List.replicate (Int.toNat (w.now.length:Int)) (.bool false)),hB 7900307 [.o (.sl 1 (Bk w.base)),.o (.sl 1 (Bk w.now)),.o (.sl 1 (AK w.pages)),.n (.int .i64 w.root),.n (.int .i64 w.gen),.n (.int .i64 0),.n (.int .i64 0),.n (.int .i64 0),.row 7900305 0,.n (.bool false)]]:=by rw[<-er];rfl
     rw[e0]at g
     refine⟨_,_,_,_,_,_,_,_,_,_,_,_,g,Aa (λhb => .inr (.inl ⟨hr,by rw[<-c1];exact hb,rfl,rfl⟩)) (λhb=>?_)⟩
     rw[c1]at hb
     have:=c2 hb
     subst this
     exact .inr (.inr ⟨hr,hb,rfl,rfl⟩)
    ·have e:AZ w=Oy:=by rw[AZ,if_pos (by simpa using h)]
     refine .inr (.inr ⟨hr,by rw[e];rfl,rfl,?_⟩)
     rw[e,<-er];rfl
   ·rw[decide_eq_false hr]at g41
    exact⟨_,g41,Aa (λ_ => .inl ⟨hr,rfl,rfl⟩) (λh=>by cases h)⟩
 obtain⟨r,H',hg,⟨h1,rfl,rfl⟩|⟨h1,h2,rfl,rfl⟩|⟨h1,h2,rfl,rfl⟩⟩:=key
 ·exact .inl ⟨h1,hg⟩
 ·exact .inr (.inl ⟨h1,h2,hg⟩)
 ·exact .inr (.inr ⟨h1,h2,hg⟩)
def Ez (N:Nat):List Int->List Int->Option (List Int)
 | [],l=>some l
 | b::r,l=>if b<10\/b>=N\/b∈l then none else Ez N r (l++[b])
def nowIs (now:List Bool)(l:List Int):Prop:=∀i:Nat,i<now.length->tr now i=decide (i<10\/(i:Int)∈l)
noncomputable instance (now:List Bool) (l:List Int):Decidable (nowIs now l):=Classical.propDecidable _
noncomputable def ChkR (w:Wd)(more:List Int):(Int×Int×Int)×Int:=
 if ¬WRight w then ((0,0,0),1) else if (AZ w).bad=true then ((0,0,0),81) else match Ez w.now.length more (AZ w).bs with
 | none=>((0,0,0),81)
 | some l=>if nowIs w.now l then (((AZ w).ps.length,(AZ w).he,(AZ w).bs.length),0) else ((0,0,0),81)
def ckV (x:(Int×Int×Int)×Int):AV := .tup [.agg [aI x.1.1,aI x.1.2.1,aI x.1.2.2],aI x.2]
set_option maxRecDepth 10000 in
theorem p37 (w:Wd)(hf:WFits w)(more:List Int)(hm:Small more.length):Runs AG 37 [Dp w,aL (il more)] [] (ckV (ChkR w more)) []:=by
 refine Ag (c:=c37) rfl rfl ?_;rw[Dp,AIF,(AGe _ _ _ _ _ _ _).down];rcases p79 w hf with⟨hr,g⟩|⟨hr,hb,g⟩|⟨hr,hb,g⟩
 ·rw[Dp]at g;refine .inr ⟨(),_,g,Aa (λ_=>?_) (λh=>by cases h)⟩;rw[ChkR,if_pos hr];rfl
 ·rw[Dp]at g;refine .inr ⟨(),_,g,Aa (λ_=>?_) (λh=>by cases h)⟩;rw[ChkR,if_neg (by simpa using hr),if_pos hb];rfl
 ·rw[hC,Dp]at g;have hn:=Ig hr;have eq:ChkR w more=match Ez w.now.length more (AZ w).bs with
      | none=>((0,0,0),81)
      | some l=>if nowIs w.now l then (((AZ w).ps.length,(AZ w).he,(AZ w).bs.length),0) else ((0,0,0),81):=by
    rw[ChkR,if_neg (by simpa using hr),if_neg (by rw[hb];simp)]
  refine .inl ⟨(),_,_,_,_,_,_,_,_,_,_,_,_,_,g,Aa (λh=>by cases h) (λ_=>?_)⟩;rw[Au,AI];have no:ChkR w more=((0,0,0),81)->AV.tup [.agg [.n (.int .i64 0),.n (.int .i64 0),.n (.int .i64 0)],.n (.int .i64 81)]=ckV (ChkR w more):=λe=>by rw[e];rfl
  refine⟨λi S Q=>0<=i/\i<=more.length/\S=(0,0,0,())/\∃l,Q=(0,Bk (Cw w.now.length l))/\Ez w.now.length more (AZ w).bs=Ez w.now.length (more.drop i.toNat) l,λi _ _=>(more.length-i).toNat,⟨rfl,by omega,by omega,rfl,(AZ w).bs,rfl,rfl⟩,?_⟩;rintro i S Q ⟨h0,h1,rfl,l,rfl,hinv⟩ _;dsimp only;rw[AI,Fk];refine Ab (λhlt=>?_) (λhge=>?_)
  ·have hi:i.toNat<more.length:=by omega
   rw[List.drop_eq_getElem_cons hi,Ez]at hinv;refine⟨rfl,h0,_,D1 hi,_,rfl,Ab (λh=>no ?_) (λh2=>⟨rfl,Ab (λh=>no ?_) (λh3=>?_)⟩)⟩;·rw[eq,hinv,if_pos (.inl h)]
   ·rw[eq,hinv,if_pos (.inr (.inl h))]
   have hbm:more[i.toNat].toNat<(Cw w.now.length l).length:=by rw[Fk];omega
   have hbb:((more[i.toNat].toNat:Nat):Int)=more[i.toNat]:=by omega
   refine⟨⟨rfl,rfl⟩,by omega,by omega,⟨rfl,rfl⟩,_,BU hbm,_,rfl,?_⟩;rw[Ee,hbb];refine Ab (λh=>no ?_) (λh4=>?_);·rw[eq,hinv,if_pos (.inr (.inr h))]
   refine⟨⟨rfl,rfl⟩,by omega,by omega,⟨⟨⟨rfl,rfl⟩,rfl⟩,rfl⟩,by omega,?_⟩;rw[Ha,NA (by omega)];repeat (refine And.intro rfl ?_)
   rw[Ac _ (by omega)];refine⟨⟨by omega,by omega,rfl,_,rfl,?_⟩,by first|omega|(dsimp only;omega)⟩;rw[hinv,if_neg (by
    rintro(h|h|h);·exact h2 h
    ·omega
    ·exact h4 h),show(i+1).toNat=i.toNat+1 by omega]
  ·rw[List.drop_of_length_le (by omega),Ez]at hinv;rw[hinv]at eq;dsimp only at eq;refine⟨λi S=>0<=i/\i<=w.now.length/\S=(0,0,0,())/\∀j:Nat,(j:Int)<i->tr w.now j=decide (j<10\/(j:Int)∈l),λi _=>(w.now.length-i).toNat,⟨rfl,by omega,by omega,rfl,λj hj=>by omega⟩,?_⟩;rintro i S ⟨h0,h1,rfl,hok⟩ _;dsimp only;refine Ab (λhlt=>?_) (λhge=>?_)
   ·have hi:i.toNat<w.now.length:=by omega
    have hii:((i.toNat:Nat):Int)=i:=by omega
    have next:tr w.now i.toNat=decide (i.toNat<10\/((i.toNat:Nat):Int)∈l)->∀j:Nat,(j:Int)<i+1->tr w.now j=decide (j<10\/(j:Int)∈l):=λh j hj=>by
     by_cases e:(j:Int)<i;·exact hok j e
     ·obtain rfl:j=i.toNat:=by omega
      exact h
    have fail:tr w.now i.toNat≠decide (i.toNat<10\/((i.toNat:Nat):Int)∈l)->ChkR w more=((0,0,0),81):=λh=>by rw[eq,if_neg (λhx=>h (hx i.toNat hi))]
    refine⟨rfl,h0,_,BU hi,_,rfl,Ab (λh10=>?_) (λh10=>?_)⟩
    ·have hd:decide (i.toNat<10\/((i.toNat:Nat):Int)∈l)=true:=decide_eq_true (.inl (by omega));rw[hd]at next fail
     rw[<-Dl hi];refine Aa (λh=>no (fail (by intro e;rw[e]at h;cases h))) (λh=>?_);repeat (refine And.intro rfl ?_)
     rw[Ac _ (by omega)];exact⟨⟨by omega,by omega,rfl,next (by cases hx:tr w.now i.toNat with|true=>rfl|false=>rw[hx]at h;cases h)⟩,by first|omega|(dsimp only;omega)⟩
    ·have hbm:i.toNat<(Cw w.now.length l).length:=by rw[Fk];omega
     have hd:decide (i.toNat<10\/((i.toNat:Nat):Int)∈l)=decide (i∈l):=by rw[hii,decide_eq_decide];exact⟨λh=>h.resolve_left (by omega),.inr⟩
     rw[hd]at next fail
     refine⟨⟨rfl,rfl⟩,h0,hlt,⟨rfl,rfl⟩,_,BU hbm,_,rfl,?_⟩;rw[Ee,hii,<-Dl hi];refine Aa (λh=>no (fail (by intro e;rw[e]at h;simp at h))) (λh=>?_);repeat (refine And.intro rfl ?_)
     rw[Ac _ (by omega)];exact⟨⟨by omega,by omega,rfl,next (by simpa using h)⟩,by first|omega|(dsimp only;omega)⟩
   ·have hx:nowIs w.now l:=λj hj=>hok j (by omega);rw[if_pos hx]at eq;rw[eq];rfl
theorem OX {w:Wd}{b:Int}{r:Bool}{n:Nd}(h:Ax w b r=some n):tr w.now b.toNat=true:=by
 unfold Ax at h;split at h;·cases h
 ·rename_i hx
  cases ht:tr w.now b.toNat with
  | true=>rfl
  | false=>exact absurd (.inr (.inr (.inr ht))) hx
theorem FW {w x:Wd}{h:Nat}{P:List Pr}{B:List Int}(ht:IsTree w h P B)(hr:x.root=w.root)(hx:∀b∈B,∀r n,Ax w b r=some n->Ax x b r=some n):IsTree x h P B:=by
 rcases ht with⟨h0,h1,h2,h3⟩|⟨h0,h1,h2,h3,h4⟩
 ·exact .inl ⟨by rw[hr];exact h0,h1,h2,h3⟩
 ·exact .inr ⟨by rw[hr];exact h0,h1,h2,by rw[hr];exact h3.frame hx,h4⟩
theorem JQ {w:Wd}{h:Nat}{P:List Pr}{B:List Int}(ht:IsTree w h P B):∀b∈B,∃r n,Ax w b r=some n:=by
 rcases ht with⟨_,_,_,rfl⟩|⟨_,_,_,h3,_⟩
 ·intro b hb;cases hb
 ·exact h3.held
def NL (l:List UInt8):bA:=⟨l.toArray⟩
theorem Fo (l:List UInt8):(NL l).data.toList=l:=by simp[NL]
theorem Fu (l:List UInt8):(NL l).size=l.length:=by rw[<-Aj,Fo]
theorem AIb (n:Int):Cj n 1=[UInt8.ofNat (n % 256).toNat]:=by have:=DO n 1;rw[<-this];simp[be,Mir.byteOf]
theorem uW {s:bA}{A C:List UInt8}{b:UInt8}{a:Int}(h:s.data.toList=A++b::C)(ha:a=A.length):gT s a 1=((b.toNat:Int),a+1,0):=by
 have hl:s.size=A.length+1+C.length:=by rw[<-Aj,h];simp;omega
 have hp:An s a 1=[b]:=CJ (A:=A) (B:=[b]) (C:=C) (by rw[h];rfl) (by omega) rfl;rw[gT,A9 (by omega) (by omega),hp];simp[g3,Ct]
theorem Xm {s t:bA}{A C:List UInt8}{a:Int}(h:s.data.toList=A++((Cj t.size 2++t.data.toList)++C))(ha:a=A.length)(ht:t.size<=65535):cT s a=(t,a+2+t.size,0):=by have e:s=Mc [NL A,BR t,NL C]:=AE (by rw[ZI,Fo,Fo,CB,h]);have hA:(NL A).size=A.length:=Fu A;have:=ZJ t (NL A) (NL C) (by omega);rw[<-e,hA,<-ha]at this;rw[cT,this];rfl
theorem PY {s:bA}(h:s.size<=65535):J4 s = .tup [aS (BR s),aI 0]:=by rw[J4,if_neg (by omega)]
theorem Rx {k g:Int}{b:bA}(h:pgOK k g b):GetPR (Cq k g b) = .tup [pg k g b,aI 0]:=
 M9 k g b _ h (by have:=HV k g b h;omega) (by refine AE ?_;rw[AS,Cq,AS,OY])
def MG (t:bA):List UInt8:=Cj t.size 2++t.data.toList
def Mw:List bA->List bA->List UInt8
 | k::ks,v::vs=>MG k++(MG v++Mw ks vs)
 | _,_=>[]
def JS:List Int->List bA->List UInt8
 | b::bs,k::ks=>Cj b 2++(MG k++JS bs ks)
 | b::_,[]=>Cj b 2
 | [],_=>[]
def F3 (n:Nd):List UInt8:=Cj n.keys.length 1++(if n.leaf then Mw n.keys n.vals else JS n.kids n.keys)
def Du (n:Nd):bA:=NL (F3 n)
def C6 (n:Nd):Int:=if n.leaf then 1 else 2
def pageB (g:Int)(n:Nd):bA:=Cq (C6 n) g (Du n)
theorem Zg {s:bA}{A C:List UInt8}{b a:Int}(h:s.data.toList=A++(Cj b 2++C))(ha:a=A.length)(h0:0<=b)(h1:b<65536):gT s a 2=(b,a+2,0):=by
 have hl:s.size=A.length+2+C.length:=by rw[<-Aj,h];simp[Ap];omega
 have hp:An s a 2=Cj b 2:=CJ h (by omega) (by rw[Ap];rfl);rw[gT,A9 (by omega) (by omega),hp];have e:Ct (Cj b 2)=b:=by rw[D9];exact Int.emod_eq_of_lt h0 (by omega)
 simp only[g3,e]
theorem iW {s:bA}:∀(ks vs:List bA) (A:List UInt8) (a:Int) (ak av:List bA),vs.length=ks.length->(∀k∈ks,k.size<=65535)->(∀v∈vs,v.size<=65535)->s.data.toList=A++Mw ks vs->a=A.length ->
   Fj s ks.length a ak av = .inr (ak++ks,av++vs,(s.size:Int))
 | [],[],A,a,ak,av,_,_,_,h,ha=>by
  have hl:s.size=A.length:=by rw[<-Aj,h];simp[Mw]
  simp only[List.length_nil,Fj,List.append_nil];rw[ha,hl]
 | [],_::_,_,_,_,_,hl,_,_,_,_=>by simp at hl
 | _::_,[],_,_,_,_,hl,_,_,_,_=>by simp at hl
 | k::ks,v::vs,A,a,ak,av,hl,hk,hv,h,ha=>by have hk1:=hk k (by simp);have hv1:=hv v (by simp);have c1:=Xm (t:=k) (A:=A) (C:=MG v++Mw ks vs) (a:=a) (by rw[h];rfl) ha hk1;have c2:=Xm (s:=s) (t:=v) (A:=A++MG k) (C:=Mw ks vs) (a:=a+2+k.size) (by rw[h];simp[Mw,MG]) (by simp[MG,Ap,Aj];omega) hv1;rw[List.length_cons,ZU (by rw[c1]) (by rw[c1,c2]),c1];dsimp only;rw[c2];dsimp only;rw[iW ks vs (A++(MG k++MG v)) _ _ _ (by simpa using hl) (λx hx=>hk x (List.mem_cons_of_mem _ hx)) (λx hx=>hv x (List.mem_cons_of_mem _ hx)) (by rw[h];simp[Mw]) (by simp[MG,Ap,Aj];omega)];simp
theorem jC {s:bA}:∀(bs:List Int) (ks:List bA) (l:Int) (A:List UInt8) (a:Int) (ab:List Int) (ak:List bA),bs.length=ks.length->(∀b∈bs,0<=b/\b<65536)->(∀k∈ks,k.size<=65535)->s.data.toList=A++JS (bs++[l]) ks->a=A.length ->
   ∃A',E8 s ks.length a ab ak = .inr (ab++bs,ak++ks,(A'.length:Int))/\s.data.toList=A'++Cj l 2
 | [],[],l,A,a,ab,ak,_,_,_,h,ha=>by refine⟨A,?_,by rw[h];rfl⟩;simp only[List.length_nil,E8,List.append_nil];rw[ha]
 | [],_::_,_,_,_,_,_,hl,_,_,_,_=>by simp at hl
 | _::_,[],_,_,_,_,_,hl,_,_,_,_=>by simp at hl
 | b::bs,k::ks,l,A,a,ab,ak,hl,hb,hk,h,ha=>by have hk1:=hk k (by simp);have hb1:=hb b (by simp);have c1:=Zg (s:=s) (b:=b) (A:=A) (C:=MG k++JS (bs++[l]) ks) (a:=a) (by rw[h];rfl) ha hb1.1 hb1.2;have c2:=Xm (s:=s) (t:=k) (A:=A++Cj b 2) (C:=JS (bs++[l]) ks) (a:=a+2) (by rw[h];simp[JS,MG]) (by simp[Ap];omega) hk1;rw[List.length_cons,WU (by rw[c1]) (by rw[c1,c2]),c1];dsimp only;rw[c2];dsimp only;obtain⟨A',h1,h2⟩:=jC bs ks l (A++(Cj b 2++MG k)) (a+2+2+k.size) (ab++[b]) (ak++[k]) (by simpa using hl) (λx hx=>hb x (List.mem_cons_of_mem _ hx)) (λx hx=>hk x (List.mem_cons_of_mem _ hx)) (by rw[h];simp[JS]) (by simp[MG,Ap,Aj];omega);refine⟨A',?_,h2⟩;rw[h1];simp
theorem Io {l:List bA}(h:X1 l):∀k∈l,1<=k.size/\k.size<=32:=λk hk=>by obtain⟨i,hi,rfl⟩:=List.getElem_of_mem hk;exact⟨(h i hi hi).1,(h i hi hi).2.1⟩
theorem Vb {n:Nd}(hok:NdOK n true):Bi (C6 n) (Du n)=(n,0):=by
 obtain⟨hs,h8,_⟩:=hok;have hks:=Io hs.2.1;have hd:(Du n).data.toList=F3 n:=Fo _;have h1:Cj (n.keys.length:Int) 1=[UInt8.ofNat n.keys.length]:=by rw[AIb];congr 2;omega
 have hbyte:((UInt8.ofNat n.keys.length).toNat:Int)=n.keys.length:=by rw[UInt8.toNat_ofNat'];omega
 have g0:=uW (s:=Du n) (A:=[]) (b:=UInt8.ofNat n.keys.length) (C:=if n.leaf then Mw n.keys n.vals else JS n.kids n.keys) (a:=0) (by rw[hd,F3,h1];rfl) rfl;rw[hbyte]at g0;have hlen0:(F3 n).length=1+(if n.leaf then Mw n.keys n.vals else JS n.kids n.keys).length:=by rw[F3,List.length_append,Ap]
 have hsz:(Du n).size=(F3 n).length:=Fu _;have fin:∀a:Int,a=(Du n).size->CM (Du n) n a=(n,0):=λa ha=>by
  rw[CM,if_neg];rintro(h|h);·exact h ha
  ·exact h ⟨hs,h8,.inl rfl⟩
 rw[Bi,if_neg (by unfold C6;split<;>omega),if_neg (by rw[g0];simp),g0];dsimp only;rw[Int.toNat_natCast,Int.zero_add]
 cases hl:n.leaf with
 | true=>
  have hv:n.vals.length=n.keys.length/\(∀v∈n.vals,v.size<=200)/\n.kids=[]:=by
   rcases hs.2.2 with⟨_,h1,h2,h3⟩|⟨h,_⟩
   ·exact⟨h2,h3,h1⟩
   ·rw[hl]at h;cases h
  have e:(C6 n==1)=true:=by rw[C6,hl];rfl
  rw[e,CV,iW n.keys n.vals (Cj (n.keys.length:Int) 1) 1 [] [] hv.1 (λk hk=>by have:=hks k hk;omega) (λv hv'=>by have:=hv.2.1 v hv';omega) (by rw[hd,F3,hl];rfl) (by simp[Ap])];dsimp only;have en:(⟨true,[]++n.keys,[]++n.vals,[]⟩:Nd)=n:=by rw[List.nil_append,List.nil_append,<-hl,<-hv.2.2]
  rw[en];exact fin _ rfl
 | false=>
  have hv:n.vals=[]/\n.kids.length=n.keys.length+1/\∀b∈n.kids,10<=b/\b<2048:=by
   rcases hs.2.2 with⟨h,_⟩|⟨_,h1,_,h2,h3⟩
   ·rw[hl]at h;cases h
   ·exact⟨h1,h2,h3⟩
  have e:(C6 n==1)=false:=by rw[C6,hl];rfl
  have hne:n.kids≠[]:=λh=>by rw[h]at hv;simp at hv
  have hsp:n.kids.dropLast++[n.kids.getLast hne]=n.kids:=List.dropLast_concat_getLast hne;obtain⟨A',h2,h3⟩:=jC (s:=Du n) n.kids.dropLast n.keys (n.kids.getLast hne) (Cj (n.keys.length:Int) 1) 1 [] [] (by rw[List.length_dropLast];omega) (λb hb=>by have:=hv.2.2 b (List.dropLast_subset _ hb);omega) (λk hk=>by have:=hks k hk;omega) (by rw[hd,F3,hl,hsp];rfl) (by simp[Ap]);have hbl:=hv.2.2 _ (List.getLast_mem hne);have c:=Zg (s:=Du n) (A:=A') (C:=[]) (b:=n.kids.getLast hne) (a:=A'.length) (by rw[h3];simp) rfl (by omega) (by omega);rw[e,Cn,h2];dsimp only;rw[if_neg (by rw[c];simp),c];dsimp only;have en:(⟨false,[]++n.keys,[],[]++n.kids.dropLast++[n.kids.getLast hne]⟩:Nd)=n:=by rw[List.nil_append,List.nil_append,hsp,<-hl,<-hv.1]
  rw[en];refine fin _ ?_;have:(Du n).size=A'.length+2:=by rw[<-Aj,h3];simp[Ap]
  omega
theorem OV:∀(ks vs:List bA),(∀k∈ks,k.size<=32)->(∀v∈vs,v.size<=200)->(Mw ks vs).length<=236*ks.length
 | [],_,_,_=>by simp[Mw]
 | _::_,[],_,_=>by simp[Mw]
 | k::ks,v::vs,h1,h2=>by have:=OV ks vs (λx hx=>h1 x (List.mem_cons_of_mem _ hx)) (λx hx=>h2 x (List.mem_cons_of_mem _ hx));have a1:=h1 k (by simp);have a2:=h2 v (by simp);simp only[Mw,MG,List.length_append,Ap,Aj,List.length_cons];omega
theorem OZ:∀(bs:List Int) (ks:List bA),(∀k∈ks,k.size<=32)->(JS bs ks).length<=36*ks.length+2
 | [],_,_=>by simp[JS]
 | b::bs,[],_=>by simp[JS,Ap]
 | b::bs,k::ks,h=>by have:=OZ bs ks (λx hx=>h x (List.mem_cons_of_mem _ hx));have a1:=h k (by simp);simp only[JS,MG,List.length_append,Ap,Aj,List.length_cons];omega
theorem SO {n:Nd}(hok:NdOK n true):(Du n).size<=4000:=by
 obtain⟨hs,h8,_⟩:=hok;have hks:=Io hs.2.1;rw[show(Du n).size=(F3 n).length from Fu _,F3,List.length_append,Ap];split
 ·rename_i hl;have hv:∀v∈n.vals,v.size<=200:=by
   rcases hs.2.2 with⟨_,_,_,h⟩|⟨h,_⟩
   ·exact h
   ·rw[hl]at h;cases h
  have:=OV n.keys n.vals (λk hk=>(hks k hk).2) hv;omega
 ·have:=OZ n.kids n.keys (λk hk=>(hks k hk).2);omega
theorem VD (n:Nd):1<=C6 n/\C6 n<=2:=by unfold C6;split<;>omega
theorem OA {n:Nd}(hok:NdOK n true){g:Int}(h0:0<=g)(h1:g<=1099511627776):pgOK (C6 n) g (Du n):=by have h2:=VD n;have h3:=SO hok;exact⟨by omega,by omega,h0,h1,by omega⟩
theorem M8 {n:Nd}{r:Bool}(h:NdOK n r):NdOK n true:=⟨h.1,h.2.1,.inl rfl⟩
theorem SK {w:Wd}{b:Int}{n:Nd}{g:Int}(hr:WRight w)(h10:10<=b)(h1:b<w.now.length)(hn:tr w.now b.toNat=true)(hp:pgAt w b=pageB g n)(h0:0<=g)(hg:g<=w.gen){r:Bool}(hok:NdOK n r):Ax w b r=some n:=by have hg2:w.gen<=1099511627776:=hr.2.2.2.1;rw[O1 (by rw[hn];have:=hr.2.1;simp;omega),hp,pageB,Rx (OA (M8 hok) h0 (by omega)),GF,if_neg (by omega),Vb (M8 hok)];dsimp only;rw[if_neg (by simp),if_pos hok]
abbrev TR:=Int->bA->bA->List Pr->List Int->Prop
theorem kok_iff {l:List bA}:X1 l ↔ (Rs l/\∀k∈l,1<=k.size/\k.size<=32):=by refine⟨λh=>⟨Lp h,Io h⟩,λ⟨h1,h2⟩ j hj _=>?_⟩;have:=h2 _ (List.getElem_mem hj);exact⟨this.1,this.2,λh0=>List.pairwise_iff_getElem.1 h1 (j-1) j (by omega) hj (by omega)⟩
def EI {α:Type}(l:List α)(i:Nat)(x:α):List α:=l.take i++x::l.drop i
theorem G8 {α:Type}{l:List α}{i:Nat}(x:α)(h:i<=l.length):(EI l i x).length=l.length+1:=by simp[EI];omega
def GJ {α:Type}(l:List α)(i:Nat):List α:=l.take i++l.drop (i+1)
def AJ (w:Wd)(i:Nat):Bool := !(tr w.base i) && !(tr w.now i)
def CN (w:Wd):Nat->Nat
 | 0=>0
 | i+1=>CN w i+if AJ w i then 1 else 0
def Us (w:Wd):Nat:=CN w w.now.length
def DU (w:Wd):Nat->Option Nat
 | 0=>none
 | i+1=>match DU w i with
   | some j=>some j
   | none=>if AJ w i then some i else none
def firstFree (w:Wd):Option Nat:=DU w w.now.length
theorem DE {w:Wd}:∀ {i j:Nat},DU w i=some j->j<i/\AJ w j=true/\∀k,k<j->AJ w k=false
 | 0,j,h=>by cases h
 | i+1,j,h=>by
  unfold DU at h
  cases hx:DU w i with
  | some k=>
   rw[hx]at h;obtain rfl:k=j:=by simpa using h
   obtain⟨h1,h2,h3⟩:=DE hx;exact⟨by omega,h2,h3⟩
  | none=>
   rw[hx]at h;dsimp only at h;split at h
   ·rename_i hf;obtain rfl:i=j:=by simpa using h
    refine⟨by omega,hf,λk hk=>?_⟩;have hn:∀(m:Nat),DU w m=none->∀k,k<m->AJ w k=false:=λm=>by
     induction m with
     | zero=>intro _ k hk;omega
     | succ m ih=>
      intro hm k hk;unfold DU at hm
      cases hy:DU w m with
      | some z=>rw[hy]at hm;cases hm
      | none=>
       rw[hy]at hm;dsimp only at hm;split at hm;·cases hm
       ·rename_i hg;by_cases e:k=m;·subst e;simpa using hg
        ·exact ih hy k (by omega)
    exact hn i hx k hk
   ·cases h
theorem Hg {w:Wd}:∀ {i:Nat},DU w i=none->∀k,k<i->AJ w k=false
 | 0,_,k,hk=>by omega
 | i+1,h,k,hk=>by
  unfold DU at h
  cases hx:DU w i with
  | some z=>rw[hx]at h;cases h
  | none=>
   rw[hx]at h;dsimp only at h;split at h;·cases h
   ·rename_i hg;by_cases e:k=i;·subst e;simpa using hg
    ·exact Hg hx k (by omega)
theorem H8 {w:Wd}:∀ {i:Nat},(∀k,k<i->AJ w k=false)->CN w i=0
 | 0,_=>rfl
 | i+1,h=>by rw[CN,H8 λk hk=>h k (by omega),h i (by omega)];rfl
theorem XL {w:Wd}(h:firstFree w=none):Us w=0:=H8 (Hg h)
theorem Lx {w x:Wd}{b:Nat}(h:∀j,j≠b->AJ w j=AJ x j):∀i,CN w i<=CN x i+if b<i then 1 else 0
 | 0=>by simp[CN]
 | i+1=>by
  have ih:=Lx h i;unfold CN;by_cases e:i=b;·subst e;rw[if_neg (by omega)]at ih;rw[if_pos (show i<i+1 by omega)];split<;>split<;>omega
  ·rw[h i e];by_cases hb:b<i;·rw[if_pos hb]at ih;rw[if_pos (show b<i+1 by omega)];omega
   ·rw[if_neg hb]at ih;rw[if_neg (show ¬b<i+1 by omega)];omega
theorem L0 {w x:Wd}(h:∀j,AJ w j=true->AJ x j=true):∀i,CN w i<=CN x i
 | 0=>Nat.le_refl _
 | i+1=>by
  have ih:=L0 h i;unfold CN;by_cases hf:AJ w i=true;·rw[hf,h i hf];simp;omega
  ·rw[if_neg hf];omega
structure Fr (w x:Wd) (O N W:List Int):Prop where
 base:x.base=w.base
 gen:x.gen=w.gen
 root:x.root=w.root
 nlen:x.now.length=w.now.length
 plen:x.pages.length=w.pages.length
 now:∀i:Nat,i<w.now.length->tr x.now i=((tr w.now i && !decide ((i:Int)∈O))||decide ((i:Int)∈N))
 page:∀b:Int,0<=b->b∉W->pgAt x b=pgAt w b
 wr:∀b∈W,b∈N/\10<=b/\b<w.now.length/\tr w.base b.toNat=false/\(b∈O\/tr w.now b.toNat=false)/\∃n,NdOK n true/\pgAt x b=pageB w.gen n
 kept:∀b∈N,b∈W\/b∈O
theorem Fr.refl (w:Wd):Fr w w [] [] []:=⟨rfl,rfl,rfl,rfl,rfl,λi _=>by simp,λ_ _ _=>rfl,λb h=>(by cases h),λb h=>(by cases h)⟩
theorem Fr.trans {w x y:Wd}{O N W O' N' W':List Int}(h:Fr w x O N W)(g:Fr x y O' N' W')(hd:∀b∈N,b∉O'):Fr w y (O++O') (N++N') (W++W') where
 base:=g.base.trans h.base
 gen:=g.gen.trans h.gen
 root:=g.root.trans h.root
 nlen:=g.nlen.trans h.nlen
 plen:=g.plen.trans h.plen
 now i hi:=by
  rw[g.now i (by rw[h.nlen];exact hi),h.now i hi];simp only[List.mem_append];by_cases hN:(i:Int)∈N;·have:=hd _ hN;simp[hN,this]
  ·by_cases h1:(i:Int)∈O<;>by_cases h2:(i:Int)∈O'<;>by_cases h3:(i:Int)∈N'<;>simp[hN,h1,h2,h3]
 page b hb hn:=by rw[List.mem_append]at hn;rw[g.page b hb λe=>hn (.inr e),h.page b hb λe=>hn (.inl e)]
 wr b hb:=by
  rw[List.mem_append]at hb;by_cases h2:b∈W'
  ·obtain⟨a1,a2,a3,a4,a5,n,a6,a7⟩:=g.wr b h2;rw[h.nlen]at a3;refine⟨List.mem_append_right _ a1,a2,a3,by rw[<-h.base];exact a4,?_,n,a6,by rw[a7,h.gen]⟩;rcases a5 with a5|a5;·exact .inl (List.mem_append_right _ a5)
   ·rw[h.now b.toNat (by omega),show((b.toNat:Nat):Int)=b by omega]at a5;simp only[Bool.or_eq_false_iff,Bool.and_eq_false_iff,Bool.not_eq_false',decide_eq_true_eq]at a5;rcases a5.1 with a6|a6;·exact .inr a6
    ·exact .inl (List.mem_append_left _ a6)
  ·have hb:=hb.resolve_right h2;obtain⟨a1,a2,a3,a4,a5,n,a6,a7⟩:=h.wr b hb;refine⟨List.mem_append_left _ a1,a2,a3,a4,?_,n,a6,by rw[g.page b (by omega) h2];exact a7⟩;rcases a5 with a5|a5;·exact .inl (List.mem_append_left _ a5)
   ·exact .inr a5
 kept b hb:=by
  rcases List.mem_append.1 hb with hb|hb
  ·rcases h.kept b hb with e|e;·exact .inl (List.mem_append_left _ e)
   ·exact .inr (List.mem_append_left _ e)
  ·rcases g.kept b hb with e|e;·exact .inl (List.mem_append_right _ e)
   ·exact .inr (List.mem_append_right _ e)
theorem Fr.keep {w x:Wd}{O N W:List Int}(h:Fr w x O N W)(E:List Int)(hE:∀b∈E,tr w.now b.toNat=true/\b∉O/\0<=b):Fr w x (O++E) (N++E) W where
 base:=h.base
 gen:=h.gen
 root:=h.root
 nlen:=h.nlen
 plen:=h.plen
 now i hi:=by
  rw[h.now i hi];simp only[List.mem_append];by_cases h1:(i:Int)∈E;·obtain⟨a,b,_⟩:=hE _ h1;rw[show(i:Int).toNat=i by omega]at a;simp[h1,a,b]
  ·simp[h1]
 page:=h.page
 wr b hb:=by
  obtain⟨a1,a2,a3,a4,a5,a6⟩:=h.wr b hb;refine⟨List.mem_append_left _ a1,a2,a3,a4,?_,a6⟩;rcases a5 with a5|a5;·exact .inl (List.mem_append_left _ a5)
  ·exact .inr a5
 kept b hb:=by
  rcases List.mem_append.1 hb with hb|hb
  ·rcases h.kept b hb with e|e;·exact .inl e
   ·exact .inr (List.mem_append_left _ e)
  ·exact .inr (List.mem_append_right _ hb)
theorem Fr.used {w x:Wd}{O N W:List Int}(h:Fr w x O N W){b:Int}(hb:b∈N)(h0:0<=b)(h1:b<w.now.length):tr x.now b.toNat=true:=by rw[h.now b.toNat (by omega),show((b.toNat:Nat):Int)=b by omega];simp[hb]
theorem Fr.right {w x:Wd}{O N W:List Int}(h:Fr w x O N W)(hr:WRight w)(hO:∀b∈O,10<=b)(hs:∀s∈x.pages,s.size<=4096):WRight x:=by
 obtain⟨⟨a1,a2,a3,a4⟩,a5,a6,a7,a8,a9⟩:=hr;refine⟨⟨by rw[h.base,h.nlen];exact a1,by rw[h.nlen];exact a2,by rw[h.nlen];exact a3,λj hj=>⟨by rw[h.base];exact(a4 j hj).1,?_⟩⟩,by rw[h.plen,h.nlen];exact a5,by rw[h.gen];exact a6,by rw[h.gen];exact a7,by rw[h.root,h.nlen];exact a8,hs⟩;rw[h.now j (by omega),(a4 j hj).2];have:(j:Int)∉O:=λe=>by have:=hO _ e;omega
 simp[this]
structure Ed where
 w:Wd
 bad:Int
noncomputable def Ao (e:Ed)(n:Nd):Int×Ed:=
 if e.bad≠0 then (0,e) else if ¬NdOK n true then (0,{ e with bad:=81 }) else match firstFree e.w with
 | none=>(0,{ e with bad:=60 })
 | some b=>((b:Int),{ e with w := { e.w with now:=e.w.now.set b true,pages:=e.w.pages.set b (pageB e.w.gen n) } })
noncomputable def AN (e:Ed)(b d:Int):Nd×Ed:=
 if e.bad≠0 then (GC,e) else match Ax e.w b (d==1) with
 | none=>(GC,{ e with bad:=81 })
 | some n=>if d > 8 then (GC,{ e with bad:=81 }) else (n,e)
noncomputable def CP (e:Ed)(b:Int):Ed:=
 if e.bad≠0 then e else if b<10\/b>=e.w.now.length\/tr e.w.now b.toNat=false then { e with bad:=81 } else { e with w := { e.w with now:=e.w.now.set b.toNat false } }
theorem DW {l:List Bool}{j:Nat}{v:Bool}(hj:j<l.length)(i:Nat):tr (l.set j v) i=if i=j then v else tr l i:=by
 unfold tr;by_cases e:i=j;·subst e;rw[if_pos rfl,List.getElem?_set_self hj];rfl
 ·rw[if_neg e,List.getElem?_set_ne (λh=>e h.symm)]
theorem Je {w:Wd}{j:Nat}{s:bA}(hj:j<w.pages.length)(b:Int):pgAt { w with pages:=w.pages.set j s } b=if b.toNat=j then s else pgAt w b:=by
 unfold pgAt;dsimp only;by_cases e:b.toNat=j;·rw[if_pos e,e,List.getElem?_set_self hj];rfl
 ·rw[if_neg e,List.getElem?_set_ne (λh=>e h.symm)]
theorem QJ {n:Nd}(hok:NdOK n true){g:Int}(h0:0<=g)(h1:g<=1099511627776):(pageB g n).size<=4096:=by
 rcases A6 (pageB g n) with⟨e,he,h⟩|⟨k,g',b,h,_,hs,_⟩
 ·rw[pageB,Rx (OA hok h0 h1)]at h;simp[Ey,pg]at h;exact absurd h.2.symm he
 ·exact hs
theorem Yh {e:Ed}{n:Nd}(he:e.bad=0)(hr:WRight e.w)(hok:NdOK n true):((Ao e n).2.bad=60/\Us e.w=0/\(Ao e n).2.w=e.w) \/
   ((Ao e n).2.bad=0/\WRight (Ao e n).2.w/\Fr e.w (Ao e n).2.w [] [(Ao e n).1] [(Ao e n).1]/\Us e.w<=Us (Ao e n).2.w+1/\tr e.w.now (Ao e n).1.toNat=false /\
     ∀r,NdOK n r->Ax (Ao e n).2.w (Ao e n).1 r=some n):=by
 unfold Ao
 rw[if_neg (by rw[he];simp),if_neg (by simpa using hok)]
 cases hf:firstFree e.w with
 | none=>exact .inl ⟨rfl,XL hf,rfl⟩
 | some b=>
  dsimp only
  obtain⟨h1,h2,h3⟩:=DE hf
  obtain⟨⟨a1,a2,a3,a4⟩,a5,a6,a7,a8,a9⟩:=id hr
  have hfb:tr e.w.base b=false/\tr e.w.now b=false:=by unfold AJ at h2;simpa using h2
  have h10:10<=b:=Classical.byContradiction λhc=>by have:=(a4 b (by omega)).2;rw[hfb.2]at this;cases this
  have hpb:b<e.w.pages.length:=by omega
  have hfr:Fr e.w { e.w with now:=e.w.now.set b true,pages:=e.w.pages.set b (pageB e.w.gen n) } [] [(b:Int)] [(b:Int)]:=by
   refine⟨rfl,rfl,rfl,by simp,by simp,λi hi=>?_,λx hx hn=>?_,λx hx=>?_,λx hx => .inl hx⟩
   ·dsimp only;rw[DW h1];by_cases e1:i=b;·simp[e1]
    ·rw[if_neg e1];have:¬(i:Int)=b:=by omega
     simp[this]
   ·have:x≠b:=by simpa using hn
    show pgAt { e.w with pages:=e.w.pages.set b (pageB e.w.gen n) } x=_;rw[Je hpb,if_neg (by omega)]
   ·obtain rfl:x=b:=by simpa using hx
    refine⟨by simp,by omega,by omega,hfb.1,.inr hfb.2,n,hok,?_⟩;show pgAt { e.w with pages:=e.w.pages.set b (pageB e.w.gen n) } (b:Int)=_;rw[Je hpb,if_pos (by simp)]
  have hw:WRight { e.w with now:=e.w.now.set b true,pages:=e.w.pages.set b (pageB e.w.gen n) }:=by
   refine hfr.right hr (λx hx=>by cases hx) λs hs=>?_;rcases List.mem_or_eq_of_mem_set hs with hs|rfl
   ·exact a9 s hs
   ·exact QJ hok (by omega) a7
  refine .inr ⟨he,hw,hfr,?_,by simpa using hfb.2,λr hnr=>?_⟩
  ·have:=Lx (w:=e.w) (x := { e.w with now:=e.w.now.set b true,pages:=e.w.pages.set b (pageB e.w.gen n) }) (b:=b) (λj hj=>by unfold AJ;dsimp only;rw[DW h1,if_neg hj]) e.w.now.length
   rw[if_pos h1]at this
   have hl:Us { e.w with now:=e.w.now.set b true,pages:=e.w.pages.set b (pageB e.w.gen n) } = CN { e.w with now:=e.w.now.set b true,pages:=e.w.pages.set b (pageB e.w.gen n) } e.w.now.length:=by unfold Us;simp
   rw[hl];exact this
  ·refine SK hw (by omega) (by simp;omega) ?_ (g:=e.w.gen) ?_ (by omega) (Int.le_refl _) hnr
   ·dsimp only
    rw[DW h1,if_pos (by simp)]
   ·show pgAt { e.w with pages:=e.w.pages.set b (pageB e.w.gen n) } (b:Int)=_
    rw[Je hpb,if_pos (by simp)]
theorem cM {e:Ed}{b:Int}{r:Bool}{n:Nd}(he:e.bad=0)(hr:WRight e.w)(hh:Ax e.w b r=some n):(CP e b).bad=0/\WRight (CP e b).w/\Fr e.w (CP e b).w [b] [] []/\Us e.w<=Us (CP e b).w:=by
 have ht:=OX hh;have hrg:=Hl (Ig hr) hh;have hbi:b.toNat<e.w.now.length:=by omega
 unfold CP;rw[if_neg (by rw[he];simp),if_neg (by rw[ht];simp;omega)];have hfr:Fr e.w { e.w with now:=e.w.now.set b.toNat false } [b] [] []:=by
  refine⟨rfl,rfl,rfl,by simp,rfl,λi hi=>?_,λx hx hn=>rfl,λx hx=>(by cases hx),λx hx=>(by cases hx)⟩;dsimp only;rw[DW hbi];by_cases e1:i=b.toNat
  ·have:(i:Int)=b:=by omega
   simp[e1,this];omega
  ·rw[if_neg e1];have:(i:Int)≠b:=by omega
   simp[this]
 refine⟨he,hfr.right hr (λx hx=>?_) hr.2.2.2.2.2,hfr,?_⟩
 ·obtain rfl:x=b:=by simpa using hx
  omega
 ·have:=L0 (w:=e.w) (x := { e.w with now:=e.w.now.set b.toNat false }) (λj hj=>by
   unfold AJ at hj |-;dsimp only;rw[DW hbi];split;·simp only[Bool.and_eq_true]at hj;rw[hj.1];rfl
   ·exact hj) e.w.now.length
  have hl:Us { e.w with now:=e.w.now.set b.toNat false } = CN { e.w with now:=e.w.now.set b.toNat false } e.w.now.length:=by unfold Us;simp
  rw[hl];exact this
theorem E6 {α:Type}{l:List α}{i:Nat}(h:i<l.length)(x:α):l.set i x=l.take i++x::l.drop (i+1):=by rw[List.set_eq_take_append_cons_drop,if_pos h]
def Cont (H:Hd)(h:Nat)(lo hi:bA)(n:Nd)(P:List Pr)(B:List Int):Prop:=
 (∀k∈n.keys,within k lo hi=true)/\(n.leaf=true/\h=0/\n.keys≠[]/\P=n.keys.zip n.vals/\B=[]\/n.leaf=false/\KTr (λc lo hi P B=>Tr H h c false lo hi P B) lo hi n.keys n.kids P B)
theorem rT {H:Hd}{h:Nat}{b:Int}{root:Bool}{lo hi:bA}{P:List Pr}{B:List Int}(ht:Tr H (h+1) b root lo hi P B):∃n B0,H b root=some n/\Cont H h lo hi n P B0/\B=b::B0:=by
 obtain⟨n,hn,hw,⟨a1,a2,a3,a4,rfl⟩|⟨a1,B',rfl,a2⟩⟩:=ht;·exact⟨n,[],hn,⟨hw,.inl ⟨a1,a2,a3,a4,rfl⟩⟩,rfl⟩
 ·exact⟨n,B',hn,⟨hw,.inr ⟨a1,a2⟩⟩,rfl⟩
theorem Cont.frame {H G:Hd}{h:Nat}{lo hi:bA}{n:Nd}{P:List Pr}{B:List Int}(hc:Cont H h lo hi n P B)(f:∀x∈B,∀r n,H x r=some n->G x r=some n):Cont G h lo hi n P B:=by
 obtain⟨hw,a|⟨a1,a2⟩⟩:=hc;·exact⟨hw,.inl a⟩
 ·exact⟨hw,.inr ⟨a1,KTr.mono (λc lo hi P B' hB hx=>Tr.frame (λx hx'=>f x (hB x hx')) hx) a2⟩⟩
theorem Cont.held {H:Hd}{h:Nat}{lo hi:bA}{n:Nd}{P:List Pr}{B:List Int}(hc:Cont H h lo hi n P B):∀x∈B,∃r n,H x r=some n:=by
 obtain⟨_,⟨_,_,_,_,rfl⟩|⟨_,a2⟩⟩:=hc;·intro x hx;cases hx
 ·exact KTr.mem (Q:=λx=>∃r n,H x r=some n) (λc lo hi P B hc=>Tr.held hc) a2
structure Spl where
 left:Int
 right:Int
 key:bA
 two:Bool
def cK:Spl:=⟨0,0,Ar,false⟩
def K9 (n:Nd):Nd:=if n.leaf then ⟨true,n.keys.take 4,n.vals.take 4,[]⟩ else ⟨false,n.keys.take 4,[],n.kids.take 5⟩
def OM (n:Nd):Nd:=if n.leaf then ⟨true,n.keys.drop 4,n.vals.drop 4,[]⟩ else ⟨false,n.keys.drop 5,[],n.kids.drop 5⟩
def cC (n:Nd):bA:=(n.keys[4]?).getD Ar
noncomputable def F8 (e:Ed)(n:Nd):Spl×Ed:=
 if n.keys.length<=8 then (⟨(Ao e n).1,0,Ar,false⟩,(Ao e n).2)
 else if ¬(Ay n/\n.keys.length=9) then (cK,{ e with bad:=81 })
 else (⟨(Ao e (K9 n)).1,(Ao (Ao e (K9 n)).2 (OM n)).1,cC n,true⟩,(Ao (Ao e (K9 n)).2 (OM n)).2)
theorem UM {e:Ed}{n:Nd}(he:e.bad≠0):Ao e n=(0,e):=by rw[Ao,if_pos he]
theorem Fr.new {w x:Wd}{N W:List Int}(h:Fr w x [] N W){b:Int}(hb:b∈W):tr w.now b.toNat=false:=by
 rcases(h.wr b hb).2.2.2.2.1 with e|e;·cases e
 ·exact e
noncomputable def D6 (n:Nd)(key val:bA):Nd:=
 if Gd n.keys key then ⟨n.leaf,n.keys,n.vals.set (CC n.keys key) val,n.kids⟩ else ⟨n.leaf,EI n.keys (CC n.keys key) key,EI n.vals (CC n.keys key) val,n.kids⟩
def Di (n:Nd)(i:Nat)(s:Spl):Nd:=
 if s.two then ⟨n.leaf,EI n.keys i s.key,n.vals,EI (n.kids.set i s.left) (i+1) s.right⟩ else ⟨n.leaf,n.keys,n.vals,n.kids.set i s.left⟩
noncomputable def FP (key val:bA):Nat->Ed->Int->Int->Spl×Ed
 | 0,e,_,_=>(cK,{ e with bad:=81 })
 | f+1,e,b,d=>
   let n:=(AN e b d).1
   let e1:=(AN e b d).2
   if e1.bad≠0 then (cK,e1) else
   let e2:=CP e1 b
   if n.leaf then F8 e2 (D6 n key val) else
   let i:=Bl n.keys key
   let r:=FP key val f e2 ((n.kids[i]?).getD 0) (d+1)
   if r.2.bad≠0 then (cK,r.2) else F8 r.2 (Di n i r.1)
structure Inv (w:Wd) (e:Ed):Prop where
 right:WRight e.w
 base:e.w.base=w.base
 gen:e.w.gen=w.gen
 root:e.w.root=w.root
 nlen:e.w.now.length=w.now.length
 page:∀b:Int,0<=b->tr w.base b.toNat=true->pgAt e.w b=pgAt w b
 bad:e.bad=0\/e.bad=60\/e.bad=81
theorem Inv.start {w:Wd}(h:WRight w):Inv w ⟨w,0⟩:=⟨h,rfl,rfl,rfl,rfl,λ_ _ _=>rfl,.inl rfl⟩
theorem Inv.tree {w:Wd}{e:Ed}(h:Inv w e):Inv w { e with bad:=81 }:=⟨h.right,h.base,h.gen,h.root,h.nlen,h.page,.inr (.inr rfl)⟩
theorem Inv.step {w:Wd}{e e':Ed}{O N W:List Int}(h:Inv w e)(f:Fr e.w e'.w O N W)(hr:WRight e'.w)(hb:e'.bad=0\/e'.bad=60\/e'.bad=81):Inv w e' where
 right:=hr
 base:=f.base.trans h.base
 gen:=f.gen.trans h.gen
 root:=f.root.trans h.root
 nlen:=f.nlen.trans h.nlen
 page b hb ht:=by rw[f.page b hb λhw=>?_,h.page b hb ht];have:=(f.wr b hw).2.2.2.1;rw[h.base,ht]at this;cases this
 bad:=hb
def gK (w:Wd)(b:Int):Prop:=10<=b/\b<w.now.length
theorem BG {w:Wd}{e:Ed}{n:Nd}(h:Inv w e):Inv w (Ao e n).2/\((Ao e n).2.bad=0->e.bad=0/\gK w (Ao e n).1):=by
 by_cases he:e.bad=0
 ·by_cases hok:NdOK n true
  ·rcases Yh he h.right hok with⟨a1,a2,a3⟩|⟨a1,a2,a3,a4,a5,a6⟩
   ·refine⟨⟨by rw[a3];exact h.right,by rw[a3];exact h.base,by rw[a3];exact h.gen,by rw[a3];exact h.root,by rw[a3];exact h.nlen,by rw[a3];exact h.page,.inr (.inl a1)⟩,λhb=>?_⟩;rw[a1]at hb;cases hb
   ·refine⟨h.step a3 a2 (.inl a1),λ_=>⟨he,?_⟩⟩;have:=a3.wr (Ao e n).1 (by simp);rw[h.nlen]at this;exact⟨this.2.1,this.2.2.1⟩
  ·unfold Ao;rw[if_neg (by rw[he];simp),if_pos hok];exact⟨h.tree,λhb=>by cases hb⟩
 ·rw[UM he];exact⟨h,λhb=>absurd hb he⟩
theorem DS {w:Wd}{e:Ed}{b d:Int}(h:Inv w e):Inv w (AN e b d).2/\((AN e b d).2.bad=0->e.bad=0/\(AN e b d).2=e/\Ax e.w b (d==1)=some (AN e b d).1/\d<=8):=by
 unfold AN;by_cases he:e.bad=0
 ·rw[if_neg (by rw[he];simp)]
  cases hh:Ax e.w b (d==1) with
  | none=>exact⟨h.tree,λhb=>by cases hb⟩
  | some n=>
   dsimp only;by_cases hd:d > 8;·rw[if_pos hd];exact⟨h.tree,λhb=>by cases hb⟩
   ·rw[if_neg hd];exact⟨h,λ_=>⟨he,rfl,rfl,by omega⟩⟩
 ·rw[if_pos he];exact⟨h,λhb=>absurd hb he⟩
theorem En {w:Wd}{e:Ed}{b:Int}{r:Bool}{n:Nd}(h:Inv w e)(he:e.bad=0)(hh:Ax e.w b r=some n):Inv w (CP e b)/\(CP e b).bad=0:=by obtain⟨a1,a2,a3,a4⟩:=cM he h.right hh;exact⟨h.step a3 a2 (.inl a1),a1⟩
theorem QM {w:Wd}{e:Ed}{n:Nd}(h:Inv w e):Inv w (F8 e n).2/\((F8 e n).2.bad=0->gK w (F8 e n).1.left/\((F8 e n).1.two=true->gK w (F8 e n).1.right)):=by
 unfold F8;by_cases h8:n.keys.length<=8;·rw[if_pos h8];obtain⟨a1,a2⟩:=BG (n:=n) h;exact⟨a1,λhb=>⟨(a2 hb).2,λh=>by cases h⟩⟩
 ·rw[if_neg h8];by_cases hs:Ay n/\n.keys.length=9;·rw[if_neg (by simpa using hs)];obtain⟨a1,a2⟩:=BG (n:=K9 n) h;obtain⟨b1,b2⟩:=BG (n:=OM n) a1;exact⟨b1,λhb=>⟨(a2 (b2 hb).1).2,λ_=>(b2 hb).2⟩⟩
  ·rw[if_pos hs];exact⟨h.tree,λhb=>by cases hb⟩
theorem KI {w:Wd}{key val:bA}:∀(f:Nat) (e:Ed) (b d:Int),Inv w e ->
   Inv w (FP key val f e b d).2/\((FP key val f e b d).2.bad=0->gK w (FP key val f e b d).1.left/\((FP key val f e b d).1.two=true->gK w (FP key val f e b d).1.right))
 | 0,e,b,d,h=>⟨h.tree,λhb=>by cases hb⟩
 | f+1,e,b,d,h=>by
  unfold FP;dsimp only;obtain⟨a1,a2⟩:=DS (b:=b) (d:=d) h;by_cases hb:(AN e b d).2.bad=0
  ·rw[if_neg (by rw[hb];simp)];obtain⟨c1,c2,c3,c4⟩:=a2 hb;rw[c2];generalize (AN e b d).1=n at c3 |-;obtain⟨d1,d2⟩:=En h c1 c3;by_cases hl:n.leaf=true;·rw[if_pos hl];exact QM d1
   ·rw[if_neg hl];have ih:=KI (key:=key) (val:=val) f (CP e b) ((n.kids[Bl n.keys key]?).getD 0) (d+1) d1;by_cases hr:(FP key val f (CP e b) ((n.kids[Bl n.keys key]?).getD 0) (d+1)).2.bad=0;·rw[if_neg (by rw[hr];simp)];exact QM ih.1
    ·rw[if_pos hr];exact⟨ih.1,λhb=>absurd hb hr⟩
  ·rw[if_pos hb];exact⟨a1,λh=>absurd h hb⟩
def wd0:Wd:=⟨[],[],[],0,0⟩
noncomputable def MR (e:Ed):Wd×Int:=if e.bad≠0 then (wd0,e.bad) else (e.w,0)
noncomputable def BP (r:Int×Ed):Ed := { r.2 with w := { r.2.w with root:=r.1 } }
def isPair (key val:bA):Prop:=1<=key.size/\key.size<=32/\val.size<=200
instance (key val:bA):Decidable (isPair key val):=by unfold isPair;infer_instance
noncomputable def Qr (w:Wd)(key val:bA):Int×Ed:=
 if w.root=0 then Ao ⟨w,0⟩ ⟨true,[key],[val],[]⟩ else
 let r:=FP key val 9 ⟨w,0⟩ w.root 1
 if r.1.two=true then Ao r.2 ⟨false,[r.1.key],[],[r.1.left,r.1.right]⟩ else (r.1.left,r.2)
noncomputable def GW (w:Wd)(key val:bA):Wd×Int:=
 if ¬(WRight w/\isPair key val) then (wd0,1) else MR (BP (Qr w key val))
def Fq (w x:Wd)(O N W:List Int):Prop:=Fr w { x with root:=w.root } O N W
theorem Fr.q {w x:Wd}{O N W:List Int}(h:Fr w x O N W)(r:Int):Fq w { x with root:=r } O N W:=by
 unfold Fq;have e:({ { x with root:=r } with root:=w.root }:Wd)=x:=by obtain⟨b,n,p,r0,g⟩:=x;have:=h.root;simp only at this;simp[this]
 rw[e];exact h
theorem J7 {w:Wd}{r:Int}(h:WRight w)(hr:r=0\/(10<=r/\r<w.now.length)):WRight { w with root:=r }:=by obtain⟨a1,a2,a3,a4,a5,a6⟩:=h;exact⟨a1,a2,a3,a4,hr,a6⟩
theorem GK {r:Int×Ed}(h:r.2.bad≠0):MR (BP r)=(wd0,r.2.bad):=by unfold MR BP;rw[if_pos (by exact h)]
theorem S9 {r:Int×Ed}(h:r.2.bad=0):MR (BP r)=({ r.2.w with root:=r.1 },0):=by unfold MR BP;rw[if_neg (by simpa using h)]
theorem XG {w:Wd}{key val:bA}(hr:WRight w)(hp:isPair key val):
   (GW w key val=(wd0,60)\/GW w key val=(wd0,81))\/∃x,GW w key val=(x,0)/\WRight x/\x.base=w.base/\x.gen=w.gen/\x.now.length=w.now.length/\x.pages.length=w.pages.length/\∀b:Int,0<=b->tr w.base b.toNat=true->pgAt x b=pgAt w b:=by
 unfold GW
 rw[if_neg (by simp;exact⟨hr,hp⟩)]
 have hx:Inv w (Qr w key val).2/\((Qr w key val).2.bad=0->gK w (Qr w key val).1):=by
  unfold Qr;by_cases h0:w.root=0;·rw[if_pos h0];obtain⟨a1,a2⟩:=BG (n:=⟨true,[key],[val],[]⟩) (Inv.start hr);exact⟨a1,λhb=>(a2 hb).2⟩
  ·rw[if_neg h0];dsimp only;obtain⟨a1,a2⟩:=KI (key:=key) (val:=val) 9 ⟨w,0⟩ w.root 1 (Inv.start hr);by_cases ht:(FP key val 9 ⟨w,0⟩ w.root 1).1.two=true;·rw[if_pos ht];obtain⟨b1,b2⟩:=BG (n:=⟨false,[(FP key val 9 ⟨w,0⟩ w.root 1).1.key],[],[(FP key val 9 ⟨w,0⟩ w.root 1).1.left,(FP key val 9 ⟨w,0⟩ w.root 1).1.right]⟩) a1;exact⟨b1,λhb=>(b2 hb).2⟩
   ·rw[if_neg ht];exact⟨a1,λhb=>(a2 hb).1⟩
 generalize Qr w key val=r at hx |-
 obtain⟨hi,hb⟩:=hx
 rcases hi.bad with e|e|e
 ·refine .inr ⟨_,S9 e,J7 hi.right (.inr ?_),hi.base,hi.gen,hi.nlen,?_,hi.page⟩
  ·have:=hb e
   rw[hi.nlen];exact this
  ·have h1:=hi.right.2.1
   have h2:=hr.2.1
   have h3:=hi.nlen
   show r.2.w.pages.length=_
   omega
 ·exact .inl (.inl (by rw[GK (by rw[e];decide),e]))
 ·exact .inl (.inr (by rw[GK (by rw[e];decide),e]))
theorem Ti {R:TR}{k hi:bA}{ks2:List bA}{cs2:List Int}{P2:List Pr}{B2:List Int}(h2:KTr R k hi ks2 cs2 P2 B2):∀ {ks1:List bA} {cs1:List Int} {lo:bA} {P1:List Pr} {B1:List Int},KTr R lo k ks1 cs1 P1 B1->KTr R lo hi (ks1++k::ks2) (cs1++cs2) (P1++P2) (B1++B2)
 | [],[],_,_,_,h=>h.elim
 | [],[c],lo,P1,B1,h=>⟨P1,B1,P2,B2,h,h2,rfl,rfl⟩
 | [],_::_::_,_,_,_,h=>h.elim
 | _::_,[],_,_,_,h=>h.elim
 | y::ks1,c::cs1,lo,P1,B1,h=>by obtain⟨Q1,C1,Q2,C2,g1,g2,rfl,rfl⟩:=h;exact⟨Q1,C1,Q2++P2,C2++B2,g1,Ti h2 g2,by simp,by simp⟩
def Tail (R:TR)(hi' hi:bA)(kr:List bA)(cr:List Int)(P:List Pr)(B:List Int):Prop:=
 kr=[]/\cr=[]/\hi'=hi/\P=[]/\B=[]\/∃kr',kr=hi'::kr'/\KTr R hi' hi kr' cr P B
theorem Tail.mono {R S:TR}{hi' hi:bA}{kr:List bA}{cr:List Int}{P:List Pr}{B:List Int}(m:∀c lo hi P B',(∀x∈B',x∈B)->R c lo hi P B'->S c lo hi P B')(h:Tail R hi' hi kr cr P B):Tail S hi' hi kr cr P B:=by
 rcases h with h|⟨kr',h1,h2⟩
 ·exact .inl h
 ·exact .inr ⟨kr',h1,KTr.mono m h2⟩
def CR (H:Hd)(h:Nat)(lo hi:bA)(n:Nd)(P:List Pr)(B:List Int):Prop:=
 (∀k∈n.keys,within k lo hi=true)/\X1 n.keys /\
 (n.leaf=true/\h=0/\n.kids=[]/\n.vals.length=n.keys.length/\(∀v∈n.vals,v.size<=200)/\P=n.keys.zip n.vals/\B=[] \/
  n.leaf=false/\n.vals=[]/\KTr (λc lo hi P B=>Tr H h c false lo hi P B) lo hi n.keys n.kids P B)
theorem CR.frame {H G:Hd}{h:Nat}{lo hi:bA}{n:Nd}{P:List Pr}{B:List Int}(hc:CR H h lo hi n P B)(f:∀x∈B,∀r n,H x r=some n->G x r=some n):CR G h lo hi n P B:=by
 obtain⟨c1,c2,a|⟨a1,a2,a3⟩⟩:=hc;·exact⟨c1,c2,.inl a⟩
 ·exact⟨c1,c2,.inr ⟨a1,a2,KTr.mono (λc lo hi P B' hB hx=>Tr.frame (λx hx'=>f x (hB x hx')) hx) a3⟩⟩
theorem CR.held {H:Hd}{h:Nat}{lo hi:bA}{n:Nd}{P:List Pr}{B:List Int}(hc:CR H h lo hi n P B):∀x∈B,∃r n,H x r=some n:=by
 obtain⟨c1,c2,⟨_,_,_,_,_,_,rfl⟩|⟨a1,a2,a3⟩⟩:=hc;·intro x hx;cases hx
 ·exact KTr.mem (Q:=λx=>∃r n,H x r=some n) (λc lo hi P B hc=>Tr.held hc) a3
def Av (a:Nd)(k:bA)(b:Nd):Nd:=
 if a.leaf then ⟨true,a.keys++b.keys,a.vals++b.vals,[]⟩ else ⟨false,a.keys++k::b.keys,[],a.kids++b.kids⟩
def Et (n:Nd)(c:Nat):Nd:=if n.leaf then ⟨true,n.keys.take c,n.vals.take c,[]⟩ else ⟨false,n.keys.take c,[],n.kids.take (c+1)⟩
def Gh (n:Nd)(c:Nat):Nd:=if n.leaf then ⟨true,n.keys.drop c,n.vals.drop c,[]⟩ else ⟨false,n.keys.drop (c+1),[],n.kids.drop (c+1)⟩
def U0 (n:Nd)(c:Nat):bA:=(n.keys[c]?).getD Ar
theorem P9 {l1 l2:List bA}(h1:Rs l1)(h2:Rs l2)(h:∀x∈l1,∀y∈l2,lt x y=true):Rs (l1++l2):=List.pairwise_append.2 ⟨h1,h2,h⟩
theorem lL {R:TR}(m:∀c lo hi P B,R c lo hi P B->P≠[]):∀ {ks:List bA} {cs:List Int} {lo hi:bA} {P:List Pr} {B:List Int},KTr R lo hi ks cs P B->P≠[]
 | [],[],_,_,_,_,hk=>hk.elim
 | [],[c],_,_,_,_,hk=>m _ _ _ _ _ hk
 | [],_::_::_,_,_,_,_,hk=>hk.elim
 | _::_,[],_,_,_,_,hk=>hk.elim
 | k::ks,c::cs,lo,hi,P,B,hk=>by obtain⟨P1,B1,P2,B2,h1,h2,rfl,rfl⟩:=hk;have:=m _ _ _ _ _ h1;simp[this]
theorem gX {H:Hd}(ho:zD H):∀(h:Nat) (b:Int) (lo hi:bA) (P:List Pr) (B:List Int),Tr H h b false lo hi P B->P≠[]
 | 0,_,_,_,_,_,ht=>ht.elim
 | h+1,b,lo,hi,P,B,ht=>by
  obtain⟨n,B0,hn,⟨_,⟨hl,_,hk,hP,_⟩|⟨hl,hk⟩⟩,rfl⟩:=rT ht
  ·rcases(ho _ _ _ hn).1.2.2 with⟨_,_,hv,_⟩|⟨hx,_⟩
   ·rw[hP];intro e;have:=congrArg List.length e;rw[List.length_zip,hv,Nat.min_self,List.length_nil]at this;have h0:=List.length_pos_iff.2 hk;omega
   ·rw[hl]at hx;cases hx
  ·exact lL (λc lo hi P B hc=>gX ho h c lo hi P B hc) hk
theorem mZ {R:TR}(mw:∀c lo hi P B,R c lo hi P B->∀p∈P,within p.1 lo hi=true)(m:∀c lo hi P B,R c lo hi P B->P≠[]){ks:List bA}{cs:List Int}{lo hi:bA}{P:List Pr}{B:List Int}(hr:Rs ks)(he:∀k∈ks,k≠Ar)(h:KTr R lo hi ks cs P B):∀k∈ks,lt lo k=true:=by
 cases ks with
 | nil=>intro k hk;cases hk
 | cons k ks=>
  cases cs with
  | nil=>exact h.elim
  | cons c cs=>
   obtain⟨P1,B1,P2,B2,h1,h2,rfl,rfl⟩:=h;obtain⟨p,hp⟩:=List.exists_mem_of_ne_nil _ (m _ _ _ _ _ h1);obtain⟨g1,g2⟩:=within_iff.1 (mw _ _ _ _ _ h1 p hp);have g2:=g2.resolve_left (he k (by simp));have hk:lt lo k=true:=by
    rcases nlt_iff.1 g1 with e|e;·first | exact e▸g2|exact e.symm▸g2
    ·exact CT e g2
   intro x hx;rcases List.mem_cons.1 hx with rfl|hx;·exact hk
   ·exact CT hk ((List.pairwise_cons.1 hr).1 x hx)
theorem Tc {H:Hd}(ho:zD H){h:Nat}{lo k hi:bA}{a b:Nd}{Pa Pb:List Pr}{Ba Bb:List Int}(hk:1<=k.size/\k.size<=32)(hw:within k lo hi=true)(ha:CR H h lo k a Pa Ba)(hb:CR H h k hi b Pb Bb)(hl:a.leaf=b.leaf):
   CR H h lo hi (Av a k b) (Pa++Pb) (Ba++Bb)/\(Av a k b).leaf=a.leaf:=by
 have hke:k≠Ar:=λe=>by have:=hk.1;rw[e]at this;exact absurd this (by decide)
 obtain⟨a1,a2,a3⟩:=ha
 obtain⟨b1,b2,b3⟩:=hb
 obtain⟨ar,az⟩:=kok_iff.1 a2
 obtain⟨br,bz⟩:=kok_iff.1 b2
 obtain⟨w1,w2⟩:=within_iff.1 hw
 have ak:∀x∈a.keys,lt x k=true:=λx hx=>by
  rcases(within_iff.1 (a1 x hx)).2 with e|e;·exact absurd e hke
  ·exact e
 have bk:∀x∈b.keys,lt x k=false:=λx hx=>(within_iff.1 (b1 x hx)).1
 have aw:∀x∈a.keys,within x lo hi=true:=λx hx=>J1 (a1 x hx) hke hw
 have bw:∀x∈b.keys,within x lo hi=true:=λx hx=>L9 (b1 x hx) w1
 unfold Av
 rcases a3 with⟨x1,x2,x3,x4,x5,x6,x7⟩|⟨x1,x2,x3⟩
 ·rw[x1]at hl |-
  rw[if_pos rfl]
  rcases b3 with⟨y1,y2,y3,y4,y5,y6,y7⟩|⟨y1,_⟩
  ·refine⟨⟨λx hx=>?_,kok_iff.2 ⟨P9 ar br λx hx y hy=>qX (ak x hx) (bk y hy),λx hx=>?_⟩,.inl ⟨rfl,x2,rfl,by simp;omega,λv hv=>?_,?_,by rw[x7,y7];rfl⟩⟩,rfl⟩
   ·rcases List.mem_append.1 hx with h|h
    ·exact aw x h
    ·exact bw x h
   ·rcases List.mem_append.1 hx with h|h
    ·exact az x h
    ·exact bz x h
   ·rcases List.mem_append.1 hv with h|h
    ·exact x5 v h
    ·exact y5 v h
   ·rw[x6,y6];exact(List.zip_append (by omega)).symm
  ·rw[y1]at hl;cases hl
 ·rw[x1]at hl |-
  rw[if_neg (by simp)]
  rcases b3 with⟨y1,_⟩|⟨y1,y2,y3⟩
  ·rw[y1]at hl;cases hl
  ·have hbr:∀x∈b.keys,lt k x=true:=mZ (λc lo hi P B hc=>hc.within ho) (λc lo hi P B hc=>gX ho h c lo hi P B hc) br (λx hx e=>by have:=(bz x hx).1;rw[e]at this;exact absurd this (by decide)) y3
   refine⟨⟨λx hx=>?_,kok_iff.2 ⟨P9 ar (List.pairwise_cons.2 ⟨hbr,br⟩) λx hx y hy=>?_,λx hx=>?_⟩,.inr ⟨rfl,rfl,Ti y3 x3⟩⟩,rfl⟩
   ·rcases List.mem_append.1 hx with h|h
    ·exact aw x h
    ·rcases List.mem_cons.1 h with rfl|h
     ·exact hw
     ·exact bw x h
   ·rcases List.mem_cons.1 hy with rfl|hy
    ·exact ak x hx
    ·exact CT (ak x hx) (hbr y hy)
   ·rcases List.mem_append.1 hx with h|h
    ·exact az x h
    ·rcases List.mem_cons.1 h with rfl|h
     ·exact hk
     ·exact bz x h
def UL (n:Nd)(l:Nat)(c:Int):Nd:=⟨n.leaf,n.keys.take l++n.keys.drop (l+1),n.vals,n.kids.take l++c::n.kids.drop (l+2)⟩
def Rf (n:Nd)(l:Nat)(x:Int)(k:bA)(y:Int):Nd:=⟨n.leaf,n.keys.take l++k::n.keys.drop (l+1),n.vals,n.kids.take l++x::y::n.kids.drop (l+2)⟩
def A3 (a b:Nd):Nat:=if a.keys.length > b.keys.length then a.keys.length-1 else a.keys.length+1
noncomputable def DZ (e:Ed)(n:Nd)(l:Nat)(a b:Nd):Nd×Ed:=
 let j:=Av a ((n.keys[l]?).getD Ar) b
 if Ay a/\Ay b/\Ay j/\j.keys.length<=8 then (UL n l (Ao e j).1,(Ao e j).2)
 else (Rf n l (Ao e (Et j (A3 a b))).1 (U0 j (A3 a b)) (Ao (Ao e (Et j (A3 a b))).2 (Gh j (A3 a b))).1,(Ao (Ao e (Et j (A3 a b))).2 (Gh j (A3 a b))).2)
end Go.Proofs.YtjmpnbbeplgchabGreatDoor.M
