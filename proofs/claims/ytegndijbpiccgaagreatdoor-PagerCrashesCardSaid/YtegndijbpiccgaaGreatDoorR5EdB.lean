import Derived.Test.YtegndijbpiccgaaGreatDoorR5ScanQ
namespace Go.Proofs.YtegndijbpiccgaaGreatDoor.M
set_option linter.unusedVariables false
set_option linter.unusedSimpArgs false
open Go Go.Mir
def hW (lo hi:bA):Heap:=[hB 13700000 [aS lo],hB 13700001 [aS hi]]
theorem AGF (k lo hi:bA):Runs AD 172 [aS k,.ptr 13700000 0,.ptr 13700001 0] (hW lo hi) (aB (!(within k lo hi))) (hW lo hi):=by
 refine Ca (c:=c172) rfl rfl (by kernel_rfl) ?_;show Vc AD c172.body (Af c172 [.n (.str k),.ptr 13700000 0,.ptr 13700001 0]) [(13700000,.box [.n (.str lo)]),(13700001,.box [.n (.str hi)])] (AP c172 [(13700000,.box [.n (.str lo)]),(13700001,.box [.n (.str hi)])] _);rw[jE,(mB _ _ _ _).down];have e:(hi.toList==(ByteArray.mk (List.toArray [])).toList)=decide (hi=empS):=DJ hi empS;rw[e];show Ae (lt k lo) _ _;refine Aa (λh=>⟨by rw[within,h];rfl,rfl⟩) (λh=>Aa (λh2=>⟨?_,rfl⟩) (λh2=>⟨?_,rfl⟩))
 ·have h2:decide (hi=empS)=false:=by simpa using h2
  rw[within,h,h2];rfl
 ·have h2:decide (hi=empS)=true:=by simpa using h2
  rw[within,h,h2];rfl
theorem xH (l:List bA)(hl:Small l.length)(lo hi:bA):∃r:Int,decide (r>=0)=l.any (λk => !(within k lo hi))/\Runs AD 146 [aL (AG l),.fn 172 [.ptr 13700000 0,.ptr 13700001 0]] (hW lo hi) (aI r) (hW lo hi):=by
 have key:∃r H',Runs AD 146 [.o (.sl 1 (AG l)),.fn 172 [.ptr 13700000 0,.ptr 13700001 0]] (hW lo hi) r H'/\∃k:Int,r = .n (.int .i64 k)/\H'=hW lo hi/\decide (k>=0)=l.any (λk => !(within k lo hi)):=by
  refine DH (R:=λr H'=>∃k:Int,r = .n (.int .i64 k)/\H'=hW lo hi/\decide (k>=0)=l.any (λk => !(within k lo hi))) Ys rfl (by kernel_rfl) ?_;show Vc AD c146.body (Af c146 [.o (.sl 1 (AG l)),.fn 172 [.ptr 13700000 0,.ptr 13700001 0]]) [(13700000,.box [.n (.str lo)]),(13700001,.box [.n (.str hi)])] (AP c146 [(13700000,.box [.n (.str lo)]),(13700001,.box [.n (.str hi)])] _);rw[nU,(mJ _ _ _ _).down,Am];refine⟨λk=>0<=k/\k<=l.length/\∀(j:Nat) (h:j<l.length),(j:Int)<k->(!(within l[j] lo hi))=false,λk=>(l.length-k).toNat,⟨rfl,by omega,by omega,λj _ hj=>by omega⟩,?_⟩;rintro k ⟨k0,k1,hok⟩ _;refine Ab (λh=>?_) (λh=>⟨-1,rfl,rfl,?_⟩)
  ·have hi':k.toNat<l.length:=by omega
   refine⟨rfl,k0,_,AZ hi',_,rfl,_,AGF _ lo hi,Aa (λhb=>⟨k,rfl,rfl,?_⟩) (λhb=>?_)⟩;·rw[decide_eq_true k0];exact(Jy (p:=λk:bA => !(within k lo hi)) hi' hb).symm
   ·repeat (refine And.intro rfl ?_)
    rw[Ad _ (by omega)];exact⟨⟨by omega,by omega,Hc (p:=λk:bA => !(within k lo hi)) k0 hi' hb hok⟩,by first|omega|(dsimp only;omega)⟩
  ·exact(Jq (p:=λk:bA => !(within k lo hi)) k0 h hok).symm
 obtain⟨r,H',hr,k,rfl,rfl,hk⟩:=key;exact⟨k,hk,hr⟩
theorem xP (l:List bA)(hl:Small l.length)(lo hi:bA):Runs AD 111 [aL (AG l),.fn 172 [.ptr 13700000 0,.ptr 13700001 0]] (hW lo hi) (aB (l.any λk => !(within k lo hi))) (hW lo hi):=by refine Ca (c:=c111) rfl rfl (by kernel_rfl) ?_;show Vc AD c111.body (Af c111 [.o (.sl 1 (AG l)),.fn 172 [.ptr 13700000 0,.ptr 13700001 0]]) [(13700000,.box [.n (.str lo)]),(13700001,.box [.n (.str hi)])] (AP c111 [(13700000,.box [.n (.str lo)]),(13700001,.box [.n (.str hi)])] _);rw[kM,(lP _ _ _ _).down];obtain⟨r,hr,h⟩:=xH l hl lo hi;exact⟨r,h,by rw[hr],rfl⟩
structure CS where
 used:List Bool
 np:Int
 he:Int
 nb:Int
 bad:Bool
def Cw (N:Nat)(bs:List Int):List Bool:=(List.range N).map λi:Nat=>decide ((i:Int)∈bs)
theorem Fw (N:Nat)(bs:List Int):(Cw N bs).length=N:=by simp[Cw]
theorem Er {N:Nat}{bs:List Int}{i:Nat}(h:i<(Cw N bs).length):(Cw N bs)[i]=decide ((i:Int)∈bs):=by simp[Cw]
theorem NH {N:Nat}{bs:List Int}{b:Int}(h0:0<=b):(Cw N bs).set b.toNat true=Cw N (bs++[b]):=by
 refine List.ext_getElem (by simp[Cw]) λi h1 h2=>?_;rw[List.getElem_set,Er,Er (by simpa[Cw] using h1)];by_cases e:b.toNat=i
 ·rw[if_pos e];have:(i:Int)=b:=by omega
  simp[this]
 ·rw[if_neg e];have:(i:Int)≠b:=by omega
  simp[this]
def Kp (N:Nat)(t:TS):CS:=⟨Cw N t.bs,t.ps.length,t.he,t.bs.length,t.bad⟩
def hC (w:Wd)(s:CS)(v:Nat):Heap:=[hR 9200305 v 4 1 (Bg s.used),hB 9200307 [aL (Bg w.base),aL (Bg w.now),aL (AG w.pages),aI w.root,aI w.gen,aI s.np,aI s.he,aI s.nb,.row 9200305 v,aB s.bad]]
def UE (N:Nat)(s:CS)(t:TS):Prop:=s.bad=t.bad/\(t.bad=false->s=Kp N t)
theorem Hp (l:List Bool)(i:Nat)(b:Bool):(Bg l).set i (.bool b)=Bg (l.set i b):=by simp[Bg,List.map_set]
theorem PV {N:Nat}{s:CS}{t:TS}(h1:s.bad=true)(h2:t.bad=true):UE N s t:=⟨by rw[h1,h2],λh=>by rw[h2]at h;cases h⟩
set_option maxRecDepth 10000 in
set_option maxHeartbeats 17100000 in
theorem ABh (w:Wd)(hf:WFits w)(hr:WRight w):∀(f:Nat) (b d:Int) (lo hi:bA) (t:TS) (v:Nat),d+f=10->1<=d->1<=f->TInv t->t.bad=false ->
   ∃s',Runs AD 137 [.ptr 9200307 0,.n (.int .i64 b),.n (.int .i64 d),.n (.str lo),.n (.str hi)] (hC w (Kp w.now.length t) v) (.tup []) (hC w s' v)/\UE w.now.length s' (below (Aj w) f b d lo hi t)
 | 0,b,d,lo,hi,t,v,_,_,hf1,_,_=>by omega
 | f+1,b,d,lo,hi,t,v,hdf,hd,_,ht,htb=>by
  have g40:=vA w hf b (d==1);have hn:=CK hr;have hlen:=ht.len;have hps:=ht.ps;have key:∃r H',Runs AD 137 [.ptr 9200307 0,.n (.int .i64 b),.n (.int .i64 d),.n (.str lo),.n (.str hi)] (hC w (Kp w.now.length t) v) r H'/\r = .tup []/\∃s',H'=hC w s' v/\UE w.now.length s' (below (Aj w) (f+1) b d lo hi t):=by
   refine DH (R:=λr H'=>r = .tup []/\∃s',H'=hC w s' v/\UE w.now.length s' (below (Aj w) (f+1) b d lo hi t)) ACm rfl (by kernel_rfl) ?_;show Vc AD c137.body (Af c137 [.ptr 9200307 0,.n (.int .i64 b),.n (.int .i64 d),.n (.str lo),.n (.str hi)]) [(9200305,.row false false v 4 1 (Bg (Cw w.now.length t.bs))),(9200307,.box [.o (.sl 1 (Bg w.base)),.o (.sl 1 (Bg w.now)),.o (.sl 1 (AG w.pages)),.n (.int .i64 w.root),.n (.int .i64 w.gen),.n (.int .i64 t.ps.length),.n (.int .i64 t.he),.n (.int .i64 t.bs.length),.row 9200305 v,.n (.bool t.bad)])] (AP c137 [(9200305,.row false false v 4 1 (Bg (Cw w.now.length t.bs))),(9200307,.box [.o (.sl 1 (Bg w.base)),.o (.sl 1 (Bg w.now)),.o (.sl 1 (AG w.pages)),.n (.int .i64 w.root),.n (.int .i64 w.gen),.n (.int .i64 t.ps.length),.n (.int .i64 t.he),.n (.int .i64 t.bs.length),.row 9200305 v,.n (.bool t.bad)])] _);rw[nO,(oA _ _ _ _ _ _ _ _ _ _ _ _ _ _ _ _).down,AH,Fw,htb];rw[Qw,if_pos hr]at g40;have bad:∀(u:List Bool) (np he nb:Int),(below (Aj w) (f+1) b d lo hi t).bad=true->∃s',([hR 9200305 v 4 1 (Bg u),hB 9200307 [.o (.sl 1 (Bg w.base)),.o (.sl 1 (Bg w.now)),.o (.sl 1 (AG w.pages)),.n (.int .i64 w.root),.n (.int .i64 w.gen),.n (.int .i64 np),.n (.int .i64 he),.n (.int .i64 nb),.row 9200305 v,.n (.bool true)]]:Heap)=hC w s' v/\UE w.now.length s' (below (Aj w) (f+1) b d lo hi t):=λu np he nb e=>⟨⟨u,np,he,nb,true⟩,rfl,PV rfl e⟩
   cases hh:Aj w b (d==1) with
   | none=>
    rw[hh]at g40;refine⟨_,_,_,_,_,g40,Aa (λ_=>⟨rfl,bad _ _ _ _ ?_⟩) (λh=>by cases h)⟩;rw[below];split;·rfl
    ·rw[hh]
   | some n=>
    rw[hh]at g40;have hrg:=CW hn hh;have hok:=Cr hh;have hk8:=hok.2.1;refine⟨_,_,_,_,_,g40,Aa (λh=>by cases h) (λ_=>Ab (λh=>⟨rfl,bad _ _ _ _ ?_⟩) (λh8=>?_))⟩
    ·rw[below];split;·rfl
     ·rw[hh];dsimp only;rw[if_pos (.inl h)]
    have hbN:b.toNat<w.now.length:=by omega
    have hbm:b.toNat<(Cw w.now.length t.bs).length:=by rw[Fw];exact hbN
    have hbb:((b.toNat:Nat):Int)=b:=by omega
    refine⟨⟨rfl,rfl⟩,by omega,by omega,⟨rfl,rfl⟩,_,Cg hbm,_,rfl,?_⟩;rw[Er,hbb];refine Ab (λh=>⟨rfl,bad _ _ _ _ ?_⟩) (λhbn=>?_);·rw[below,if_pos (.inl h)]
    have hb1:¬(b∈t.bs\/t.bad=true):=by rw[htb];simpa using hbn
    have eq:below (Aj w) (f+1) b d lo hi t=if d > 8\/(n.leaf=true/\n.keys=[]) then { t with bad:=true } else
        if n.leaf then ⟨t.ps++n.keys.zip n.vals,t.bs++[b],d,IZ n lo hi||(t.he != 0&&t.he != d)⟩
        else A1 (λc lo hi t=>below (Aj w) f c (d+1) lo hi t) lo hi n.keys n.kids ⟨t.ps,t.bs++[b],t.he,IZ n lo hi⟩:=by
      rw[below,if_neg hb1,hh]
    rw[Hp,NH (by omega),Am,Aw,Ad ((t.bs.length:Int)+1) (by omega),Ad ((t.ps.length:Int)+n.keys.length) (by omega)];have ebl:((t.bs.length:Int)+1)=((t.bs++[b]).length:Nat):=by simp
    have g74:=xP n.keys (by omega) lo hi;have eoff:(n.keys.any λk => !(within k lo hi))=IZ n lo hi:=rfl;rw[eoff]at g74
    cases hl:n.leaf with
    | true=>
     have hvl:n.vals.length=n.keys.length:=by
      rcases hok.1.2.2 with⟨_,_,h,_⟩|⟨h,_⟩
      ·exact h
      ·rw[hl]at h;cases h
     refine Aa (λ_=>Aa (λh=>⟨rfl,bad _ _ _ _ (by rw[eq,if_pos (.inr ⟨hl,JL h⟩)])⟩) (λhk0=>?_)) (λh=>by cases h);have hk0:n.keys≠[]:=λe=>by rw[e]at hk0;simp at hk0
     rw[if_neg (by
      rintro(h|h);·exact h8 h
      ·exact hk0 h.2),hl,if_pos rfl]at eq
     refine⟨⟨rfl,rfl⟩,by omega,by omega,⟨⟨⟨rfl,rfl⟩,rfl⟩,rfl⟩,hbN,_,g74,Aa (λho=>⟨rfl,bad _ _ _ _ (by rw[eq,ho];rfl)⟩) (λho=>?_)⟩;refine Aa (λ_=>Aa (λh=>by cases h) (λ_=>?_)) (λh=>by cases h);have ezl:((t.ps.length:Int)+n.keys.length)=((t.ps++n.keys.zip n.vals).length:Nat):=by rw[List.length_append,List.length_zip];omega
     rw[ebl,ezl];refine Aa (λh1=>⟨rfl,⟨Cw w.now.length (t.bs++[b]),((t.ps++n.keys.zip n.vals).length:Nat),d,((t.bs++[b]).length:Nat),t.he != d⟩,rfl,?_⟩) (λh1=>⟨rfl,⟨Cw w.now.length (t.bs++[b]),((t.ps++n.keys.zip n.vals).length:Nat),d,((t.bs++[b]).length:Nat),false⟩,rfl,?_⟩)
     ·rw[eq,ho,h1];refine⟨?_,λh=>?_⟩;·show(t.he != d)=(false||(true&&(t.he != d)));rw[Bool.true_and,Bool.false_or]
      ·simp only[Kp,Bool.true_and,Bool.false_or]
     ·rw[eq,ho,h1];exact⟨rfl,λ_=>rfl⟩
    | false=>
     refine Aa (λh=>by cases h) (λ_=>?_);rw[if_neg (by
      rintro(h|h);·exact h8 h
      ·rw[hl]at h;cases h.1),hl,if_neg (by simp)]at eq
     have hkl:n.kids.length=n.keys.length+1:=by
      rcases hok.1.2.2 with⟨h,_⟩|⟨_,_,_,h,_⟩
      ·rw[hl]at h;cases h
      ·exact h
     refine⟨⟨rfl,rfl⟩,by omega,by omega,⟨⟨⟨rfl,rfl⟩,rfl⟩,rfl⟩,hbN,_,g74,Aa (λho=>⟨rfl,bad _ _ _ _ (by rw[eq,ho,Fv rfl])⟩) (λho=>?_)⟩;refine Aa (λh=>by cases h) (λ_=>?_);rw[ho]at eq;have hst:TInv ⟨t.ps,t.bs++[b],t.he,false⟩:=by have:=ht.add hbn (b:=b) (by omega) (P:=[]) (by simp) t.he false;simpa using this
     rw[ebl];refine⟨λi S Q=>0<=i/\i<=n.kids.length/\∃(t':TS),TInv t'/\t'.bad=false/\S=(Bg w.base,Bg w.now,AG w.pages,w.root,w.gen,(t'.ps.length:Int),t'.he,(t'.bs.length:Int),v,false,())/\Q=(v,Bg (Cw w.now.length t'.bs))/\below (Aj w) (f+1) b d lo hi t=A1 (λc lo hi t=>below (Aj w) f c (d+1) lo hi t) (AR lo n.keys i.toNat) hi (n.keys.drop i.toNat) (n.kids.drop i.toNat) t',λi _ _=>(n.kids.length-i).toNat,
       ⟨rfl,by omega,by omega,⟨t.ps,t.bs++[b],t.he,false⟩,hst,rfl,rfl,rfl,eq⟩,?_⟩
     rintro i S Q ⟨h0,h1,t',ht',htb',rfl,rfl,hinv⟩ _;dsimp only;rw[Ad (d+1) (by omega),Ad (i-1) (by omega),Ad (i+1) (by omega)];have e1:(i+1).toNat=i.toNat+1:=by omega
     have e2:(i-1).toNat=i.toNat-1:=by omega
     refine Ab (λhlt=>?_) (λhge=>?_)
     ·have hik:i.toNat<n.kids.length:=by omega
      have tail:∀(fr tl:bA),A1 (λc lo hi t=>below (Aj w) f c (d+1) lo hi t) (AR lo n.keys i.toNat) hi (n.keys.drop i.toNat) (n.kids.drop i.toNat) t'=A1 (λc lo hi t=>below (Aj w) f c (d+1) lo hi t) (AR lo n.keys (i.toNat+1)) hi (n.keys.drop (i.toNat+1)) (n.kids.drop (i.toNat+1)) (if t'.bad then t' else below (Aj w) f n.kids[i.toNat] (d+1) fr tl t') ->
          ∃s':CS,Runs AD 137 [.ptr 9200307 0,.n (.int .i64 n.kids[i.toNat]),.n (.int .i64 (d+1)),.n (.str fr),.n (.str tl)] [hR 9200305 v 4 1 (Bg (Cw w.now.length t'.bs)),hB 9200307 [.o (.sl 1 (Bg w.base)),.o (.sl 1 (Bg w.now)),.o (.sl 1 (AG w.pages)),.n (.int .i64 w.root),.n (.int .i64 w.gen),.n (.int .i64 t'.ps.length),.n (.int .i64 t'.he),.n (.int .i64 t'.bs.length),.row 9200305 v,.n (.bool false)]] (.tup []) (hC w s' v) /\
            (s'.bad=true->UE w.now.length s' (below (Aj w) (f+1) b d lo hi t)) /\
            (s'.bad=false->∃(t'':TS),TInv t''/\t''.bad=false/\(Bg w.base,Bg w.now,AG w.pages,w.root,w.gen,s'.np,s'.he,s'.nb,v,s'.bad,())=(Bg w.base,Bg w.now,AG w.pages,w.root,w.gen,(t''.ps.length:Int),t''.he,(t''.bs.length:Int),v,false,())/\(v,Bg s'.used)=(v,Bg (Cw w.now.length t''.bs))/\below (Aj w) (f+1) b d lo hi t=A1 (λc lo hi t=>below (Aj w) f c (d+1) lo hi t) (AR lo n.keys (i+1).toNat) hi (n.keys.drop (i+1).toNat) (n.kids.drop (i+1).toNat) t''):=λfr tl hs=>by
        obtain⟨s',g,c1,c2⟩:=ABh w hf hr f n.kids[i.toNat] (d+1) fr tl t' v (by omega) (by omega) (by omega) ht' htb'
        rw[hC,Kp,htb']at g
        refine⟨s',g,λhb=>PV hb ?_,λhb=>?_⟩
        ·rw[c1]at hb
         rw[hinv,hs,htb']
         show(A1 _ _ _ _ _ (below (Aj w) f n.kids[i.toNat] (d+1) fr tl t')).bad=true
         rw[Fv hb];exact hb
        ·rw[c1]at hb
         have:=c2 hb
         subst this
         refine⟨below (Aj w) f n.kids[i.toNat] (d+1) fr tl t',Hj hn f _ (d+1) fr tl t' ht',hb,by simp only[Kp,hb],rfl,?_⟩
         rw[hinv,hs,htb',e1];rfl
      refine⟨rfl,h0,_,Eb hik,_,rfl,Ab (λhp=>?_) (λhp=>?_)⟩
      ·have hi1:(i-1).toNat<n.keys.length:=by omega
       have ef:AR lo n.keys i.toNat=n.keys[(i-1).toNat]:=by rw[LO (by omega) (by omega)];congr 1;omega
       refine⟨rfl,by omega,_,AZ hi1,_,rfl,Ab (λhq=>?_) (λhq=>?_)⟩
       ·have hi2:i.toNat<n.keys.length:=by omega
        have hs:=Ja (f:=λc lo hi t=>below (Aj w) f c (d+1) lo hi t) (lo:=lo) (hi:=hi) (t:=t') hi2 hik;rw[show below (Aj w) f n.kids[i.toNat] (d+1) (AR lo n.keys i.toNat) n.keys[i.toNat] t'=below (Aj w) f n.kids[i.toNat] (d+1) n.keys[(i-1).toNat] n.keys[i.toNat] t' by rw[ef]]at hs;obtain⟨s',g,c1,c2⟩:=tail _ _ hs;refine⟨rfl,h0,_,AZ hi2,_,rfl,_,_,_,_,_,_,_,_,_,_,_,_,g,Aa (λhb=>⟨rfl,s',rfl,c1 hb⟩) (λhb=>?_)⟩;exact⟨rfl,rfl,rfl,rfl,rfl,rfl,rfl,rfl,⟨by omega,by omega,c2 hb⟩,by first|omega|(dsimp only;omega)⟩
       ·have hs:=No (f:=λc lo hi t=>below (Aj w) f c (d+1) lo hi t) (lo:=lo) (hi:=hi) (ks:=n.keys) (cs:=n.kids) (t:=t') (i:=i.toNat) (by omega) (by omega);have hd2:n.kids.drop (i.toNat+1)=[]:=List.drop_of_length_le (by omega);rw[show below (Aj w) f n.kids[i.toNat] (d+1) (AR lo n.keys i.toNat) hi t'=below (Aj w) f n.kids[i.toNat] (d+1) n.keys[(i-1).toNat] hi t' by rw[ef]]at hs;have hs:_=A1 (λc lo hi t=>below (Aj w) f c (d+1) lo hi t) (AR lo n.keys (i.toNat+1)) hi (n.keys.drop (i.toNat+1)) (n.kids.drop (i.toNat+1)) _:=hs.trans (by rw[hd2,Hm]);obtain⟨s',g,c1,c2⟩:=tail _ _ hs;refine⟨_,_,_,_,_,_,_,_,_,_,_,_,g,Aa (λhb=>⟨rfl,s',rfl,c1 hb⟩) (λhb=>?_)⟩;exact⟨rfl,rfl,rfl,rfl,rfl,rfl,rfl,rfl,⟨by omega,by omega,c2 hb⟩,by first|omega|(dsimp only;omega)⟩
      ·have hi2:i.toNat<n.keys.length:=by
        rcases hok.1.2.2 with⟨h,_⟩|⟨_,_,h,_⟩
        ·rw[hl]at h;cases h
        ·omega
       have ef:AR lo n.keys i.toNat=lo:=by rw[AR,if_pos (by omega)]
       have hs:=Ja (f:=λc lo hi t=>below (Aj w) f c (d+1) lo hi t) (lo:=lo) (hi:=hi) (t:=t') hi2 hik;rw[show below (Aj w) f n.kids[i.toNat] (d+1) (AR lo n.keys i.toNat) n.keys[i.toNat] t'=below (Aj w) f n.kids[i.toNat] (d+1) lo n.keys[i.toNat] t' by rw[ef]]at hs;refine Ab (λhq=>?_) (λhq=>by omega);obtain⟨s',g,c1,c2⟩:=tail _ _ hs;refine⟨rfl,h0,_,AZ hi2,_,rfl,_,_,_,_,_,_,_,_,_,_,_,_,g,Aa (λhb=>⟨rfl,s',rfl,c1 hb⟩) (λhb=>?_)⟩;exact⟨rfl,rfl,rfl,rfl,rfl,rfl,rfl,rfl,⟨by omega,by omega,c2 hb⟩,by first|omega|(dsimp only;omega)⟩
     ·have hd2:n.kids.drop i.toNat=[]:=List.drop_of_length_le (by omega);rw[hd2,Hm]at hinv;refine⟨rfl,Kp w.now.length t',by simp only[hC,Kp,htb'],?_⟩;rw[hinv];exact⟨rfl,λ_=>rfl⟩
  obtain⟨r,H',hr',rfl,s',rfl,hs'⟩:=key;exact⟨s',hr',hs'⟩
theorem Vd (N:Nat):Cw N []=List.replicate N false:=by refine List.ext_getElem (by simp[Cw]) λi h1 h2=>?_;rw[Er];simp
theorem p92 (w:Wd)(hf:WFits w):(¬WRight w/\Runs AD 92 [EA w] [] (.tup [.nilp,aI 1]) [])\/(WRight w/\(A4 w).bad=true/\Runs AD 92 [EA w] [] (.tup [.nilp,aI 81]) []) \/
   (WRight w/\(A4 w).bad=false/\Runs AD 92 [EA w] [] (.tup [.ptr 9200307 0,aI 0]) (hC w (Kp w.now.length (A4 w)) 0)):=by
 have g41:=sT w hf
 have key:∃r H',Runs AD 92 [EA w] [] r H'/\((¬WRight w/\r = .tup [.nilp,.n (.int .i64 1)]/\H'=[])\/(WRight w/\(A4 w).bad=true/\r = .tup [.nilp,.n (.int .i64 81)]/\H'=[]) \/
     (WRight w/\(A4 w).bad=false/\r = .tup [.ptr 9200307 0,.n (.int .i64 0)]/\H'=hC w (Kp w.now.length (A4 w)) 0)):=by
   refine O1 (R:=λr H'=>(¬WRight w/\r = .tup [.nilp,.n (.int .i64 1)]/\H'=[])\/(WRight w/\(A4 w).bad=true/\r = .tup [.nilp,.n (.int .i64 81)]/\H'=[]) \/
     (WRight w/\(A4 w).bad=false/\r = .tup [.ptr 9200307 0,.n (.int .i64 0)]/\H'=hC w (Kp w.now.length (A4 w)) 0)) AEr rfl ?_
   rw[EA,ABS,(yB _ _ _ _ _ _).down,AH]
   by_cases hr:WRight w
   ·rw[decide_eq_true hr]at g41
    have hn:=CK hr
    have er:Bg (Cw w.now.length [])=List.replicate (Int.toNat (w.now.length:Int)) (.bool false):=by rw[Vd];simp[Bg]
    refine⟨_,g41,Aa (λh=>by cases h) (λ_=>⟨by omega,by omega,Aa (λh=>?_) (λh=>?_)⟩)⟩
    ·obtain⟨s',g,c1,c2⟩:=ABh w hf hr 9 w.root 1 empS empS ON 0 (by omega) (by omega) (by omega) KP rfl
     have e:below (Aj w) 9 w.root 1 empS empS ON=A4 w:=by rw[A4,if_neg (by simpa using h)]
     rw[e]at c1 c2
     have e0:hC w (Kp w.now.length ON) 0=[hR 9200305 0 4 1 (List.replicate (Int.toNat (w.now.length:Int)) (.bool false)),hB 9200307 [.o (.sl 1 (Bg w.base)),.o (.sl 1 (Bg w.now)),.o (.sl 1 (AG w.pages)),.n (.int .i64 w.root),.n (.int .i64 w.gen),.n (.int .i64 0),.n (.int .i64 0),.n (.int .i64 0),.row 9200305 0,.n (.bool false)]]:=by rw[<-er];rfl
     rw[e0]at g
     refine⟨_,_,_,_,_,_,_,_,_,_,_,_,g,Aa (λhb => .inr (.inl ⟨hr,by rw[<-c1];exact hb,rfl,rfl⟩)) (λhb=>?_)⟩
     rw[c1]at hb
     have:=c2 hb
     subst this
     exact .inr (.inr ⟨hr,hb,rfl,rfl⟩)
    ·have e:A4 w=ON:=by rw[A4,if_pos (by simpa using h)]
     refine .inr (.inr ⟨hr,by rw[e];rfl,rfl,?_⟩)
     rw[e,<-er];rfl
   ·rw[decide_eq_false hr]at g41
    exact⟨_,g41,Aa (λ_ => .inl ⟨hr,rfl,rfl⟩) (λh=>by cases h)⟩
 obtain⟨r,H',hg,⟨h1,rfl,rfl⟩|⟨h1,h2,rfl,rfl⟩|⟨h1,h2,rfl,rfl⟩⟩:=key
 ·exact .inl ⟨h1,hg⟩
 ·exact .inr (.inl ⟨h1,h2,hg⟩)
 ·exact .inr (.inr ⟨h1,h2,hg⟩)
def EL (N:Nat):List Int->List Int->Option (List Int)
 | [],l=>some l
 | b::r,l=>if b<10\/b>=N\/b∈l then none else EL N r (l++[b])
def nowIs (now:List Bool)(l:List Int):Prop:=∀i:Nat,i<now.length->tr now i=decide (i<10\/(i:Int)∈l)
noncomputable instance (now:List Bool) (l:List Int):Decidable (nowIs now l):=Classical.propDecidable _
noncomputable def ChkR (w:Wd)(more:List Int):(Int×Int×Int)×Int:=
 if ¬WRight w then ((0,0,0),1) else if (A4 w).bad=true then ((0,0,0),81) else match EL w.now.length more (A4 w).bs with
 | none=>((0,0,0),81)
 | some l=>if nowIs w.now l then (((A4 w).ps.length,(A4 w).he,(A4 w).bs.length),0) else ((0,0,0),81)
def ckV (x:(Int×Int×Int)×Int):AV := .tup [.agg [aI x.1.1,aI x.1.2.1,aI x.1.2.2],aI x.2]
set_option maxRecDepth 10000 in
theorem p44 (w:Wd)(hf:WFits w)(more:List Int)(hm:Small more.length):Runs AD 44 [EA w,aL (il more)] [] (ckV (ChkR w more)) []:=by
 refine An (c:=c44) rfl rfl ?_;rw[EA,AFC,(ADS _ _ _ _ _ _ _).down];rcases p92 w hf with⟨hr,g⟩|⟨hr,hb,g⟩|⟨hr,hb,g⟩
 ·rw[EA]at g;refine .inr ⟨(),_,g,Aa (λ_=>?_) (λh=>by cases h)⟩;rw[ChkR,if_pos hr];rfl
 ·rw[EA]at g;refine .inr ⟨(),_,g,Aa (λ_=>?_) (λh=>by cases h)⟩;rw[ChkR,if_neg (by simpa using hr),if_pos hb];rfl
 ·rw[hC,EA]at g;have hn:=CK hr;have eq:ChkR w more=match EL w.now.length more (A4 w).bs with
      | none=>((0,0,0),81)
      | some l=>if nowIs w.now l then (((A4 w).ps.length,(A4 w).he,(A4 w).bs.length),0) else ((0,0,0),81):=by
    rw[ChkR,if_neg (by simpa using hr),if_neg (by rw[hb];simp)]
  refine .inl ⟨(),_,_,_,_,_,_,_,_,_,_,_,_,_,g,Aa (λh=>by cases h) (λ_=>?_)⟩;rw[Aw,AH];have no:ChkR w more=((0,0,0),81)->AV.tup [.agg [.n (.int .i64 0),.n (.int .i64 0),.n (.int .i64 0)],.n (.int .i64 81)]=ckV (ChkR w more):=λe=>by rw[e];rfl
  refine⟨λi S Q=>0<=i/\i<=more.length/\S=(0,0,0,())/\∃l,Q=(0,Bg (Cw w.now.length l))/\EL w.now.length more (A4 w).bs=EL w.now.length (more.drop i.toNat) l,λi _ _=>(more.length-i).toNat,⟨rfl,by omega,by omega,rfl,(A4 w).bs,rfl,rfl⟩,?_⟩;rintro i S Q ⟨h0,h1,rfl,l,rfl,hinv⟩ _;dsimp only;rw[AH,Fw];refine Ab (λhlt=>?_) (λhge=>?_)
  ·have hi:i.toNat<more.length:=by omega
   rw[List.drop_eq_getElem_cons hi,EL]at hinv;refine⟨rfl,h0,_,Eb hi,_,rfl,Ab (λh=>no ?_) (λh2=>⟨rfl,Ab (λh=>no ?_) (λh3=>?_)⟩)⟩;·rw[eq,hinv,if_pos (.inl h)]
   ·rw[eq,hinv,if_pos (.inr (.inl h))]
   have hbm:more[i.toNat].toNat<(Cw w.now.length l).length:=by rw[Fw];omega
   have hbb:((more[i.toNat].toNat:Nat):Int)=more[i.toNat]:=by omega
   refine⟨⟨rfl,rfl⟩,by omega,by omega,⟨rfl,rfl⟩,_,Cg hbm,_,rfl,?_⟩;rw[Er,hbb];refine Ab (λh=>no ?_) (λh4=>?_);·rw[eq,hinv,if_pos (.inr (.inr h))]
   refine⟨⟨rfl,rfl⟩,by omega,by omega,⟨⟨⟨rfl,rfl⟩,rfl⟩,rfl⟩,by omega,?_⟩;rw[Hp,NH (by omega)];repeat (refine And.intro rfl ?_)
   rw[Ad _ (by omega)];refine⟨⟨by omega,by omega,rfl,_,rfl,?_⟩,by first|omega|(dsimp only;omega)⟩;rw[hinv,if_neg (by
    rintro(h|h|h);·exact h2 h
    ·omega
    ·exact h4 h),show(i+1).toNat=i.toNat+1 by omega]
  ·rw[List.drop_of_length_le (by omega),EL]at hinv;rw[hinv]at eq;dsimp only at eq;refine⟨λi S=>0<=i/\i<=w.now.length/\S=(0,0,0,())/\∀j:Nat,(j:Int)<i->tr w.now j=decide (j<10\/(j:Int)∈l),λi _=>(w.now.length-i).toNat,⟨rfl,by omega,by omega,rfl,λj hj=>by omega⟩,?_⟩;rintro i S ⟨h0,h1,rfl,hok⟩ _;dsimp only;refine Ab (λhlt=>?_) (λhge=>?_)
   ·have hi:i.toNat<w.now.length:=by omega
    have hii:((i.toNat:Nat):Int)=i:=by omega
    have next:tr w.now i.toNat=decide (i.toNat<10\/((i.toNat:Nat):Int)∈l)->∀j:Nat,(j:Int)<i+1->tr w.now j=decide (j<10\/(j:Int)∈l):=λh j hj=>by
     by_cases e:(j:Int)<i;·exact hok j e
     ·obtain rfl:j=i.toNat:=by omega
      exact h
    have fail:tr w.now i.toNat≠decide (i.toNat<10\/((i.toNat:Nat):Int)∈l)->ChkR w more=((0,0,0),81):=λh=>by rw[eq,if_neg (λhx=>h (hx i.toNat hi))]
    refine⟨rfl,h0,_,Cg hi,_,rfl,Ab (λh10=>?_) (λh10=>?_)⟩
    ·have hd:decide (i.toNat<10\/((i.toNat:Nat):Int)∈l)=true:=decide_eq_true (.inl (by omega));rw[hd]at next fail
     rw[<-DN hi];refine Aa (λh=>no (fail (by intro e;rw[e]at h;cases h))) (λh=>?_);repeat (refine And.intro rfl ?_)
     rw[Ad _ (by omega)];exact⟨⟨by omega,by omega,rfl,next (by cases hx:tr w.now i.toNat with|true=>rfl|false=>rw[hx]at h;cases h)⟩,by first|omega|(dsimp only;omega)⟩
    ·have hbm:i.toNat<(Cw w.now.length l).length:=by rw[Fw];omega
     have hd:decide (i.toNat<10\/((i.toNat:Nat):Int)∈l)=decide (i∈l):=by rw[hii,decide_eq_decide];exact⟨λh=>h.resolve_left (by omega),.inr⟩
     rw[hd]at next fail
     refine⟨⟨rfl,rfl⟩,h0,hlt,⟨rfl,rfl⟩,_,Cg hbm,_,rfl,?_⟩;rw[Er,hii,<-DN hi];refine Aa (λh=>no (fail (by intro e;rw[e]at h;simp at h))) (λh=>?_);repeat (refine And.intro rfl ?_)
     rw[Ad _ (by omega)];exact⟨⟨by omega,by omega,rfl,next (by simpa using h)⟩,by first|omega|(dsimp only;omega)⟩
   ·have hx:nowIs w.now l:=λj hj=>hok j (by omega);rw[if_pos hx]at eq;rw[eq];rfl
theorem BF {w:Wd}{b:Int}{r:Bool}{n:Nd}(h:Aj w b r=some n):tr w.now b.toNat=true:=by
 unfold Aj at h;split at h;·cases h
 ·rename_i hx
  cases ht:tr w.now b.toNat with
  | true=>rfl
  | false=>exact absurd (.inr (.inr (.inr ht))) hx
theorem I0 {w x:Wd}{h:Nat}{P:List Pr}{B:List Int}(ht:IsTree w h P B)(hr:x.root=w.root)(hx:∀b∈B,∀r n,Aj w b r=some n->Aj x b r=some n):IsTree x h P B:=by
 rcases ht with⟨h0,h1,h2,h3⟩|⟨h0,h1,h2,h3,h4⟩
 ·exact .inl ⟨by rw[hr];exact h0,h1,h2,h3⟩
 ·exact .inr ⟨by rw[hr];exact h0,h1,h2,by rw[hr];exact h3.frame hx,h4⟩
theorem JX {w:Wd}{h:Nat}{P:List Pr}{B:List Int}(ht:IsTree w h P B):∀b∈B,∃r n,Aj w b r=some n:=by
 rcases ht with⟨_,_,_,rfl⟩|⟨_,_,_,h3,_⟩
 ·intro b hb;cases hb
 ·exact h3.held
def NN (l:List UInt8):bA:=⟨l.toArray⟩
theorem FR (l:List UInt8):(NN l).data.toList=l:=by simp[NN]
theorem Fy (l:List UInt8):(NN l).size=l.length:=by rw[<-Ao,FR]
theorem AEw (n:Int):CT n 1=[UInt8.ofNat (n % 256).toNat]:=by have:=Ew n 1;rw[<-this];simp[be,Mir.byteOf]
theorem AAM {s:bA}{A C:List UInt8}{b:UInt8}{a:Int}(h:s.data.toList=A++b::C)(ha:a=A.length):gT s a 1=((b.toNat:Int),a+1,0):=by
 have hl:s.size=A.length+1+C.length:=by rw[<-Ao,h];simp;omega
 have hp:Ar s a 1=[b]:=CH (A:=A) (B:=[b]) (C:=C) (by rw[h];rfl) (by omega) rfl;rw[gT,Bj (by omega) (by omega),hp];simp[g3,CN]
theorem XN {s t:bA}{A C:List UInt8}{a:Int}(h:s.data.toList=A++((CT t.size 2++t.data.toList)++C))(ha:a=A.length)(ht:t.size<=65535):cT s a=(t,a+2+t.size,0):=by have e:s=MQ [NN A,Dl t,NN C]:=AQ (by rw[Yk,FR,FR,DX,h]);have hA:(NN A).size=A.length:=Fy A;have:=ZK t (NN A) (NN C) (by omega);rw[<-e,hA,<-ha]at this;rw[cT,this];rfl
theorem PU {s:bA}(h:s.size<=65535):NS s = .tup [aS (Dl s),aI 0]:=by rw[NS,if_neg (by omega)]
theorem Rl {k g:Int}{b:bA}(h:pgOK k g b):GetPR (C6 k g b) = .tup [pg k g b,aI 0]:=
 Nl k g b _ h (by have:=Il k g b h;omega) (by refine AQ ?_;rw[Bp,C6,Bp,Oo])
def MJ (t:bA):List UInt8:=CT t.size 2++t.data.toList
def K6:List bA->List bA->List UInt8
 | k::ks,v::vs=>MJ k++(MJ v++K6 ks vs)
 | _,_=>[]
def J3:List Int->List bA->List UInt8
 | b::bs,k::ks=>CT b 2++(MJ k++J3 bs ks)
 | b::_,[]=>CT b 2
 | [],_=>[]
def Gi (n:Nd):List UInt8:=CT n.keys.length 1++(if n.leaf then K6 n.keys n.vals else J3 n.kids n.keys)
def Ds (n:Nd):bA:=NN (Gi n)
def CZ (n:Nd):Int:=if n.leaf then 1 else 2
def pageB (g:Int)(n:Nd):bA:=C6 (CZ n) g (Ds n)
theorem Xp {s:bA}{A C:List UInt8}{b a:Int}(h:s.data.toList=A++(CT b 2++C))(ha:a=A.length)(h0:0<=b)(h1:b<65536):gT s a 2=(b,a+2,0):=by
 have hl:s.size=A.length+2+C.length:=by rw[<-Ao,h];simp[Ap];omega
 have hp:Ar s a 2=CT b 2:=CH h (by omega) (by rw[Ap];rfl);rw[gT,Bj (by omega) (by omega),hp];have e:CN (CT b 2)=b:=by rw[Eh];exact Int.emod_eq_of_lt h0 (by omega)
 simp only[g3,e]
theorem gD {s:bA}:∀(ks vs:List bA) (A:List UInt8) (a:Int) (ak av:List bA),vs.length=ks.length->(∀k∈ks,k.size<=65535)->(∀v∈vs,v.size<=65535)->s.data.toList=A++K6 ks vs->a=A.length ->
   FB s ks.length a ak av = .inr (ak++ks,av++vs,(s.size:Int))
 | [],[],A,a,ak,av,_,_,_,h,ha=>by
  have hl:s.size=A.length:=by rw[<-Ao,h];simp[K6]
  simp only[List.length_nil,FB,List.append_nil];rw[ha,hl]
 | [],_::_,_,_,_,_,hl,_,_,_,_=>by simp at hl
 | _::_,[],_,_,_,_,hl,_,_,_,_=>by simp at hl
 | k::ks,v::vs,A,a,ak,av,hl,hk,hv,h,ha=>by have hk1:=hk k (by simp);have hv1:=hv v (by simp);have c1:=XN (t:=k) (A:=A) (C:=MJ v++K6 ks vs) (a:=a) (by rw[h];rfl) ha hk1;have c2:=XN (s:=s) (t:=v) (A:=A++MJ k) (C:=K6 ks vs) (a:=a+2+k.size) (by rw[h];simp[K6,MJ]) (by simp[MJ,Ap,Ao];omega) hv1;rw[List.length_cons,V5 (by rw[c1]) (by rw[c1,c2]),c1];dsimp only;rw[c2];dsimp only;rw[gD ks vs (A++(MJ k++MJ v)) _ _ _ (by simpa using hl) (λx hx=>hk x (List.mem_cons_of_mem _ hx)) (λx hx=>hv x (List.mem_cons_of_mem _ hx)) (by rw[h];simp[K6]) (by simp[MJ,Ap,Ao];omega)];simp
theorem fP {s:bA}:∀(bs:List Int) (ks:List bA) (l:Int) (A:List UInt8) (a:Int) (ab:List Int) (ak:List bA),bs.length=ks.length->(∀b∈bs,0<=b/\b<65536)->(∀k∈ks,k.size<=65535)->s.data.toList=A++J3 (bs++[l]) ks->a=A.length ->
   ∃A',Fk s ks.length a ab ak = .inr (ab++bs,ak++ks,(A'.length:Int))/\s.data.toList=A'++CT l 2
 | [],[],l,A,a,ab,ak,_,_,_,h,ha=>by refine⟨A,?_,by rw[h];rfl⟩;simp only[List.length_nil,Fk,List.append_nil];rw[ha]
 | [],_::_,_,_,_,_,_,hl,_,_,_,_=>by simp at hl
 | _::_,[],_,_,_,_,_,hl,_,_,_,_=>by simp at hl
 | b::bs,k::ks,l,A,a,ab,ak,hl,hb,hk,h,ha=>by have hk1:=hk k (by simp);have hb1:=hb b (by simp);have c1:=Xp (s:=s) (b:=b) (A:=A) (C:=MJ k++J3 (bs++[l]) ks) (a:=a) (by rw[h];rfl) ha hb1.1 hb1.2;have c2:=XN (s:=s) (t:=k) (A:=A++CT b 2) (C:=J3 (bs++[l]) ks) (a:=a+2) (by rw[h];simp[J3,MJ]) (by simp[Ap];omega) hk1;rw[List.length_cons,XE (by rw[c1]) (by rw[c1,c2]),c1];dsimp only;rw[c2];dsimp only;obtain⟨A',h1,h2⟩:=fP bs ks l (A++(CT b 2++MJ k)) (a+2+2+k.size) (ab++[b]) (ak++[k]) (by simpa using hl) (λx hx=>hb x (List.mem_cons_of_mem _ hx)) (λx hx=>hk x (List.mem_cons_of_mem _ hx)) (by rw[h];simp[J3]) (by simp[MJ,Ap,Ao];omega);refine⟨A',?_,h2⟩;rw[h1];simp
theorem IW {l:List bA}(h:NC l):∀k∈l,1<=k.size/\k.size<=32:=λk hk=>by obtain⟨i,hi,rfl⟩:=List.getElem_of_mem hk;exact⟨(h i hi hi).1,(h i hi hi).2.1⟩
theorem UJ {n:Nd}(hok:NdOK n true):Bh (CZ n) (Ds n)=(n,0):=by
 obtain⟨hs,h8,_⟩:=hok;have hks:=IW hs.2.1;have hd:(Ds n).data.toList=Gi n:=FR _;have h1:CT (n.keys.length:Int) 1=[UInt8.ofNat n.keys.length]:=by rw[AEw];congr 2;omega
 have hbyte:((UInt8.ofNat n.keys.length).toNat:Int)=n.keys.length:=by rw[UInt8.toNat_ofNat'];omega
 have g0:=AAM (s:=Ds n) (A:=[]) (b:=UInt8.ofNat n.keys.length) (C:=if n.leaf then K6 n.keys n.vals else J3 n.kids n.keys) (a:=0) (by rw[hd,Gi,h1];rfl) rfl;rw[hbyte]at g0;have hlen0:(Gi n).length=1+(if n.leaf then K6 n.keys n.vals else J3 n.kids n.keys).length:=by rw[Gi,List.length_append,Ap]
 have hsz:(Ds n).size=(Gi n).length:=Fy _;have fin:∀a:Int,a=(Ds n).size->CM (Ds n) n a=(n,0):=λa ha=>by
  rw[CM,if_neg];rintro(h|h);·exact h ha
  ·exact h ⟨hs,h8,.inl rfl⟩
 rw[Bh,if_neg (by unfold CZ;split<;>omega),if_neg (by rw[g0];simp),g0];dsimp only;rw[Int.toNat_natCast,Int.zero_add]
 cases hl:n.leaf with
 | true=>
  have hv:n.vals.length=n.keys.length/\(∀v∈n.vals,v.size<=200)/\n.kids=[]:=by
   rcases hs.2.2 with⟨_,h1,h2,h3⟩|⟨h,_⟩
   ·exact⟨h2,h3,h1⟩
   ·rw[hl]at h;cases h
  have e:(CZ n==1)=true:=by rw[CZ,hl];rfl
  rw[e,CV,gD n.keys n.vals (CT (n.keys.length:Int) 1) 1 [] [] hv.1 (λk hk=>by have:=hks k hk;omega) (λv hv'=>by have:=hv.2.1 v hv';omega) (by rw[hd,Gi,hl];rfl) (by simp[Ap])];dsimp only;have en:(⟨true,[]++n.keys,[]++n.vals,[]⟩:Nd)=n:=by rw[List.nil_append,List.nil_append,<-hl,<-hv.2.2]
  rw[en];exact fin _ rfl
 | false=>
  have hv:n.vals=[]/\n.kids.length=n.keys.length+1/\∀b∈n.kids,10<=b/\b<2048:=by
   rcases hs.2.2 with⟨h,_⟩|⟨_,h1,_,h2,h3⟩
   ·rw[hl]at h;cases h
   ·exact⟨h1,h2,h3⟩
  have e:(CZ n==1)=false:=by rw[CZ,hl];rfl
  have hne:n.kids≠[]:=λh=>by rw[h]at hv;simp at hv
  have hsp:n.kids.dropLast++[n.kids.getLast hne]=n.kids:=List.dropLast_concat_getLast hne;obtain⟨A',h2,h3⟩:=fP (s:=Ds n) n.kids.dropLast n.keys (n.kids.getLast hne) (CT (n.keys.length:Int) 1) 1 [] [] (by rw[List.length_dropLast];omega) (λb hb=>by have:=hv.2.2 b (List.dropLast_subset _ hb);omega) (λk hk=>by have:=hks k hk;omega) (by rw[hd,Gi,hl,hsp];rfl) (by simp[Ap]);have hbl:=hv.2.2 _ (List.getLast_mem hne);have c:=Xp (s:=Ds n) (A:=A') (C:=[]) (b:=n.kids.getLast hne) (a:=A'.length) (by rw[h3];simp) rfl (by omega) (by omega);rw[e,Cj,h2];dsimp only;rw[if_neg (by rw[c];simp),c];dsimp only;have en:(⟨false,[]++n.keys,[],[]++n.kids.dropLast++[n.kids.getLast hne]⟩:Nd)=n:=by rw[List.nil_append,List.nil_append,hsp,<-hl,<-hv.1]
  rw[en];refine fin _ ?_;have:(Ds n).size=A'.length+2:=by rw[<-Ao,h3];simp[Ap]
  omega
theorem OA:∀(ks vs:List bA),(∀k∈ks,k.size<=32)->(∀v∈vs,v.size<=200)->(K6 ks vs).length<=236*ks.length
 | [],_,_,_=>by simp[K6]
 | _::_,[],_,_=>by simp[K6]
 | k::ks,v::vs,h1,h2=>by have:=OA ks vs (λx hx=>h1 x (List.mem_cons_of_mem _ hx)) (λx hx=>h2 x (List.mem_cons_of_mem _ hx));have a1:=h1 k (by simp);have a2:=h2 v (by simp);simp only[K6,MJ,List.length_append,Ap,Ao,List.length_cons];omega
theorem Pg:∀(bs:List Int) (ks:List bA),(∀k∈ks,k.size<=32)->(J3 bs ks).length<=36*ks.length+2
 | [],_,_=>by simp[J3]
 | b::bs,[],_=>by simp[J3,Ap]
 | b::bs,k::ks,h=>by have:=Pg bs ks (λx hx=>h x (List.mem_cons_of_mem _ hx));have a1:=h k (by simp);simp only[J3,MJ,List.length_append,Ap,Ao,List.length_cons];omega
theorem SI {n:Nd}(hok:NdOK n true):(Ds n).size<=4000:=by
 obtain⟨hs,h8,_⟩:=hok;have hks:=IW hs.2.1;rw[show(Ds n).size=(Gi n).length from Fy _,Gi,List.length_append,Ap];split
 ·rename_i hl;have hv:∀v∈n.vals,v.size<=200:=by
   rcases hs.2.2 with⟨_,_,_,h⟩|⟨h,_⟩
   ·exact h
   ·rw[hl]at h;cases h
  have:=OA n.keys n.vals (λk hk=>(hks k hk).2) hv;omega
 ·have:=Pg n.kids n.keys (λk hk=>(hks k hk).2);omega
theorem Vu (n:Nd):1<=CZ n/\CZ n<=2:=by unfold CZ;split<;>omega
theorem OX {n:Nd}(hok:NdOK n true){g:Int}(h0:0<=g)(h1:g<=1099511627776):pgOK (CZ n) g (Ds n):=by have h2:=Vu n;have h3:=SI hok;exact⟨by omega,by omega,h0,h1,by omega⟩
theorem Nv {n:Nd}{r:Bool}(h:NdOK n r):NdOK n true:=⟨h.1,h.2.1,.inl rfl⟩
theorem RD {w:Wd}{b:Int}{n:Nd}{g:Int}(hr:WRight w)(h10:10<=b)(h1:b<w.now.length)(hn:tr w.now b.toNat=true)(hp:pgAt w b=pageB g n)(h0:0<=g)(hg:g<=w.gen){r:Bool}(hok:NdOK n r):Aj w b r=some n:=by have hg2:w.gen<=1099511627776:=hr.2.2.2.1;rw[Po (by rw[hn];have:=hr.2.1;simp;omega),hp,pageB,Rl (OX (Nv hok) h0 (by omega)),FA,if_neg (by omega),UJ (Nv hok)];dsimp only;rw[if_neg (by simp),if_pos hok]
abbrev TR:=Int->bA->bA->List Pr->List Int->Prop
def Gy (R:TR):bA->bA->List bA->List Int->List Pr->List Int->Prop
 | lo,hi,[],[],P,B=>lo=hi/\P=[]/\B=[]
 | lo,hi,k::ks,c::cs,P,B=>∃P1 B1 P2 B2,R c lo k P1 B1/\Gy R k hi ks cs P2 B2/\P=P1++P2/\B=B1++B2
 | _,_,_,_,_,_=>False
theorem Ft {R:TR}:∀ {i:Nat} {ks:List bA} {cs:List Int} {lo hi:bA} {P:List Pr} {B:List Int},KTr R lo hi ks cs P B->i<=ks.length ->
   ∃mid P1 B1 P2 B2,Gy R lo mid (ks.take i) (cs.take i) P1 B1/\KTr R mid hi (ks.drop i) (cs.drop i) P2 B2/\P=P1++P2/\B=B1++B2
 | 0,ks,cs,lo,hi,P,B,h,_=>⟨lo,[],[],P,B,by simp[Gy],by simpa using h,rfl,rfl⟩
 | i+1,[],cs,_,_,_,_,h,hi=>by simp at hi
 | i+1,k::ks,[],_,_,_,_,h,_=>h.elim
 | i+1,k::ks,c::cs,lo,hi,P,B,h,hle=>by obtain⟨P1,B1,P2,B2,h1,h2,rfl,rfl⟩:=h;obtain⟨mid,Q1,C1,Q2,C2,g1,g2,rfl,rfl⟩:=Ft (i:=i) h2 (by simpa using hle);exact⟨mid,P1++Q1,B1++C1,Q2,C2,⟨P1,B1,Q1,C1,h1,g1,rfl,rfl⟩,g2,by simp,by simp⟩
theorem FL {R:TR}:∀ {ks1 ks2:List bA} {cs1 cs2:List Int} {lo mid hi:bA} {P1 P2:List Pr} {B1 B2:List Int},Gy R lo mid ks1 cs1 P1 B1->KTr R mid hi ks2 cs2 P2 B2->KTr R lo hi (ks1++ks2) (cs1++cs2) (P1++P2) (B1++B2)
 | [],ks2,[],cs2,lo,mid,hi,P1,P2,B1,B2,h1,h2=>by obtain⟨rfl,rfl,rfl⟩:=h1;exact h2
 | [],_,_::_,_,_,_,_,_,_,_,_,h1,_=>h1.elim
 | _::_,_,[],_,_,_,_,_,_,_,_,h1,_=>h1.elim
 | k::ks1,ks2,c::cs1,cs2,lo,mid,hi,P1,P2,B1,B2,h1,h2=>by obtain⟨Q1,C1,Q2,C2,g1,g2,rfl,rfl⟩:=h1;exact⟨Q1,C1,Q2++P2,C2++B2,g1,FL g2 h2,by simp,by simp⟩
theorem BD {R S:TR}:∀ {ks:List bA} {cs:List Int} {lo hi:bA} {P:List Pr} {B:List Int},(∀c lo hi P B',(∀x∈B',x∈B)->R c lo hi P B'->S c lo hi P B')->Gy R lo hi ks cs P B->Gy S lo hi ks cs P B
 | [],[],_,_,_,_,_,h=>h
 | [],_::_,_,_,_,_,_,h=>h
 | _::_,[],_,_,_,_,_,h=>h
 | k::ks,c::cs,lo,hi,P,B,m,h=>by obtain⟨P1,B1,P2,B2,h1,h2,rfl,rfl⟩:=h;exact⟨P1,B1,P2,B2,m _ _ _ _ _ (λx hx=>List.mem_append_left _ hx) h1,BD (λc lo hi P B' hB h=>m c lo hi P B' (λx hx=>List.mem_append_right _ (hB x hx)) h) h2,rfl,rfl⟩
theorem El {R:TR}:∀ {ks:List bA} {cs:List Int} {lo hi:bA} {P:List Pr} {B:List Int},KTr R lo hi ks cs P B->cs.length=ks.length+1
 | [],[],_,_,_,_,h=>h.elim
 | [],[c],_,_,_,_,_=>rfl
 | [],_::_::_,_,_,_,_,h=>h.elim
 | _::_,[],_,_,_,_,h=>h.elim
 | k::ks,c::cs,lo,hi,P,B,h=>by obtain⟨P1,B1,P2,B2,h1,h2,rfl,rfl⟩:=h;simp[El h2]
theorem I5 {R:TR}:∀ {ks:List bA} {cs:List Int} {lo hi:bA} {P:List Pr} {B:List Int},Gy R lo hi ks cs P B->hi=(ks.getLast?).getD lo
 | [],[],_,_,_,_,h=>h.1.symm
 | [],_::_,_,_,_,_,h=>h.elim
 | _::_,[],_,_,_,_,h=>h.elim
 | k::ks,c::cs,lo,hi,P,B,h=>by obtain⟨P1,B1,P2,B2,h1,h2,rfl,rfl⟩:=h;rw[I5 h2,List.getLast?_cons];cases ks.getLast?<;>rfl
theorem K9 {R:TR}(m:∀c lo hi P B,R c lo hi P B->∀p∈P,within p.1 lo hi=true):∀ {ks:List bA} {cs:List Int} {lo hi:bA} {P:List Pr} {B:List Int},Cp ks->(∀k∈ks,k≠empS)->Gy R lo hi ks cs P B->∀p∈P,lt p.1 hi=true
 | [],[],_,_,_,_,_,_,h=>by obtain⟨_,rfl,_⟩:=h;intro p hp;cases hp
 | [],_::_,_,_,_,_,_,_,h=>h.elim
 | _::_,[],_,_,_,_,_,_,h=>h.elim
 | k::ks,c::cs,lo,hi,P,B,hr,he,h=>by
  obtain⟨P1,B1,P2,B2,h1,h2,rfl,rfl⟩:=h;obtain⟨r1,r2⟩:=List.pairwise_cons.1 hr;intro p hp;rcases List.mem_append.1 hp with hp|hp
  ·have hpk:lt p.1 k=true:=by
    rcases(within_iff.1 (m _ _ _ _ _ h1 p hp)).2 with h|h;·exact absurd h (he k (by simp))
    ·exact h
   have hend:=I5 h2
   cases hx:ks.getLast? with
   | none=>rw[hx]at hend;rw[hend];exact hpk
   | some z=> rw[hx]at hend;rw[hend];exact AS hpk (r1 z (List.mem_of_getLast? hx))
  ·exact K9 m r2 (λk hk=>he k (List.mem_cons_of_mem _ hk)) h2 p hp
theorem kok_iff {l:List bA}:NC l ↔ (Cp l/\∀k∈l,1<=k.size/\k.size<=32):=by refine⟨λh=>⟨G6 h,IW h⟩,λ⟨h1,h2⟩ j hj _=>?_⟩;have:=h2 _ (List.getElem_mem hj);exact⟨this.1,this.2,λh0=>List.pairwise_iff_getElem.1 h1 (j-1) j (by omega) hj (by omega)⟩
def BH {α:Type}(l:List α)(i:Nat)(x:α):List α:=l.take i++x::l.drop i
theorem C5 {α:Type}{l:List α}{i:Nat}(x:α)(h:i<=l.length):(BH l i x).length=l.length+1:=by simp[BH];omega
theorem insAt_mem {α:Type}{l:List α}{i:Nat}{x y:α}:y∈BH l i x ↔ y=x\/y∈l:=by
 have e:y∈l ↔ y∈l.take i\/y∈l.drop i:=by rw[<-List.mem_append,List.take_append_drop]
 unfold BH;rw[List.mem_append,List.mem_cons,e];constructor
 ·rintro(h|h|h);·exact .inr (.inl h)
  ·exact .inl h
  ·exact .inr (.inr h)
 ·rintro(h|h|h);·exact .inr (.inl h)
  ·exact .inl h
  ·exact .inr (.inr h)
theorem PR {l:List bA}{i:Nat}{x:bA}(h:Cp l)(h1:∀k∈l.take i,lt k x=true)(h2:∀k∈l.drop i,lt x k=true):Cp (BH l i x):=by
 have e:Cp (l.take i++l.drop i):=by rw[List.take_append_drop];exact h
 obtain⟨a,b,c⟩:=List.pairwise_append.1 e;refine List.pairwise_append.2 ⟨a,List.pairwise_cons.2 ⟨h2,b⟩,λp hp q hq=>?_⟩;rcases List.mem_cons.1 hq with rfl|hq;·exact h1 p hp
 ·exact c p hp q hq
theorem G0 {α:Type}{l:List α}{i:Nat}{x:α}(h:x∈l.take i):∃(j:Nat) (hj:j<l.length),j<i/\l[j]=x:=by obtain⟨j,hj,rfl⟩:=List.getElem_of_mem h;rw[List.length_take]at hj;exact⟨j,by omega,by omega,by simp⟩
theorem Et {α:Type}{l:List α}{i:Nat}{x:α}(h:x∈l.drop i):∃(j:Nat) (hj:j<l.length),i<=j/\l[j]=x:=by obtain⟨j,hj,rfl⟩:=List.getElem_of_mem h;rw[List.length_drop]at hj;exact⟨i+j,by omega,by omega,by simp⟩
theorem Fz {l:List bA}{x:bA}:∀k∈l.take (AL l x),lt k x=true:=λk hk=>by obtain⟨j,hj,hjs,rfl⟩:=G0 hk;exact(Ku l x).2.1 j hj hjs
theorem Jo {l:List bA}{x:bA}(h:Cp l)(hn:Dd l x=false):∀k∈l.drop (AL l x),lt x k=true:=λk hk=>by
 obtain⟨j,hj,hjs,rfl⟩:=Et hk;have h0:AL l x<l.length:=by omega
 have h1:=(Ku l x).2.2 h0;have hne:l[AL l x]≠x:=λe=>by rw[Dd,gI h0,e]at hn;simp at hn
 have h2:lt x l[AL l x]=true:=by
  rcases nlt_iff.1 h1 with e|e;·exact absurd e hne
  ·exact e
 by_cases e:j=AL l x;·subst e;exact h2
 ·exact AS h2 (List.pairwise_iff_getElem.1 h _ _ h0 hj (by omega))
theorem LW {l:List bA}{x:bA}:∀k∈l.take (Ax l x),lt x k=false:=by
 induction l with
 | nil=>intro k hk;cases hk
 | cons y r ih=>
  intro k hk;unfold Ax at hk;split at hk;·cases hk
  ·rename_i hy;rw[List.take_succ_cons]at hk;rcases List.mem_cons.1 hk with rfl|hk;·simpa using hy
   ·exact ih k hk
theorem KV {l:List bA}{x:bA}(h:Cp l):∀k∈l.drop (Ax l x),lt x k=true:=by
 induction l with
 | nil=>intro k hk;simp[Ax]at hk
 | cons y r ih=>
  obtain⟨h1,h2⟩:=List.pairwise_cons.1 h;intro k hk;unfold Ax at hk;split at hk
  ·rename_i hy;rw[List.drop_zero]at hk;rcases List.mem_cons.1 hk with rfl|hk;·exact hy
   ·exact AS hy (h1 k hk)
  ·rw[List.drop_succ_cons]at hk;exact ih h2 k hk
def EP (key val:bA)(P:List Pr):List Pr:=P.filter (λp=>lt p.1 key)++(key,val)::P.filter (λp=>lt key p.1)
def E9 (key:bA)(P:List Pr):List Pr:=P.filter (λp=>lt p.1 key)++P.filter (λp=>lt key p.1)
theorem DK {key:bA}{P:List Pr}(h:∀p∈P,lt p.1 key=true):P.filter (λp=>lt p.1 key)=P/\P.filter (λp=>lt key p.1)=[]:=
 ⟨List.filter_eq_self.2 h,List.filter_eq_nil_iff.2 λp hp=>by rw[BT (h p hp)];simp⟩
theorem DI {key:bA}{P:List Pr}(h:∀p∈P,lt key p.1=true):P.filter (λp=>lt p.1 key)=[]/\P.filter (λp=>lt key p.1)=P:=
 ⟨List.filter_eq_nil_iff.2 λp hp=>by rw[BT (h p hp)];simp,List.filter_eq_self.2 h⟩
theorem VC {key val:bA}{P1 P2 P3:List Pr}(h1:∀p∈P1,lt p.1 key=true)(h3:∀p∈P3,lt key p.1=true):EP key val (P1++(P2++P3))=P1++(EP key val P2++P3):=by unfold EP;rw[List.filter_append,List.filter_append,List.filter_append,List.filter_append,(DK h1).1,(DK h1).2,(DI h3).1,(DI h3).2];simp
theorem WZ {key:bA}{P1 P2 P3:List Pr}(h1:∀p∈P1,lt p.1 key=true)(h3:∀p∈P3,lt key p.1=true):E9 key (P1++(P2++P3))=P1++(E9 key P2++P3):=by unfold E9;rw[List.filter_append,List.filter_append,List.filter_append,List.filter_append,(DK h1).1,(DK h1).2,(DI h3).1,(DI h3).2];simp
theorem bW {ks vs:List bA}{i:Nat}{k v:bA}(hl:vs.length=ks.length)(hi:i<=ks.length):(BH ks i k).zip (BH vs i v)=(ks.take i).zip (vs.take i)++(k,v)::(ks.drop i).zip (vs.drop i):=by unfold BH;rw[List.zip_append (by simp;omega),List.zip_cons_cons]
theorem Ep {ks vs:List bA}(i:Nat)(hl:vs.length=ks.length):ks.zip vs=(ks.take i).zip (vs.take i)++(ks.drop i).zip (vs.drop i):=by rw[<-List.zip_append (by simp;omega),List.take_append_drop,List.take_append_drop]
theorem Gb {ks vs:List bA}{p:Pr}(h:p∈ks.zip vs):p.1∈ks:=(List.of_mem_zip (a:=p.1) (b:=p.2) h).1
theorem YN {ks vs:List bA}{key val:bA}(hr:Cp ks)(hl:vs.length=ks.length)(hn:Dd ks key=false):(BH ks (AL ks key) key).zip (BH vs (AL ks key) val)=EP key val (ks.zip vs):=by have hi:=EU ks key;rw[bW hl hi,EP,Ep (AL ks key) hl];have h1:∀p∈(ks.take (AL ks key)).zip (vs.take (AL ks key)),lt p.1 key=true:=λp hp=>Fz _ (Gb hp);have h2:∀p∈(ks.drop (AL ks key)).zip (vs.drop (AL ks key)),lt key p.1=true:=λp hp=>Jo hr hn _ (Gb hp);rw[List.filter_append,List.filter_append,(DK h1).1,(DK h1).2,(DI h2).1,(DI h2).2];simp
theorem TL {ks:List bA}{key:bA}(h:Dd ks key=true):∃hi:AL ks key<ks.length,ks[AL ks key]=key:=by have:=of_decide_eq_true h;obtain⟨h2,h3⟩:=List.getElem?_eq_some_iff.1 this;exact⟨h2,h3⟩
theorem Tw {ks:List bA}{key:bA}(hr:Cp ks)(h:Dd ks key=true):ks.drop (AL ks key)=key::ks.drop (AL ks key+1)/\∀k∈ks.drop (AL ks key+1),lt key k=true:=by obtain⟨hi,he⟩:=TL h;refine⟨by rw[List.drop_eq_getElem_cons hi,he],λk hk=>?_⟩;obtain⟨j,hj,hjs,rfl⟩:=Et hk;have:=List.pairwise_iff_getElem.1 hr _ _ hi hj (by omega);rw[he]at this;exact this
theorem XS {ks vs:List bA}{key val:bA}(hr:Cp ks)(hl:vs.length=ks.length)(hn:Dd ks key=true):ks.zip (vs.set (AL ks key) val)=EP key val (ks.zip vs):=by
 obtain⟨hi,he⟩:=TL hn;obtain⟨hd,hg⟩:=Tw hr hn;have hvi:AL ks key<vs.length:=by omega
 have h1:∀p∈(ks.take (AL ks key)).zip (vs.take (AL ks key)),lt p.1 key=true:=λp hp=>Fz _ (Gb hp);have h2:∀p∈(ks.drop (AL ks key+1)).zip (vs.drop (AL ks key+1)),lt key p.1=true:=λp hp=>hg _ (Gb hp);rw[EP,Ep (AL ks key) hl,Ep (vs:=vs.set (AL ks key) val) (AL ks key) (by simpa using hl),hd,List.drop_eq_getElem_cons hvi,List.drop_eq_getElem_cons (show AL ks key<(vs.set (AL ks key) val).length by simpa using hvi)];simp only[List.zip_cons_cons,List.getElem_set_self,List.take_set_of_le (Nat.le_refl _),List.drop_set_of_lt (Nat.lt_succ_self _)];rw[List.filter_append,List.filter_append,(DK h1).1,(DK h1).2];have h3:lt key key=false:=Cq key;simp only[List.filter_cons,h3,(DI h2).1,(DI h2).2];simp
def De {α:Type}(l:List α)(i:Nat):List α:=l.take i++l.drop (i+1)
theorem Xm {ks vs:List bA}{key:bA}(hr:Cp ks)(hl:vs.length=ks.length)(hn:Dd ks key=true):(De ks (AL ks key)).zip (De vs (AL ks key))=E9 key (ks.zip vs):=by
 obtain⟨hi,he⟩:=TL hn;obtain⟨hd,hg⟩:=Tw hr hn;have hvi:AL ks key<vs.length:=by omega
 have h1:∀p∈(ks.take (AL ks key)).zip (vs.take (AL ks key)),lt p.1 key=true:=λp hp=>Fz _ (Gb hp);have h2:∀p∈(ks.drop (AL ks key+1)).zip (vs.drop (AL ks key+1)),lt key p.1=true:=λp hp=>hg _ (Gb hp);rw[E9,Ep (AL ks key) hl,hd,List.drop_eq_getElem_cons hvi,De,De,List.zip_append (by simp;omega),List.zip_cons_cons];rw[List.filter_append,List.filter_append,(DK h1).1,(DK h1).2];have h3:lt key key=false:=Cq key;simp only[List.filter_cons,h3,(DI h2).1,(DI h2).2];simp
theorem NQ {α:Type}{l:List α}{i:Nat}(h:i<l.length):(De l i).length+1=l.length:=by simp[De];omega
theorem Ju {α:Type}{l:List α}{i:Nat}{x:α}(h:x∈De l i):x∈l:=by
 rcases List.mem_append.1 h with h|h;·exact List.mem_of_mem_take h
 ·exact List.mem_of_mem_drop h
theorem XM {l:List bA}(i:Nat)(h:Cp l):Cp (De l i):=by
 have e:Cp (l.take i++l.drop i):=by rw[List.take_append_drop];exact h
 obtain⟨a,b,c⟩:=List.pairwise_append.1 e;have hsub:∀x∈l.drop (i+1),x∈l.drop i:=λx hx=>by rw[<-List.drop_drop]at hx;exact List.mem_of_mem_drop hx
 refine List.pairwise_append.2 ⟨a,?_,λp hp q hq=>c p hp q (hsub q hq)⟩;rw[<-List.drop_drop];exact b.drop
def AY (w:Wd)(i:Nat):Bool := !(tr w.base i) && !(tr w.now i)
def DZ (w:Wd):Nat->Nat
 | 0=>0
 | i+1=>DZ w i+if AY w i then 1 else 0
def D6 (w:Wd):Nat:=DZ w w.now.length
def Ff (w:Wd):Nat->Option Nat
 | 0=>none
 | i+1=>match Ff w i with
   | some j=>some j
   | none=>if AY w i then some i else none
def firstFree (w:Wd):Option Nat:=Ff w w.now.length
theorem DC {w:Wd}:∀ {i j:Nat},Ff w i=some j->j<i/\AY w j=true/\∀k,k<j->AY w k=false
 | 0,j,h=>by cases h
 | i+1,j,h=>by
  unfold Ff at h
  cases hx:Ff w i with
  | some k=>
   rw[hx]at h;obtain rfl:k=j:=by simpa using h
   obtain⟨h1,h2,h3⟩:=DC hx;exact⟨by omega,h2,h3⟩
  | none=>
   rw[hx]at h;dsimp only at h;split at h
   ·rename_i hf;obtain rfl:i=j:=by simpa using h
    refine⟨by omega,hf,λk hk=>?_⟩;have hn:∀(m:Nat),Ff w m=none->∀k,k<m->AY w k=false:=λm=>by
     induction m with
     | zero=>intro _ k hk;omega
     | succ m ih=>
      intro hm k hk;unfold Ff at hm
      cases hy:Ff w m with
      | some z=>rw[hy]at hm;cases hm
      | none=>
       rw[hy]at hm;dsimp only at hm;split at hm;·cases hm
       ·rename_i hg;by_cases e:k=m;·subst e;simpa using hg
        ·exact ih hy k (by omega)
    exact hn i hx k hk
   ·cases h
theorem Ho {w:Wd}:∀ {i:Nat},Ff w i=none->∀k,k<i->AY w k=false
 | 0,_,k,hk=>by omega
 | i+1,h,k,hk=>by
  unfold Ff at h
  cases hx:Ff w i with
  | some z=>rw[hx]at h;cases h
  | none=>
   rw[hx]at h;dsimp only at h;split at h;·cases h
   ·rename_i hg;by_cases e:k=i;·subst e;simpa using hg
    ·exact Ho hx k (by omega)
theorem Lw {w:Wd}:∀ {i:Nat},(∀k,k<i->AY w k=false)->DZ w i=0
 | 0,_=>rfl
 | i+1,h=>by rw[DZ,Lw λk hk=>h k (by omega),h i (by omega)];rfl
theorem XQ {w:Wd}(h:firstFree w=none):D6 w=0:=Lw (Ho h)
theorem Mc {w x:Wd}{b:Nat}(h:∀j,j≠b->AY w j=AY x j):∀i,DZ w i<=DZ x i+if b<i then 1 else 0
 | 0=>by simp[DZ]
 | i+1=>by
  have ih:=Mc h i;unfold DZ;by_cases e:i=b;·subst e;rw[if_neg (by omega)]at ih;rw[if_pos (show i<i+1 by omega)];split<;>split<;>omega
  ·rw[h i e];by_cases hb:b<i;·rw[if_pos hb]at ih;rw[if_pos (show b<i+1 by omega)];omega
   ·rw[if_neg hb]at ih;rw[if_neg (show ¬b<i+1 by omega)];omega
theorem LM {w x:Wd}(h:∀j,AY w j=true->AY x j=true):∀i,DZ w i<=DZ x i
 | 0=>Nat.le_refl _
 | i+1=>by
  have ih:=LM h i;unfold DZ;by_cases hf:AY w i=true;·rw[hf,h i hf];simp;omega
  ·rw[if_neg hf];omega
structure Fr (w x:Wd) (O N W:List Int):Prop where
 base:x.base=w.base
 gen:x.gen=w.gen
 root:x.root=w.root
 nlen:x.now.length=w.now.length
 plen:x.pages.length=w.pages.length
 now:∀i:Nat,i<w.now.length->tr x.now i=((tr w.now i && !decide ((i:Int)∈O))||decide ((i:Int)∈N))
 page:∀b:Int,0<=b->b∉W->pgAt x b=pgAt w b
 wr:∀b∈W,b∈N/\10<=b/\b<w.now.length/\tr w.base b.toNat=false/\(b∈O\/tr w.now b.toNat=false)/\∃n,NdOK n true/\pgAt x b=pageB w.gen n
 kept:∀b∈N,b∈W\/b∈O
theorem Fr.refl (w:Wd):Fr w w [] [] []:=⟨rfl,rfl,rfl,rfl,rfl,λi _=>by simp,λ_ _ _=>rfl,λb h=>(by cases h),λb h=>(by cases h)⟩
theorem Fr.trans {w x y:Wd}{O N W O' N' W':List Int}(h:Fr w x O N W)(g:Fr x y O' N' W')(hd:∀b∈N,b∉O'):Fr w y (O++O') (N++N') (W++W') where
 base:=g.base.trans h.base
 gen:=g.gen.trans h.gen
 root:=g.root.trans h.root
 nlen:=g.nlen.trans h.nlen
 plen:=g.plen.trans h.plen
 now i hi:=by
  rw[g.now i (by rw[h.nlen];exact hi),h.now i hi];simp only[List.mem_append];by_cases hN:(i:Int)∈N;·have:=hd _ hN;simp[hN,this]
  ·by_cases h1:(i:Int)∈O<;>by_cases h2:(i:Int)∈O'<;>by_cases h3:(i:Int)∈N'<;>simp[hN,h1,h2,h3]
 page b hb hn:=by rw[List.mem_append]at hn;rw[g.page b hb λe=>hn (.inr e),h.page b hb λe=>hn (.inl e)]
 wr b hb:=by
  rw[List.mem_append]at hb;by_cases h2:b∈W'
  ·obtain⟨a1,a2,a3,a4,a5,n,a6,a7⟩:=g.wr b h2;rw[h.nlen]at a3;refine⟨List.mem_append_right _ a1,a2,a3,by rw[<-h.base];exact a4,?_,n,a6,by rw[a7,h.gen]⟩;rcases a5 with a5|a5;·exact .inl (List.mem_append_right _ a5)
   ·rw[h.now b.toNat (by omega),show((b.toNat:Nat):Int)=b by omega]at a5;simp only[Bool.or_eq_false_iff,Bool.and_eq_false_iff,Bool.not_eq_false',decide_eq_true_eq]at a5;rcases a5.1 with a6|a6;·exact .inr a6
    ·exact .inl (List.mem_append_left _ a6)
  ·have hb:=hb.resolve_right h2;obtain⟨a1,a2,a3,a4,a5,n,a6,a7⟩:=h.wr b hb;refine⟨List.mem_append_left _ a1,a2,a3,a4,?_,n,a6,by rw[g.page b (by omega) h2];exact a7⟩;rcases a5 with a5|a5;·exact .inl (List.mem_append_left _ a5)
   ·exact .inr a5
 kept b hb:=by
  rcases List.mem_append.1 hb with hb|hb
  ·rcases h.kept b hb with e|e;·exact .inl (List.mem_append_left _ e)
   ·exact .inr (List.mem_append_left _ e)
  ·rcases g.kept b hb with e|e;·exact .inl (List.mem_append_right _ e)
   ·exact .inr (List.mem_append_right _ e)
theorem Fr.keep {w x:Wd}{O N W:List Int}(h:Fr w x O N W)(E:List Int)(hE:∀b∈E,tr w.now b.toNat=true/\b∉O/\0<=b):Fr w x (O++E) (N++E) W where
 base:=h.base
 gen:=h.gen
 root:=h.root
 nlen:=h.nlen
 plen:=h.plen
 now i hi:=by
  rw[h.now i hi];simp only[List.mem_append];by_cases h1:(i:Int)∈E;·obtain⟨a,b,_⟩:=hE _ h1;rw[show(i:Int).toNat=i by omega]at a;simp[h1,a,b]
  ·simp[h1]
 page:=h.page
 wr b hb:=by
  obtain⟨a1,a2,a3,a4,a5,a6⟩:=h.wr b hb;refine⟨List.mem_append_left _ a1,a2,a3,a4,?_,a6⟩;rcases a5 with a5|a5;·exact .inl (List.mem_append_left _ a5)
  ·exact .inr a5
 kept b hb:=by
  rcases List.mem_append.1 hb with hb|hb
  ·rcases h.kept b hb with e|e;·exact .inl e
   ·exact .inr (List.mem_append_left _ e)
  ·exact .inr (List.mem_append_right _ hb)
theorem Fr.congr {w x:Wd}{O N W O' N':List Int}(h:Fr w x O N W)(hO:∀b,b∈O ↔ b∈O')(hN:∀b,b∈N ↔ b∈N'):Fr w x O' N' W where
 base:=h.base
 gen:=h.gen
 root:=h.root
 nlen:=h.nlen
 plen:=h.plen
 now i hi:=by rw[h.now i hi];simp only[hO,hN]
 page:=h.page
 wr b hb:=by obtain⟨a1,a2,a3,a4,a5,a6⟩:=h.wr b hb;exact⟨(hN b).1 a1,a2,a3,a4,a5.imp (hO b).1 id,a6⟩
 kept b hb:=(h.kept b ((hN b).2 hb)).imp id (hO b).1
theorem Fr.hold {w x:Wd}{O N W:List Int}(h:Fr w x O N W){b:Int}{r:Bool}{n:Nd}(hb:b∉O)(hh:Aj w b r=some n):Aj x b r=some n:=by
 have ht:=BF hh;have h0:10<=b/\b<w.now.length:=by
  unfold Aj at hh;split at hh;·cases hh
  ·omega
 have hW:b∉W:=λe=>by
  rcases(h.wr b e).2.2.2.2.1 with e2|e2;·exact hb e2
  ·rw[ht]at e2;cases e2
 have hnow:tr x.now b.toNat=true:=by rw[h.now b.toNat (by omega),show((b.toNat:Nat):Int)=b by omega,ht];simp[hb]
 rw[<-hh];unfold Aj;rw[h.nlen,h.plen,hnow,ht,h.page b (by omega) hW,h.gen]
theorem Fr.used {w x:Wd}{O N W:List Int}(h:Fr w x O N W){b:Int}(hb:b∈N)(h0:0<=b)(h1:b<w.now.length):tr x.now b.toNat=true:=by rw[h.now b.toNat (by omega),show((b.toNat:Nat):Int)=b by omega];simp[hb]
theorem Fr.right {w x:Wd}{O N W:List Int}(h:Fr w x O N W)(hr:WRight w)(hO:∀b∈O,10<=b)(hs:∀s∈x.pages,s.size<=4096):WRight x:=by
 obtain⟨⟨a1,a2,a3,a4⟩,a5,a6,a7,a8,a9⟩:=hr;refine⟨⟨by rw[h.base,h.nlen];exact a1,by rw[h.nlen];exact a2,by rw[h.nlen];exact a3,λj hj=>⟨by rw[h.base];exact(a4 j hj).1,?_⟩⟩,by rw[h.plen,h.nlen];exact a5,by rw[h.gen];exact a6,by rw[h.gen];exact a7,by rw[h.root,h.nlen];exact a8,hs⟩;rw[h.now j (by omega),(a4 j hj).2];have:(j:Int)∉O:=λe=>by have:=hO _ e;omega
 simp[this]
structure Ed where
 w:Wd
 bad:Int
noncomputable def Ag (e:Ed)(n:Nd):Int×Ed:=
 if e.bad≠0 then (0,e) else if ¬NdOK n true then (0,{ e with bad:=81 }) else match firstFree e.w with
 | none=>(0,{ e with bad:=60 })
 | some b=>((b:Int),{ e with w := { e.w with now:=e.w.now.set b true,pages:=e.w.pages.set b (pageB e.w.gen n) } })
noncomputable def AI (e:Ed)(b d:Int):Nd×Ed:=
 if e.bad≠0 then (Gu,e) else match Aj e.w b (d==1) with
 | none=>(Gu,{ e with bad:=81 })
 | some n=>if d > 8 then (Gu,{ e with bad:=81 }) else (n,e)
noncomputable def B7 (e:Ed)(b:Int):Ed:=
 if e.bad≠0 then e else if b<10\/b>=e.w.now.length\/tr e.w.now b.toNat=false then { e with bad:=81 } else { e with w := { e.w with now:=e.w.now.set b.toNat false } }
theorem E7 {l:List Bool}{j:Nat}{v:Bool}(hj:j<l.length)(i:Nat):tr (l.set j v) i=if i=j then v else tr l i:=by
 unfold tr;by_cases e:i=j;·subst e;rw[if_pos rfl,List.getElem?_set_self hj];rfl
 ·rw[if_neg e,List.getElem?_set_ne (λh=>e h.symm)]
theorem Je {w:Wd}{j:Nat}{s:bA}(hj:j<w.pages.length)(b:Int):pgAt { w with pages:=w.pages.set j s } b=if b.toNat=j then s else pgAt w b:=by
 unfold pgAt;dsimp only;by_cases e:b.toNat=j;·rw[if_pos e,e,List.getElem?_set_self hj];rfl
 ·rw[if_neg e,List.getElem?_set_ne (λh=>e h.symm)]
theorem Ri {n:Nd}(hok:NdOK n true){g:Int}(h0:0<=g)(h1:g<=1099511627776):(pageB g n).size<=4096:=by
 rcases A7 (pageB g n) with⟨e,he,h⟩|⟨k,g',b,h,_,hs,_⟩
 ·rw[pageB,Rl (OX hok h0 h1)]at h;simp[EN,pg]at h;exact absurd h.2.symm he
 ·exact hs
theorem CD {e:Ed}{n:Nd}(he:e.bad=0)(hr:WRight e.w)(hok:NdOK n true):((Ag e n).2.bad=60/\D6 e.w=0/\(Ag e n).2.w=e.w) \/
   ((Ag e n).2.bad=0/\WRight (Ag e n).2.w/\Fr e.w (Ag e n).2.w [] [(Ag e n).1] [(Ag e n).1]/\D6 e.w<=D6 (Ag e n).2.w+1/\tr e.w.now (Ag e n).1.toNat=false /\
     ∀r,NdOK n r->Aj (Ag e n).2.w (Ag e n).1 r=some n):=by
 unfold Ag
 rw[if_neg (by rw[he];simp),if_neg (by simpa using hok)]
 cases hf:firstFree e.w with
 | none=>exact .inl ⟨rfl,XQ hf,rfl⟩
 | some b=>
  dsimp only
  obtain⟨h1,h2,h3⟩:=DC hf
  obtain⟨⟨a1,a2,a3,a4⟩,a5,a6,a7,a8,a9⟩:=id hr
  have hfb:tr e.w.base b=false/\tr e.w.now b=false:=by unfold AY at h2;simpa using h2
  have h10:10<=b:=Classical.byContradiction λhc=>by have:=(a4 b (by omega)).2;rw[hfb.2]at this;cases this
  have hpb:b<e.w.pages.length:=by omega
  have hfr:Fr e.w { e.w with now:=e.w.now.set b true,pages:=e.w.pages.set b (pageB e.w.gen n) } [] [(b:Int)] [(b:Int)]:=by
   refine⟨rfl,rfl,rfl,by simp,by simp,λi hi=>?_,λx hx hn=>?_,λx hx=>?_,λx hx => .inl hx⟩
   ·dsimp only;rw[E7 h1];by_cases e1:i=b;·simp[e1]
    ·rw[if_neg e1];have:¬(i:Int)=b:=by omega
     simp[this]
   ·have:x≠b:=by simpa using hn
    show pgAt { e.w with pages:=e.w.pages.set b (pageB e.w.gen n) } x=_;rw[Je hpb,if_neg (by omega)]
   ·obtain rfl:x=b:=by simpa using hx
    refine⟨by simp,by omega,by omega,hfb.1,.inr hfb.2,n,hok,?_⟩;show pgAt { e.w with pages:=e.w.pages.set b (pageB e.w.gen n) } (b:Int)=_;rw[Je hpb,if_pos (by simp)]
  have hw:WRight { e.w with now:=e.w.now.set b true,pages:=e.w.pages.set b (pageB e.w.gen n) }:=by
   refine hfr.right hr (λx hx=>by cases hx) λs hs=>?_;rcases List.mem_or_eq_of_mem_set hs with hs|rfl
   ·exact a9 s hs
   ·exact Ri hok (by omega) a7
  refine .inr ⟨he,hw,hfr,?_,by simpa using hfb.2,λr hnr=>?_⟩
  ·have:=Mc (w:=e.w) (x := { e.w with now:=e.w.now.set b true,pages:=e.w.pages.set b (pageB e.w.gen n) }) (b:=b) (λj hj=>by unfold AY;dsimp only;rw[E7 h1,if_neg hj]) e.w.now.length
   rw[if_pos h1]at this
   have hl:D6 { e.w with now:=e.w.now.set b true,pages:=e.w.pages.set b (pageB e.w.gen n) } = DZ { e.w with now:=e.w.now.set b true,pages:=e.w.pages.set b (pageB e.w.gen n) } e.w.now.length:=by unfold D6;simp
   rw[hl];exact this
  ·refine RD hw (by omega) (by simp;omega) ?_ (g:=e.w.gen) ?_ (by omega) (Int.le_refl _) hnr
   ·dsimp only
    rw[E7 h1,if_pos (by simp)]
   ·show pgAt { e.w with pages:=e.w.pages.set b (pageB e.w.gen n) } (b:Int)=_
    rw[Je hpb,if_pos (by simp)]
theorem IK {e:Ed}{b:Int}{r:Bool}{n:Nd}(he:e.bad=0)(hr:WRight e.w)(hh:Aj e.w b r=some n):(B7 e b).bad=0/\WRight (B7 e b).w/\Fr e.w (B7 e b).w [b] [] []/\D6 e.w<=D6 (B7 e b).w:=by
 have ht:=BF hh;have hrg:=CW (CK hr) hh;have hbi:b.toNat<e.w.now.length:=by omega
 unfold B7;rw[if_neg (by rw[he];simp),if_neg (by rw[ht];simp;omega)];have hfr:Fr e.w { e.w with now:=e.w.now.set b.toNat false } [b] [] []:=by
  refine⟨rfl,rfl,rfl,by simp,rfl,λi hi=>?_,λx hx hn=>rfl,λx hx=>(by cases hx),λx hx=>(by cases hx)⟩;dsimp only;rw[E7 hbi];by_cases e1:i=b.toNat
  ·have:(i:Int)=b:=by omega
   simp[e1,this];omega
  ·rw[if_neg e1];have:(i:Int)≠b:=by omega
   simp[this]
 refine⟨he,hfr.right hr (λx hx=>?_) hr.2.2.2.2.2,hfr,?_⟩
 ·obtain rfl:x=b:=by simpa using hx
  omega
 ·have:=LM (w:=e.w) (x := { e.w with now:=e.w.now.set b.toNat false }) (λj hj=>by
   unfold AY at hj |-;dsimp only;rw[E7 hbi];split;·simp only[Bool.and_eq_true]at hj;rw[hj.1];rfl
   ·exact hj) e.w.now.length
  have hl:D6 { e.w with now:=e.w.now.set b.toNat false } = DZ { e.w with now:=e.w.now.set b.toNat false } e.w.now.length:=by unfold D6;simp
  rw[hl];exact this
end Go.Proofs.YtegndijbpiccgaaGreatDoor.M
