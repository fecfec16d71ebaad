import Derived.Test.YtegndijbpiccgaaGreatDoorR5Nge2
import Derived.Test.YtegndijbpiccgaaGreatDoorMirO
import Derived.Test.YtegndijbpiccgaaGreatDoorR5LV
namespace Go.Proofs.YtegndijbpiccgaaGreatDoor.M
set_option linter.unusedVariables false
set_option linter.unusedSimpArgs false
open Go Go.Mir
structure Wd where
 base:List Bool
 now:List Bool
 pages:List bA
 root:Int
 gen:Int
def Bg (l:List Bool):List Mir.D:=l.map .bool
theorem AH (l:List Bool):(Bg l).length=l.length:=by simp[Bg]
theorem Cg {l:List Bool}{i:Nat}(h:i<l.length):(Bg l)[i]?=some (.bool l[i]):=by simp[Bg,h]
def EA (w:Wd):AV := .agg [aL (Bg w.base),aL (Bg w.now),aL (AG w.pages),aI w.root,aI w.gen]
structure WFits (w:Wd):Prop where
 b:Small w.base.length
 n:Small w.now.length
 p:Small w.pages.length
 s:∀x∈w.pages,Small x.size
def tr (l:List Bool)(i:Nat):Bool:=(l[i]?).getD false
theorem DN {l:List Bool}{i:Nat}(h:i<l.length):tr l i=l[i]:=by simp[tr,h]
theorem Yd {l:List Bool}{i:Nat}(h:l.length<=i):tr l i=false:=by simp[tr,h]
def Ce (base now:List Bool):Prop:=base.length=now.length/\24<=now.length/\now.length<=2048/\∀j,j<10->tr base j=true/\tr now j=true
noncomputable instance (a b:List Bool):Decidable (Ce a b):=Classical.propDecidable _
def Kt (a b:List Bool):AV := .agg [aL (Bg a),aL (Bg b)]
theorem Xz {a b:List Bool}(h:¬Ce a b):AV.n (D.bool false) = aB (decide (Ce a b)):=by rw[decide_eq_false h]
def TG (L:List (List Bool)):List Mir.D:=L.map λa => .sl 1 (Bg a)
theorem Pn (L:List (List Bool)):(TG L).length=L.length:=by simp[TG]
theorem SN {L:List (List Bool)}{i:Nat}(h:i<L.length):(TG L)[i]?=some (.sl 1 (Bg L[i])):=by simp[TG,h]
theorem tN (a:List Bool)(i:Int)(h0:0<=i):Runs AD 125 [aL (Bg a),aI i] [] (aB (tr a i.toNat)) []:=by
 refine An (c:=c125) rfl rfl ?_;rw[vV,(AAo _ _ _).down,AH];refine Ab (λh=>?_) (λh=>?_)
 ·have ia:i.toNat<a.length:=by omega
  exact⟨rfl,h0,_,Cg ia,_,rfl,by rw[DN ia]⟩
 ·rw[Yd (by omega)]
def Kn (i:Int):Heap:=[(12100401,.box [aI i])]
theorem AEt (a:List Bool)(i:Int)(h0:0<=i):Runs AD 157 [aL (Bg a),.ptr 12100401 0] (Kn i) (aB (!(tr a i.toNat))) (Kn i):=by refine Ca (c:=c157) rfl rfl (by kernel_rfl) ?_;rewrite[Kn,oS,(nI _ _ _).down];exact⟨_,tN a i h0,rfl,rfl⟩
theorem AEI (L:List (List Bool))(hl:Small L.length)(i:Int)(h0:0<=i):∃r:Int,decide (r>=0)=L.any (λa => !(tr a i.toNat))/\Runs AD 158 [aL (TG L),.fn 157 [.ptr 12100401 0]] (Kn i) (aI r) (Kn i):=by
 have key:∃r H',Runs AD 158 [.o (.sl 1 (TG L)),.fn 157 [.ptr 12100401 0]] (Kn i) r H'/\∃k:Int,r = .n (.int .i64 k)/\H'=Kn i/\decide (k>=0)=L.any (λa => !(tr a i.toNat)):=by
  refine DH (R:=λr H'=>∃k:Int,r = .n (.int .i64 k)/\H'=Kn i/\decide (k>=0)=L.any (λa => !(tr a i.toNat))) ABR rfl (by kernel_rfl) ?_;rw[Kn,rC,(iT _ _ _).down,Pn];refine⟨λk=>0<=k/\k<=L.length/\∀(j:Nat) (h:j<L.length),(j:Int)<k->(!(tr L[j] i.toNat))=false,λk=>(L.length-k).toNat,⟨rfl,by omega,by omega,λj _ hj=>by omega⟩,?_⟩;rintro k ⟨k0,k1,hok⟩ _;refine Ab (λh=>?_) (λh=>⟨-1,rfl,rfl,?_⟩)
  ·have hi:k.toNat<L.length:=by omega
   refine⟨rfl,k0,_,SN hi,_,rfl,_,AEt _ i h0,Aa (λhb=>⟨k,rfl,rfl,?_⟩) (λhb=>?_)⟩;·rw[decide_eq_true k0];exact(Jy (p:=λa:List Bool => !(tr a i.toNat)) hi hb).symm
   ·repeat (refine And.intro rfl ?_)
    rw[Ad _ (by omega)];exact⟨⟨by omega,by omega,Hc (p:=λa:List Bool => !(tr a i.toNat)) k0 hi hb hok⟩,by first|omega|(dsimp only;omega)⟩
  ·exact(Jq (p:=λa:List Bool => !(tr a i.toNat)) k0 h hok).symm
 obtain⟨r,H',hr,k,rfl,rfl,hk⟩:=key;exact⟨k,hk,hr⟩
theorem AD1 (L:List (List Bool))(hl:Small L.length)(i:Int)(h0:0<=i):Runs AD 123 [aL (TG L),.fn 157 [.ptr 12100401 0]] (Kn i) (aB (L.any λa => !(tr a i.toNat))) (Kn i):=by refine Ca (c:=c123) rfl rfl (by kernel_rfl) ?_;rewrite[Kn,pL,(oP _ _ _).down];obtain⟨r,hr,h⟩:=AEI L hl i h0;exact⟨r,h,by rw[hr],rfl⟩
def Bc (L:List (List Bool)):Nat:=L.foldl (λn a=>max n a.length) 0
theorem OY (L:List (List Bool))(a:List Bool):Bc (L++[a])=max (Bc L) a.length:=by simp[Bc]
theorem ZW (a b:Nat):Ck true (a:Int) (b:Int)=(max a b:Nat):=by unfold Ck;simp only[if_true];split<;>omega
theorem uF (L:List (List Bool))(hl:Small L.length):Runs AD 122 [aL (TG L)] [] (aI (Bc L)) []:=by
 refine An (c:=c122) rfl rfl ?_;rw[yE,(ABu _ _).down,Pn];refine⟨λn k=>0<=k/\k<=L.length/\n=Bc (L.take k.toNat),λ_ k=>(L.length-k).toNat,⟨rfl,by omega,by omega,rfl⟩,?_⟩;rintro n k ⟨k0,k1,rfl⟩ _;refine Ab (λh=>?_) (λh=>?_)
 ·have hi:k.toNat<L.length:=by omega
  refine⟨rfl,k0,_,SN hi,_,rfl,?_⟩;repeat (refine And.intro rfl ?_)
  rw[Ad _ (by omega),AH,ZW];refine⟨⟨by omega,by omega,?_⟩,by first|omega|(dsimp only;omega)⟩;rw[show(k+1).toNat=k.toNat+1 by omega,A3 hi,OY]
 ·rw[List.take_of_length_le (by omega)]
def Dg (L:List (List Bool)):Nat->Nat
 | 0=>0
 | i+1=>Dg L i+if L.any (λa => !(tr a i)) then 0 else 1
theorem H4 (L:List (List Bool)):∀i,Dg L i<=i
 | 0=>Nat.le_refl _
 | i+1=>by have:=H4 L i;unfold Dg;split<;>omega
theorem GR (L:List (List Bool)):∀i,Dg L i=i ↔ ∀j,j<i->L.any (λa => !(tr a j))=false
 | 0=>⟨λ_ j h=>by omega,λ_=>rfl⟩
 | i+1=>by
  have h1:=H4 L i;have h2:=GR L i;unfold Dg;constructor
  ·intro h j hj
   cases hq:L.any (λa => !(tr a i)) with
   | true=>rw[hq]at h;simp at h;omega
   | false=>
    rw[hq]at h;simp at h;by_cases e:j=i;·subst e;exact hq
    ·exact(h2.1 h) j (by omega)
  ·intro h;rw[h i (by omega),h2.2 λj hj=>h j (by omega)];simp
theorem AG1 (L:List (List Bool))(hl:Small L.length)(hL:Bc L<=2048):Runs AD 121 [aL (TG L)] [] (aI (Dg L (Bc L))) []:=by
 refine An (c:=c121) rfl rfl ?_;rw[yR,ABT];refine⟨_,uF L hl,λn i=>0<=i/\i<=Bc L/\n=Dg L i.toNat,λ_ i=>(Bc L-i).toNat,⟨rfl,by omega,by omega,rfl⟩,?_⟩;rintro n i ⟨h0,h1,rfl⟩ _;have hc:=H4 L i.toNat;refine Ab (λh=>?_) (λh=>by rw[show i.toNat=Bc L by omega]);have e1:(i+1).toNat=i.toNat+1:=by omega
 refine⟨_,AD1 L hl i h0,Aa (λhb=>?_) (λhb=>?_)⟩
 ·repeat (refine And.intro rfl ?_)
  rw[Ad (_+1) (by omega),Ad (i+1) (by omega)];refine⟨⟨by omega,by omega,?_⟩,by first|omega|(dsimp only;omega)⟩;rw[e1,Dg,if_neg (by simpa using hb)];rfl
 ·repeat (refine And.intro rfl ?_)
  rw[Ad (i+1) (by omega)];refine⟨⟨by omega,by omega,?_⟩,by first|omega|(dsimp only;omega)⟩;rw[e1,Dg,if_pos (by simpa using hb)];rfl
theorem Pz (l:List Bool)(n:Nat):List.drop 0 (List.take n (Bg l))=Bg (l.take n):=by simp[Bg,List.map_take]
theorem Uq {l:List Bool}{n i:Nat}(h:i<n):tr (l.take n) i=tr l i:=by unfold tr;rw[List.getElem?_take_of_lt h]
theorem p75 (a b:List Bool)(ha:Small a.length)(hb:Small b.length):Runs AD 75 [Kt a b] [] (.n (.bool (decide (Ce a b)))) []:=by
 refine An (c:=c75) rfl rfl ?_;rw[Kt,AFV,(ACy _ _ _).down,AH,AH];refine Aa (λh=>Xz (by have:=of_decide_eq_true (show decide ((a.length:Int)≠b.length)=true by simpa using h);unfold Ce;omega)) (λh=>?_);have hl:(a.length:Int)=b.length:=by simpa using h
 refine Ab (λh=>Xz (by unfold Ce;omega)) (λh1=>Ab (λh=>Xz (by unfold Ce;omega)) (λh2=>?_));rw[show Int.toNat 10=10 from rfl,Pz,Pz];have g:=AG1 [a.take 10,b.take 10] (by simp) (by simp[Bc];omega);have hlg:Bc [a.take 10,b.take 10]=10:=by simp[Bc];omega
 rw[hlg]at g;refine⟨rfl,by decide,by omega,rfl,by decide,by omega,rfl,_,g,?_⟩;congr 2;refine Bool.eq_iff_iff.2 ⟨λh=>?_,λh=>?_⟩
 ·have hc:Dg [a.take 10,b.take 10] 10=10:=by have:=Jr h;omega
  have:=(GR _ 10).1 hc;refine decide_eq_true ⟨by omega,by omega,by omega,λj hj=>?_⟩;have h3:=this j hj;simp only[List.any_cons,List.any_nil,Bool.or_false,Bool.or_eq_false_iff,Bool.not_eq_false',Uq hj]at h3;exact h3
 ·have hr:=of_decide_eq_true h;have:Dg [a.take 10,b.take 10] 10=10:=(GR _ 10).2 λj hj=>by obtain⟨h3,h4⟩:=hr.2.2.2 j hj;simp only[List.any_cons,List.any_nil,Bool.or_false,Uq hj,h3,h4];rfl
  rw[this];rfl
def WRight (w:Wd):Prop:=Ce w.base w.now/\w.pages.length=w.now.length/\1<=w.gen/\w.gen<=1099511627776/\(w.root=0\/10<=w.root/\w.root<w.now.length)/\∀s∈w.pages,s.size<=4096
noncomputable instance (w:Wd):Decidable (WRight w):=Classical.propDecidable _
theorem N7 {w:Wd}(h:¬WRight w):AV.n (D.bool false) = aB (decide (WRight w)):=by rw[decide_eq_false h]
theorem sT (w:Wd)(hf:WFits w):Runs AD 67 [EA w] [] (.n (.bool (decide (WRight w)))) []:=by
 refine An (c:=c67) rfl rfl ?_;rw[EA,AFu,(AEm _ _ _ _ _ _).down,AH,Am];refine⟨_,p75 w.base w.now hf.b hf.n,?_⟩;by_cases ha:Ce w.base w.now
 ·rw[decide_eq_true ha];refine Aa (λh=>by cases h) (λ_=>?_);refine Aa (λh=>N7 λhr=>?_) (λhp=>?_)
  ·have h1:=hr.2.1;have:(w.pages.length:Int)≠w.now.length:=by simpa using h
   omega
  have hp:(w.pages.length:Int)=w.now.length:=by simpa using hp
  refine Ab (λh=>N7 (by unfold WRight;omega)) (λh1=>Ab (λh=>N7 (by unfold WRight;omega)) (λh2=>?_));have last:(w.root=0\/(10<=w.root/\w.root<w.now.length))->∃x:Bool,Runs AD 111 [.o (.sl 1 (AG w.pages)),.fn 112 []] [] (.n (.bool x)) []/\AV.n (D.bool (!x)) = .n (.bool (decide (WRight w))):=λhr=>by
   refine⟨_,vK w.pages hf.p,?_⟩;congr 2;refine Bool.eq_iff_iff.2 ⟨λh=>?_,λh=>?_⟩
   ·refine decide_eq_true ⟨ha,by omega,by omega,by omega,hr,λs hs=>?_⟩;have h3:(w.pages.any λs=>decide ((s.size:Int) > 4096))=false:=by simpa using h
    have:=List.any_eq_false.1 h3 s hs;have:¬(s.size:Int) > 4096:=by simpa using this
    omega
   ·have h3:=(of_decide_eq_true h).2.2.2.2.2;have:(w.pages.any λs=>decide ((s.size:Int) > 4096))=false:=List.any_eq_false.2 λs hs=>by have:=h3 s hs;simp;omega
    rw[this];rfl
  refine Aa (λh=>?_) (λh=>last (.inl (by simpa using h)));have hr0:w.root≠0:=by simpa using h
  refine Ab (λh=>N7 (by unfold WRight;omega)) (λh3=>Ab (λh=>N7 (by unfold WRight;omega)) (λh4=>last (.inr (by omega))))
 ·rw[decide_eq_false ha];exact Aa (λ_=>N7 λhr=>ha hr.1) (λh=>by cases h)
theorem LL (s:bA)(n:Nd)(a:Int):CM s n a=(Gu,4)\/(CM s n a=(n,0)/\NdOK n true):=by
 unfold CM;by_cases hc:a≠s.size\/¬NdOK n true;·rw[if_pos hc];exact .inl rfl
 ·rw[if_neg hc];exact .inr ⟨rfl,Classical.byContradiction λh2=>hc (.inr h2)⟩
theorem Xh {s:bA}:∀(m:Nat) (a:Int) (ks vs:List bA) (e:Int),FB s m a ks vs = .inl e->e≠0
 | 0,a,ks,vs,e,h=>by simp[FB]at h
 | m+1,a,ks,vs,e,h=>by
  unfold FB at h;split at h;·rename_i h1;simp only[Sum.inl.injEq]at h;rw[<-h];exact h1
  split at h;·rename_i h1;simp only[Sum.inl.injEq]at h;rw[<-h];exact h1
  ·exact Xh m _ _ _ e h
theorem Yb {s:bA}:∀(m:Nat) (a:Int) (bs:List Int) (ks:List bA) (e:Int),Fk s m a bs ks = .inl e->e≠0
 | 0,a,bs,ks,e,h=>by simp[Fk]at h
 | m+1,a,bs,ks,e,h=>by
  unfold Fk at h;split at h;·rename_i h1;simp only[Sum.inl.injEq]at h;rw[<-h];exact h1
  split at h;·rename_i h1;simp only[Sum.inl.injEq]at h;rw[<-h];exact h1
  ·exact Yb m _ _ _ e h
theorem SO (k:Int)(s:bA):((Bh k s).2=0/\NdOK (Bh k s).1 true/\(k=1\/k=2)/\(Bh k s).1.leaf=(k==1))\/((Bh k s).2≠0/\(Bh k s).1=Gu):=by
 unfold Bh;by_cases h1:k≠1/\k≠2;·rw[if_pos h1];exact .inr ⟨by simp,rfl⟩
 rw[if_neg h1];by_cases h2:(gT s 0 1).2.2≠0;·rw[if_pos h2];exact .inr ⟨h2,rfl⟩
 rw[if_neg h2];have hk:k=1\/k=2:=by omega
 cases hl:(k==1) with
 | true=>
  rw[CV]
  cases hu:FB s (gT s 0 1).1.toNat (gT s 0 1).2.1 [] [] with
  | inl e=>exact .inr ⟨Xh _ _ _ _ _ hu,rfl⟩
  | inr x=>
   obtain⟨ks,vs,a⟩:=x;dsimp only;rcases LL s ⟨true,ks,vs,[]⟩ a with h|⟨h,hok⟩
   ·rw[h];exact .inr ⟨by simp,rfl⟩
   ·rw[h];exact .inl ⟨rfl,hok,hk,rfl⟩
 | false=>
  rw[Cj]
  cases hu:Fk s (gT s 0 1).1.toNat (gT s 0 1).2.1 [] [] with
  | inl e=>exact .inr ⟨Yb _ _ _ _ _ hu,rfl⟩
  | inr x=>
   obtain⟨bs,ks,a⟩:=x;dsimp only;split;·rename_i h;exact .inr ⟨h,rfl⟩
   ·rcases LL s ⟨false,ks,[],bs++[(gT s a 2).1]⟩ (gT s a 2).2.1 with h|⟨h,hok⟩
    ·rw[h];exact .inr ⟨by simp,rfl⟩
    ·rw[h];exact .inl ⟨rfl,hok,hk,rfl⟩
theorem T6 {k:Int}{s:bA}(h:(Bh k s).2=0):NdOK (Bh k s).1 true/\(Bh k s).1.leaf=(k==1):=by
 rcases SO k s with⟨_,h1,_,h2⟩|⟨h1,_⟩
 ·exact⟨h1,h2⟩
 ·exact absurd h h1
theorem NP {n:Nd}{root:Bool}(h:NdOK n root):Bt n/\n.keys.length<=8/\n.vals.length<=8/\n.kids.length<=9:=by
 obtain⟨hs,h8,_⟩:=h;rcases hs.2.2 with⟨_,h1,h2,_⟩|⟨_,h1,_,h2,_⟩
 ·rw[Bt,h1];simp;omega
 ·rw[Bt,h1];simp;omega
noncomputable def Nr (p:AV)(gen:Int)(root:Bool):Option Nd:=
 match p with
 | .tup [.agg [.n (.int _ k),.n (.int _ g),.n (.str b)],.n (.int _ e)]=>
   if e≠0 then none else if g > gen then none else if (Bh k b).2≠0 then none else if NdOK (Bh k b).1 root then some (Bh k b).1 else none
 | _=>none
theorem FJ {e:Int}(he:e≠0)(gen:Int)(root:Bool):Nr (EN e) gen root=none:=by simp only[Nr,EN,pg,if_pos he]
theorem FA (k g:Int)(b:bA)(gen:Int)(root:Bool):Nr (.tup [pg k g b,aI 0]) gen root=if g > gen then none else if (Bh k b).2≠0 then none else if NdOK (Bh k b).1 root then some (Bh k b).1 else none:=by simp only[Nr,pg];rw[if_neg (by simp)]
def pgAt (w:Wd)(block:Int):bA:=(w.pages[block.toNat]?).getD empS
noncomputable def Aj (w:Wd)(block:Int)(root:Bool):Option Nd:=
 if block<10\/block>=w.now.length\/block>=w.pages.length\/tr w.now block.toNat=false then none else Nr (GetPR (pgAt w block)) w.gen root
def hVN:Option Nd->AV
 | some n => .tup [ndN n,.n (.bool true)]
 | none => .tup [ndN Gu,.n (.bool false)]
def hV:Option Nd->AV
 | some n => .tup [CU n,.n (.bool true)]
 | none => .tup [CU Gu,.n (.bool false)]
theorem FU {w:Wd}{block:Int}{root:Bool}(h:block<10\/block>=w.now.length\/block>=w.pages.length\/tr w.now block.toNat=false):Aj w block root=none:=by rw[Aj,if_pos h]
theorem Po {w:Wd}{block:Int}{root:Bool}(h:¬(block<10\/block>=w.now.length\/block>=w.pages.length\/tr w.now block.toNat=false)):Aj w block root=Nr (GetPR (pgAt w block)) w.gen root:=by rw[Aj,if_neg h]
theorem Ym {k:Int}(h:k∉[(1:Int),2])(b:bA):(Bh k b).2≠0:=by rw[Bh,if_pos (by simp at h;omega)];simp
theorem IN {w:Wd}{block:Int}(h:block.toNat<w.pages.length):w.pages[block.toNat]=pgAt w block:=by unfold pgAt;rw[gI h];rfl
theorem AEJ (w:Wd)(hf:WFits w)(block:Int)(root:Bool):Runs AD 117 [EA w,aI block,aB root] [] (hV (Aj w block root)) []:=by
 refine An (c:=c117) rfl rfl ?_;rw[EA,AA2,(yA _ _ _ _ _ _ _ _).down,AH,Am];refine Ab (λh=>by rw[FU (.inl h)];rfl) (λh1=>Ab (λh=>by rw[FU (.inr (.inl h))];rfl) (λh2=>Ab (λh=>by rw[FU (.inr (.inr (.inl h)))];rfl) (λh3=>?_)));have hi:block.toNat<w.now.length:=by omega
 have hj:block.toNat<w.pages.length:=by omega
 refine⟨rfl,by omega,_,Cg hi,_,rfl,?_⟩;rw[<-DN hi];refine Aa (λh=>by rw[FU (.inr (.inr (.inr (by simpa using h))))];rfl) (λh4=>?_);have h4:tr w.now block.toNat=true:=by simpa using h4
 rw[Po (by rw[h4];simp;omega)];refine⟨rfl,by omega,_,AZ hj,_,rfl,?_⟩;rw[IN hj];have hsz:Small (pgAt w block).size:=by rw[<-IN hj];exact hf.s _ (List.getElem_mem hj)
 have h55:=(p95 _ hsz).up E4;rcases A7 (pgAt w block) with⟨e,he,h⟩|⟨k,g,b,h,hok,_⟩
 ·rw[h]at h55;rw[h,FJ he];exact⟨_,_,_,_,h55,Aa (λ_=>rfl) (λh=>absurd (by simpa using h) he)⟩
 ·rw[h]at h55;rw[h,FA];refine⟨_,_,_,_,h55,Aa (λh=>by cases h) (λ_=>Ab (λhg=>by rw[if_pos hg];rfl) (λhg=>?_))⟩;rw[if_neg hg];obtain⟨_,_,_,_,hb⟩:=hok;have g2:=ACS k b (by omega);refine⟨_,_,_,_,_,g2,Aa (λhe=>by rw[if_pos (by simpa using he)];rfl) (λhe=>?_)⟩;have he:(Bh k b).2=0:=by simpa using he
  rw[if_neg (by rw[he];simp)];have hok2:=(T6 he).1;refine⟨_,WR (Bh k b).1 root (NP hok2).1,?_⟩;by_cases hn:NdOK (Bh k b).1 root;·rw[decide_eq_true hn,if_pos hn];rfl
  ·rw[decide_eq_false hn,if_neg hn];rfl
def nY (w:Wd):Heap:=[(17100302,.box [aL (Bg w.base),aL (Bg w.now),aL (AG w.pages),aI w.root,aI w.gen,aS (ByteArray.mk (List.toArray [])),aI 0,aI 0,.n .nil,aS (ByteArray.mk (List.toArray [])),aB false,aB false])]
theorem AAv (w:Wd)(hf:WFits w)(hp:w.pages.length=w.now.length)(block:Int)(root:Bool):Runs AD 194 [.ptr 17100302 0,aI block,aB root] (nY w) (hVN (Aj w block root)) (nY w):=by
 refine Ca (c:=c194) rfl rfl (by kernel_rfl) ?_;rw[nY,kE,(lZ _ _ _ _ _ _ _ _).down,AH];refine Ab (λh=>by rw[FU (.inl h)];exact⟨rfl,rfl⟩) (λh1=>Ab (λh=>by rw[FU (.inr (.inl h))];exact⟨rfl,rfl⟩) (λh2=>?_));have hi:block.toNat<w.now.length:=by omega
 have hj:block.toNat<w.pages.length:=by omega
 refine⟨rfl,by omega,_,Cg hi,_,rfl,?_⟩;rw[<-DN hi];refine Aa (λh=>by rw[FU (.inr (.inr (.inr (by simpa using h))))];exact⟨rfl,rfl⟩) (λh4=>?_);have h4:tr w.now block.toNat=true:=by simpa using h4
 rw[Po (by rw[h4];simp;omega)];refine⟨rfl,by omega,_,AZ hj,_,rfl,?_⟩;rw[IN hj];have hsz:Small (pgAt w block).size:=by rw[<-IN hj];exact hf.s _ (List.getElem_mem hj)
 refine⟨rfl,?_⟩;rcases A7 (pgAt w block) with⟨e,he,h⟩|⟨k,g,b,h,hok,_⟩
 ·have g1:=(KG _ hsz [1,2] e he h).up E4;rw[h,FJ he];exact⟨_,_,_,_,g1,Aa (λ_=>⟨rfl,rfl⟩) (λh=>absurd (by simpa using h) he)⟩
 ·have h53:=(OO _ hsz [1,2] (by simp) k g b h).up E4;rw[h,FA];by_cases hk:k∈[(1:Int),2]
  ·rw[if_pos hk]at h53;refine⟨_,_,_,_,h53,Aa (λh=>by cases h) (λ_=>Ab (λhg=>by rw[if_pos hg];exact⟨rfl,rfl⟩) (λhg=>?_))⟩;rw[if_neg hg];obtain⟨_,_,_,_,hb⟩:=hok;have g2:=AEG k b (by omega);refine⟨_,_,_,_,_,g2,Aa (λhe=>by rw[if_pos (by simpa using he)];exact⟨rfl,rfl⟩) (λhe=>?_)⟩;have he:(Bh k b).2=0:=by simpa using he
   rw[if_neg (by rw[he];simp)];have hok2:=(T6 he).1;refine⟨_,VS (Bh k b).1 root (NP hok2).1,?_⟩;by_cases hn:NdOK (Bh k b).1 root;·rw[decide_eq_true hn,if_pos hn];exact⟨rfl,rfl⟩
   ·rw[decide_eq_false hn,if_neg hn];exact⟨rfl,rfl⟩
  ·rw[if_neg hk]at h53;have hno:=Ym hk b;refine⟨_,_,_,_,h53,Aa (λ_=>?_) (λh=>by cases h)⟩;have:(if g > w.gen then none else if (Bh k b).2≠0 then none else if NdOK (Bh k b).1 root then some (Bh k b).1 else none)=(none:Option Nd):=by
    split;·rfl
    ·first | rfl|rw[if_pos hno]
   rw[this];exact⟨rfl,rfl⟩
noncomputable def Qw (w:Wd)(block:Int)(root:Bool):Nd×Int:=if WRight w then match Aj w block root with|some n=>(n,0)|none=>(Gu,81) else (Gu,1)
theorem vA (w:Wd)(hf:WFits w)(block:Int)(root:Bool):Runs AD 171 [EA w,aI block,aB root] [] (tK (Qw w block root)) []:=by
 have g41:=sT w hf;refine An (c:=c171) rfl rfl ?_;rw[EA,yY,(AAN _ _ _ _ _ _ _ _).down];by_cases hr:WRight w
 ·rw[decide_eq_true hr]at g41;have g68:=AAv w hf hr.2.1 block root;refine⟨_,g41,Aa (λh=>by cases h) (λ_=>?_)⟩;rw[Qw,if_pos hr]
  cases hh:Aj w block root with
  | none=> rw[hh]at g68;exact⟨_,_,_,_,_,_,_,_,_,_,_,_,_,_,_,_,g68,Aa (λ_=>rfl) (λh=>by cases h)⟩
  | some n=> rw[hh]at g68;exact⟨_,_,_,_,_,_,_,_,_,_,_,_,_,_,_,_,g68,Aa (λh=>by cases h) (λ_=>rfl)⟩
 ·rw[decide_eq_false hr]at g41;refine⟨_,g41,Aa (λ_=>?_) (λh=>by cases h)⟩;rw[Qw,if_neg hr];rfl
theorem Cr {w:Wd}{block:Int}{root:Bool}{n:Nd}(h:Aj w block root=some n):NdOK n root:=by
 unfold Aj at h;split at h;·cases h
 ·rcases A7 (pgAt w block) with⟨e,he,h'⟩|⟨k,g,b,h',_⟩
  ·rw[h',FJ he]at h;cases h
  ·rw[h',FA]at h;split at h;·cases h
   split at h;·cases h
   split at h;·rename_i hk;simp only[oI]at h;rw[<-h];exact hk
   ·cases h
def UY (n:Nd)(key:bA):Nat:=AL n.keys key+if Dd n.keys key then 1 else 0
theorem W1 {n:Nd}(hs:Au n)(hl:n.leaf=false)(key:bA):UY n key<n.kids.length:=by
 rcases hs.2.2 with⟨h,_⟩|⟨_,_,_,h,_⟩
 ·rw[hl]at h;cases h
 ·have h1:=EU n.keys key;unfold UY;split;·rename_i hat;have:n.keys[AL n.keys key]?=some key:=of_decide_eq_true hat;obtain⟨h2,_⟩:=List.getElem?_eq_some_iff.1 this;omega
  ·omega
theorem gE {l:List bA}{key:bA}(h:Dd l key=true):AL l key<l.length:=by obtain⟨h2,_⟩:=List.getElem?_eq_some_iff.1 (of_decide_eq_true h);exact h2
theorem XO (n:Nat):List.replicate n (D.str (ByteArray.mk (List.toArray [])))=AG (List.replicate n empS):=by simp[AG,empS]
abbrev Pr:=bA×bA
abbrev Hd:=Int->Bool->Option Nd
def gK (H:Hd):Prop:=∀b r n,H b r=some n->NdOK n r
theorem EJ (w:Wd):gK (Aj w):=λ_ _ _ h=>Cr h
def within (k lo hi:bA):Bool := !(lt k lo)&&(decide (hi=empS)||lt k hi)
theorem within_iff {k lo hi:bA}:within k lo hi=true ↔ lt k lo=false/\(hi=empS\/lt k hi=true):=by unfold within;simp only[Bool.and_eq_true,Bool.not_eq_true',Bool.or_eq_true,decide_eq_true_eq]
def KTr (R:Int->bA->bA->List Pr->List Int->Prop):bA->bA->List bA->List Int->List Pr->List Int->Prop
 | lo,hi,[],[c],P,B=>R c lo hi P B
 | lo,hi,k::ks,c::cs,P,B=>∃P1 B1 P2 B2,R c lo k P1 B1/\KTr R k hi ks cs P2 B2/\P=P1++P2/\B=B1++B2
 | _,_,_,_,_,_=>False
def Tr (H:Hd):Nat->Int->Bool->bA->bA->List Pr->List Int->Prop
 | 0,_,_,_,_,_,_=>False
 | h+1,b,root,lo,hi,P,B=>∃n,H b root=some n/\(∀k∈n.keys,within k lo hi=true) /\
    ((n.leaf=true/\h=0/\n.keys≠[]/\P=n.keys.zip n.vals/\B=[b]) \/
     (n.leaf=false/\∃B',B=b::B'/\KTr (λc lo hi P B=>Tr H h c false lo hi P B) lo hi n.keys n.kids P B'))
theorem KTr.mono {R S:Int->bA->bA->List Pr->List Int->Prop}:∀ {ks:List bA} {cs:List Int} {lo hi:bA} {P:List Pr} {B:List Int},
   (∀c lo hi P B',(∀x∈B',x∈B)->R c lo hi P B'->S c lo hi P B')->KTr R lo hi ks cs P B->KTr S lo hi ks cs P B
 | [],[],_,_,_,_,_,h=>h
 | [],[c],lo,hi,P,B,m,h=>m c lo hi P B (λ_ h=>h) h
 | [],_::_::_,_,_,_,_,_,h=>h
 | _::_,[],_,_,_,_,_,h=>h
 | k::ks,c::cs,lo,hi,P,B,m,h=>by obtain⟨P1,B1,P2,B2,h1,h2,rfl,rfl⟩:=h;exact⟨P1,B1,P2,B2,m _ _ _ _ _ (λx hx=>List.mem_append_left _ hx) h1,KTr.mono (λc lo hi P B' hB h=>m c lo hi P B' (λx hx=>List.mem_append_right _ (hB x hx)) h) h2,rfl,rfl⟩
theorem Tr.frame {H G:Hd}:∀ {h:Nat} {b:Int} {root:Bool} {lo hi:bA} {P:List Pr} {B:List Int},
   (∀x∈B,∀r n,H x r=some n->G x r=some n)->Tr H h b root lo hi P B->Tr G h b root lo hi P B
 | 0,_,_,_,_,_,_,_,h=>h
 | h+1,b,root,lo,hi,P,B,f,ht=>by
  obtain⟨n,hn,hk,hh⟩:=ht;rcases hh with⟨h1,h2,h3,h4,rfl⟩|⟨h1,B',rfl,h2⟩
  ·exact⟨n,f b (by simp) _ _ hn,hk,.inl ⟨h1,h2,h3,h4,rfl⟩⟩
  ·refine⟨n,f b (by simp) _ _ hn,hk,.inr ⟨h1,B',rfl,KTr.mono (λc lo hi P B'' hB hc=>Tr.frame (λx hx=>f x (List.mem_cons_of_mem _ (hB x hx))) hc) h2⟩⟩
theorem KTr.one {R S:Int->bA->bA->List Pr->List Int->Prop}(m:∀c lo hi lo' hi' P B P' B',R c lo hi P B->S c lo' hi' P' B'->P=P'/\B=B'):∀ {ks:List bA} {cs:List Int} {lo hi lo' hi':bA} {P P':List Pr} {B B':List Int},
   KTr R lo hi ks cs P B->KTr S lo' hi' ks cs P' B'->P=P'/\B=B'
 | [],[],_,_,_,_,_,_,_,_,h,_=>h.elim
 | [],[c],lo,hi,_,_,P,P',B,B',h,h'=>m _ _ _ _ _ _ _ _ _ h h'
 | [],_::_::_,_,_,_,_,_,_,_,_,h,_=>h.elim
 | _::_,[],_,_,_,_,_,_,_,_,h,_=>h.elim
 | k::ks,c::cs,lo,hi,_,_,P,P',B,B',h,h'=>by obtain⟨P1,B1,P2,B2,h1,h2,rfl,rfl⟩:=h;obtain⟨Q1,C1,Q2,C2,g1,g2,rfl,rfl⟩:=h';obtain⟨rfl,rfl⟩:=m _ _ _ _ _ _ _ _ _ h1 g1;obtain⟨rfl,rfl⟩:=KTr.one m h2 g2;exact⟨rfl,rfl⟩
theorem Tr.one {H:Hd}:∀ {h h':Nat} {b:Int} {root:Bool} {lo hi lo' hi':bA} {P P':List Pr} {B B':List Int},
   Tr H h b root lo hi P B->Tr H h' b root lo' hi' P' B'->P=P'/\B=B'
 | 0,_,_,_,_,_,_,_,_,_,_,_,h,_=>h.elim
 | _,0,_,_,_,_,_,_,_,_,_,_,_,h=>h.elim
 | h+1,h'+1,b,root,lo,hi,lo',hi',P,P',B,B',ht,ht'=>by
  obtain⟨n,hn,_,hh⟩:=ht;obtain⟨n',hn',_,hh'⟩:=ht';rw[hn]at hn';obtain rfl:n=n':=by simpa using hn'
  rcases hh with⟨h1,h2,h3,rfl,rfl⟩|⟨h1,C,rfl,h2⟩
  ·rcases hh' with⟨_,_,_,rfl,rfl⟩|⟨g1,_⟩
   ·exact⟨rfl,rfl⟩
   ·rw[h1]at g1;cases g1
  ·rcases hh' with⟨g1,_⟩|⟨_,C',rfl,g2⟩
   ·rw[h1]at g1;cases g1
   ·obtain⟨rfl,rfl⟩:=KTr.one (R:=λc lo hi P B=>Tr H h c false lo hi P B) (S:=λc lo hi P B=>Tr H h' c false lo hi P B) (λc lo hi lo' hi' P B P' B' x y=>Tr.one x y) h2 g2;exact⟨rfl,rfl⟩
theorem KTr.mem {R:Int->bA->bA->List Pr->List Int->Prop}{Q:Int->Prop}(m:∀c lo hi P B,R c lo hi P B->∀x∈B,Q x):∀ {ks:List bA} {cs:List Int} {lo hi:bA} {P:List Pr} {B:List Int},
   KTr R lo hi ks cs P B->∀x∈B,Q x
 | [],[],_,_,_,_,h=>h.elim
 | [],[c],lo,hi,P,B,h=>m _ _ _ _ _ h
 | [],_::_::_,_,_,_,_,h=>h.elim
 | _::_,[],_,_,_,_,h=>h.elim
 | k::ks,c::cs,lo,hi,P,B,h=>by
  obtain⟨P1,B1,P2,B2,h1,h2,rfl,rfl⟩:=h;intro x hx;rcases List.mem_append.1 hx with hx|hx;·exact m _ _ _ _ _ h1 x hx
  ·exact KTr.mem m h2 x hx
theorem Tr.held {H:Hd}:∀ {h:Nat} {b:Int} {root:Bool} {lo hi:bA} {P:List Pr} {B:List Int},
   Tr H h b root lo hi P B->∀x∈B,∃r n,H x r=some n
 | 0,_,_,_,_,_,_,h=>h.elim
 | h+1,b,root,lo,hi,P,B,ht=>by
  obtain⟨n,hn,_,hh⟩:=ht;intro x hx;rcases hh with⟨_,_,_,_,rfl⟩|⟨_,C,rfl,h2⟩
  ·obtain rfl:x=b:=by simpa using hx
   exact⟨_,_,hn⟩
  ·rcases List.mem_cons.1 hx with rfl|hx;·exact⟨_,_,hn⟩
   ·exact KTr.mem (Q:=λx=>∃r n,H x r=some n) (λc lo hi P B hc=>Tr.held hc) h2 x hx
theorem Tr.root_mem {H:Hd}{h:Nat}{b:Int}{root:Bool}{lo hi:bA}{P:List Pr}{B:List Int}(ht:Tr H h b root lo hi P B):b∈B:=by
 cases h with
 | zero=>exact ht.elim
 | succ h=>
  obtain⟨n,_,_,⟨_,_,_,_,rfl⟩|⟨_,C,rfl,_⟩⟩:=ht;·simp
  ·simp
theorem DB {k a b c:bA}(h:within k b c=true)(hab:lt b a=false):within k a c=true:=by
 obtain⟨h1,h2⟩:=within_iff.1 h;refine within_iff.2 ⟨?_,h2⟩;rcases nlt_iff.1 hab with rfl|hab;·exact h1
 ·rcases nlt_iff.1 h1 with rfl|h1;·exact BT hab
  ·exact BT (AS hab h1)
theorem EX {k lo a hi:bA}(h:within k lo a=true)(ha:a≠empS)(hah:within a lo hi=true):within k lo hi=true:=by
 obtain⟨h1,h2⟩:=within_iff.1 h;obtain⟨_,g2⟩:=within_iff.1 hah;refine within_iff.2 ⟨h1,?_⟩;rcases g2 with g2|g2;·exact .inl g2
 ·rcases h2 with h2|h2;·exact absurd h2 ha
  ·exact .inr (AS h2 g2)
def Cp (ks:List bA):Prop:=ks.Pairwise (λa b=>lt a b=true)
theorem G6 {l:List bA}(h:NC l):Cp l:=List.pairwise_iff_getElem.2 λi j hi hj hij=>Lc h i j hi hj hij
theorem PZ {l:List bA}(h:NC l):∀k∈l,k≠empS:=λk hk e=>by obtain⟨i,hi,rfl⟩:=List.getElem_of_mem hk;have:=(h i hi hi).1;rw[e]at this;exact absurd this (by decide)
theorem pO (k:bA):lt k empS=false:=by
 unfold lt;have:empS.toList=[]:=by rw[DS];rfl
 rw[this];cases k.toList<;>rfl
theorem KTr.within {R:Int->bA->bA->List Pr->List Int->Prop}(m:∀c lo hi P B,R c lo hi P B->∀p∈P,within p.1 lo hi=true):∀ {ks:List bA} {cs:List Int} {lo hi:bA} {P:List Pr} {B:List Int},
   Cp ks->(∀k∈ks,k≠empS)->(∀k∈ks,within k lo hi=true)->KTr R lo hi ks cs P B->∀p∈P,within p.1 lo hi=true
 | [],[],_,_,_,_,_,_,_,h=>h.elim
 | [],[c],lo,hi,P,B,_,_,_,h=>m _ _ _ _ _ h
 | [],_::_::_,_,_,_,_,_,_,_,h=>h.elim
 | _::_,[],_,_,_,_,_,_,_,h=>h.elim
 | k::ks,c::cs,lo,hi,P,B,hr,he,hw,h=>by
  obtain⟨P1,B1,P2,B2,h1,h2,rfl,rfl⟩:=h;obtain⟨r1,r2⟩:=List.pairwise_cons.1 hr;have hk:=hw k (by simp);intro p hp;rcases List.mem_append.1 hp with hp|hp;·exact EX (m _ _ _ _ _ h1 p hp) (he k (by simp)) hk
  ·have:=KTr.within m r2 (λk hk=>he k (List.mem_cons_of_mem _ hk)) (λx hx=>within_iff.2 ⟨BT (r1 x hx),(within_iff.1 (hw x (List.mem_cons_of_mem _ hx))).2⟩) h2 p hp;exact DB this (within_iff.1 hk).1
theorem aQ {n:Nd}{p:Pr}(h:p∈n.keys.zip n.vals):p.1∈n.keys:=(List.of_mem_zip (a:=p.1) (b:=p.2) h).1
theorem Tr.within {H:Hd}(ho:gK H):∀ {h:Nat} {b:Int} {root:Bool} {lo hi:bA} {P:List Pr} {B:List Int},
   Tr H h b root lo hi P B->∀p∈P,within p.1 lo hi=true
 | 0,_,_,_,_,_,_,h=>h.elim
 | h+1,b,root,lo,hi,P,B,ht=>by
  obtain⟨n,hn,hw,hh⟩:=ht;have hk:=(ho _ _ _ hn).1.2.1;rcases hh with⟨_,_,_,rfl,_⟩|⟨_,C,rfl,h2⟩
  ·exact λp hp=>hw _ (aQ hp)
  ·exact KTr.within (λc lo hi P B hc=>Tr.within ho hc) (G6 hk) (PZ hk) hw h2
def VM (P:List Pr):Prop:=P.Pairwise (λa b=>lt a.1 b.1=true)
theorem Tj:∀ {ks vs:List bA},Cp ks->VM (ks.zip vs)
 | [],_,_=>by simp[VM]
 | _::_,[],_=>by simp[VM]
 | k::ks,v::vs,h=>by obtain⟨h1,h2⟩:=List.pairwise_cons.1 h;exact List.pairwise_cons.2 ⟨λp hp=>h1 _ (List.of_mem_zip (a:=p.1) (b:=p.2) hp).1,Tj h2⟩
theorem KTr.inc {R:Int->bA->bA->List Pr->List Int->Prop}(m:∀c lo hi P B,R c lo hi P B->∀p∈P,Go.Proofs.YtegndijbpiccgaaGreatDoor.M.within p.1 lo hi=true)(m2:∀c lo hi P B,R c lo hi P B->VM P):∀ {ks:List bA} {cs:List Int} {lo hi:bA} {P:List Pr} {B:List Int},
   Cp ks->(∀k∈ks,k≠empS)->(∀k∈ks,Go.Proofs.YtegndijbpiccgaaGreatDoor.M.within k lo hi=true)->KTr R lo hi ks cs P B->VM P
 | [],[],_,_,_,_,_,_,_,h=>h.elim
 | [],[c],lo,hi,P,B,_,_,_,h=>m2 _ _ _ _ _ h
 | [],_::_::_,_,_,_,_,_,_,_,h=>h.elim
 | _::_,[],_,_,_,_,_,_,_,h=>h.elim
 | k::ks,c::cs,lo,hi,P,B,hr,he,hw,h=>by
  obtain⟨P1,B1,P2,B2,h1,h2,rfl,rfl⟩:=h;obtain⟨r1,r2⟩:=List.pairwise_cons.1 hr;have he':∀k∈ks,k≠empS:=λk hk=>he k (List.mem_cons_of_mem _ hk);have hw':∀x∈ks,Go.Proofs.YtegndijbpiccgaaGreatDoor.M.within x k hi=true:=λx hx=>within_iff.2 ⟨BT (r1 x hx),(within_iff.1 (hw x (List.mem_cons_of_mem _ hx))).2⟩;refine List.pairwise_append.2 ⟨m2 _ _ _ _ _ h1,KTr.inc m m2 r2 he' hw' h2,λp hp q hq=>?_⟩;have hp:=(within_iff.1 (m _ _ _ _ _ h1 p hp)).2;have hq:=(within_iff.1 (KTr.within m r2 he' hw' h2 q hq)).1;rcases hp with hp|hp
  ·exact absurd hp (he k (by simp))
  ·exact GZ hp hq
theorem Tr.inc {H:Hd}(ho:gK H):∀ {h:Nat} {b:Int} {root:Bool} {lo hi:bA} {P:List Pr} {B:List Int},
   Tr H h b root lo hi P B->VM P
 | 0,_,_,_,_,_,_,h=>h.elim
 | h+1,b,root,lo,hi,P,B,ht=>by
  obtain⟨n,hn,hw,hh⟩:=ht;have hk:=(ho _ _ _ hn).1.2.1;rcases hh with⟨_,_,_,rfl,_⟩|⟨_,C,rfl,h2⟩
  ·exact Tj (G6 hk)
  ·exact KTr.inc (λc lo hi P B hc=>Tr.within ho hc) (λc lo hi P B hc=>Tr.inc ho hc) (G6 hk) (PZ hk) hw h2
structure TS where
 ps:List Pr
 bs:List Int
 he:Int
 bad:Bool
def ON:TS:=⟨[],[],0,false⟩
def A1 (f:Int->bA->bA->TS->TS):bA->bA->List bA->List Int->TS->TS
 | _,_,_,[],t=>t
 | lo,hi,[],c::cs,t=>A1 f hi hi [] cs (if t.bad then t else f c lo hi t)
 | lo,hi,k::ks,c::cs,t=>A1 f k hi ks cs (if t.bad then t else f c lo k t)
def IZ (n:Nd)(lo hi:bA):Bool:=n.keys.any λk => !(within k lo hi)
def below (H:Hd):Nat->Int->Int->bA->bA->TS->TS
 | 0,_,_,_,_,t => { t with bad:=true }
 | f+1,b,d,lo,hi,t=>
   if b∈t.bs\/t.bad=true then { t with bad:=true } else
   match H b (d==1) with
   | none => { t with bad:=true }
   | some n=>if d > 8\/(n.leaf=true/\n.keys=[]) then { t with bad:=true } else
     if n.leaf then ⟨t.ps++n.keys.zip n.vals,t.bs++[b],d,IZ n lo hi||(t.he != 0&&t.he != d)⟩
     else A1 (λc lo hi t=>below H f c (d+1) lo hi t) lo hi n.keys n.kids ⟨t.ps,t.bs++[b],t.he,IZ n lo hi⟩
theorem Fv {f:Int->bA->bA->TS->TS}:∀ {ks:List bA} {cs:List Int} {lo hi:bA} {t:TS},t.bad=true->A1 f lo hi ks cs t=t
 | _,[],_,_,_,_=>by cases ‹List bA›<;>rfl
 | [],c::cs,lo,hi,t,h=>by rw[A1,if_pos h];exact Fv h
 | k::ks,c::cs,lo,hi,t,h=>by rw[A1,if_pos h];exact Fv h
structure Adds (t t':TS) (P:List Pr) (B:List Int) (D:Int):Prop where
 eq:t'=⟨t.ps++P,t.bs++B,D,false⟩
 he:t.he=0\/t.he=D
 nd:t.bs.Nodup->(t.bs++B).Nodup
 pos:1<=D/\D<=8
theorem Ke {H:Hd}{d:Int}{f:Int->bA->bA->TS->TS}
   (ih:∀c lo hi t,(f c lo hi t).bad=false->t.bad=false/\∃(h:Nat) (P:List Pr) (B:List Int),Tr H h c false lo hi P B/\Adds t (f c lo hi t) P B (d+h)):
   ∀ {ks:List bA} {cs:List Int} {lo hi:bA} {t:TS},cs.length=ks.length+1->(A1 f lo hi ks cs t).bad=false ->
     t.bad=false/\∃(h:Nat) (P:List Pr) (B:List Int),KTr (λc lo hi P B=>Tr H h c false lo hi P B) lo hi ks cs P B/\Adds t (A1 f lo hi ks cs t) P B (d+h)
 | ks,[],_,_,_,hl,_=>by simp at hl
 | [],[c],lo,hi,t,_,hb=>by
  simp only[A1]at hb |-;by_cases ht:t.bad=true;·rw[if_pos ht]at hb;rw[ht]at hb;cases hb
  ·rw[if_neg ht]at hb |-;obtain⟨h1,h,P,B,h2,h3⟩:=ih _ _ _ _ hb;exact⟨h1,h,P,B,h2,h3⟩
 | [],_::_::_,_,_,_,hl,_=>by simp at hl
 | k::ks,c::cs,lo,hi,t,hl,hb=>by
  simp only[A1]at hb |-;by_cases ht:t.bad=true;·rw[if_pos ht,Fv ht,ht]at hb;cases hb
  ·rw[if_neg ht]at hb |-;obtain⟨g1,h',P2,B2,g2,g3⟩:=Ke ih (by simpa using hl) hb;obtain⟨h1,h,P1,B1,h2,h3⟩:=ih _ _ _ _ g1;have hp:=h3.pos;have e:d+(h:Int)=d+h':=by have:=g3.he;rw[h3.eq]at this;simp only at this;omega
   obtain rfl:h=h':=by omega
   refine⟨h1,h,P1++P2,B1++B2,⟨P1,B1,P2,B2,h2,g2,rfl,rfl⟩,⟨?_,h3.he,λhn=>?_,hp⟩⟩;·rw[g3.eq,h3.eq];simp only[List.append_assoc]
   ·have:=g3.nd (by rw[h3.eq];exact h3.nd hn);rw[h3.eq]at this;simpa only[List.append_assoc] using this
theorem JU {H:Hd}(ho:gK H):∀(f:Nat) (b d:Int) (lo hi:bA) (t:TS),1<=d->(below H f b d lo hi t).bad=false ->
   t.bad=false/\∃(h:Nat) (P:List Pr) (B:List Int),Tr H h b (d==1) lo hi P B/\Adds t (below H f b d lo hi t) P B (d-1+h)
 | 0,b,d,lo,hi,t,_,hb=>by cases hb
 | f+1,b,d,lo,hi,t,hd,hb=>by
  unfold below at hb |-;by_cases h1:b∈t.bs\/t.bad=true;·rw[if_pos h1]at hb;cases hb
  rw[if_neg h1]at hb |-;have hnb:b∉t.bs:=λh=>h1 (.inl h);have htb:t.bad=false:=by cases h:t.bad with|false=>rfl|true=>exact absurd (.inr h) h1
  have ndb:t.bs.Nodup->(t.bs++[b]).Nodup:=λhn=>List.nodup_append.2 ⟨hn,by simp,λx hx y hy=>by
   obtain rfl:y=b:=by simpa using hy
   rintro rfl;exact hnb hx⟩
  cases hh:H b (d==1) with
  | none=>rw[hh]at hb;cases hb
  | some n=>
   rw[hh]at hb;dsimp only at hb |-;by_cases h2:d > 8\/(n.leaf=true/\n.keys=[]);·rw[if_pos h2]at hb;cases hb
   rw[if_neg h2]at hb |-;have hok:=ho _ _ _ hh
   cases hl:n.leaf with
   | true=>
    rw[hl]at hb;simp only[if_true,Bool.or_eq_false_iff,Bool.and_eq_false_iff,bne_eq_false_iff_eq]at hb |-;have hw:∀k∈n.keys,within k lo hi=true:=λk hk=>by have:=List.any_eq_false.1 hb.1 k hk;simpa using this
    refine⟨htb,1,n.keys.zip n.vals,[b],⟨n,hh,hw,.inl ⟨hl,rfl,λh=>h2 (.inr ⟨hl,h⟩),rfl,rfl⟩⟩,⟨?_,?_,ndb,by omega⟩⟩
    ·congr 1;·simp
     ·rw[Bool.or_eq_false_iff,Bool.and_eq_false_iff];exact⟨hb.1,by simpa using hb.2⟩
    ·rcases hb.2 with h|h;·exact .inl h
     ·exact .inr (by simp;exact h)
   | false=>
    rw[hl]at hb;simp only[Bool.false_eq_true,if_false]at hb |-;have hkl:n.kids.length=n.keys.length+1:=by
     rcases hok.1.2.2 with⟨h,_⟩|⟨_,_,_,h,_⟩
     ·rw[hl]at h;cases h
     ·exact h
    obtain⟨g1,h,P,B,g2,g3⟩:=Ke (H:=H) (d:=d) (λc lo hi t hb=>by
     obtain⟨x1,h,P,B,x2,x3⟩:=JU ho f c (d+1) lo hi t (by omega) hb;have e:(d+1==1)=false:=by simp;omega
     rw[e]at x2;rw[show d+1-1+(h:Int)=d+h by omega]at x3;exact⟨x1,h,P,B,x2,x3⟩) hkl hb
    have hoff:IZ n lo hi=false:=g1;have hw:∀k∈n.keys,within k lo hi=true:=λk hk=>by have:=List.any_eq_false.1 hoff k hk;simpa using this
    have e:d-1+((h+1:Nat):Int)=d+h:=by omega
    refine⟨htb,h+1,P,b::B,⟨n,hh,hw,.inr ⟨hl,B,rfl,g2⟩⟩,?_⟩;rw[e];refine⟨?_,g3.he,λhn=>?_,g3.pos⟩;·rw[g3.eq];simp
    ·have:=g3.nd (ndb hn);simpa using this
theorem LI {H:Hd}{d:Int}{h:Nat}{f:Int->bA->bA->TS->TS}
   (ih:∀c lo hi t P B,Tr H h c false lo hi P B->t.bad=false->(t.bs++B).Nodup->(t.he=0\/t.he=d+h)->f c lo hi t=⟨t.ps++P,t.bs++B,d+h,false⟩):
   ∀ {ks:List bA} {cs:List Int} {lo hi:bA} {t:TS} {P:List Pr} {B:List Int},KTr (λc lo hi P B=>Tr H h c false lo hi P B) lo hi ks cs P B->t.bad=false->(t.bs++B).Nodup->(t.he=0\/t.he=d+h) ->
     A1 f lo hi ks cs t=⟨t.ps++P,t.bs++B,d+h,false⟩
 | [],[],_,_,_,_,_,hk,_,_,_=>hk.elim
 | [],[c],lo,hi,t,P,B,hk,hb,hn,he=>by simp only[A1,hb,Bool.false_eq_true,if_false];exact ih _ _ _ _ _ _ hk hb hn he
 | [],_::_::_,_,_,_,_,_,hk,_,_,_=>hk.elim
 | _::_,[],_,_,_,_,_,hk,_,_,_=>hk.elim
 | k::ks,c::cs,lo,hi,t,P,B,hk,hb,hn,he=>by obtain⟨P1,B1,P2,B2,h1,h2,rfl,rfl⟩:=hk;rw[<-List.append_assoc]at hn;simp only[A1,hb,Bool.false_eq_true,if_false];rw[ih _ _ _ _ _ _ h1 hb (List.nodup_append.1 hn).1 he,LI ih h2 rfl hn (.inr rfl)];simp only[List.append_assoc]
theorem KU {H:Hd}:∀(f h:Nat) (b d:Int) (lo hi:bA) (t:TS) (P:List Pr) (B:List Int),Tr H h b (d==1) lo hi P B->1<=d->d-1+h<=8->h<=f->t.bad=false->(t.bs++B).Nodup->(t.he=0\/t.he=d-1+h) ->
   below H f b d lo hi t=⟨t.ps++P,t.bs++B,d-1+h,false⟩
 | f,0,b,d,lo,hi,t,P,B,ht,_,_,_,_,_,_=>ht.elim
 | 0,h+1,b,d,lo,hi,t,P,B,ht,_,_,hf,_,_,_=>by omega
 | f+1,h+1,b,d,lo,hi,t,P,B,ht,hd,h8,hf,hb,hn,he=>by
  have hb0:b∈B:=ht.root_mem;obtain⟨n,hh,hw,hx⟩:=ht;have hnb:b∉t.bs:=λh=>(List.nodup_append.1 hn).2.2 b h b hb0 rfl;have hoff:IZ n lo hi=false:=List.any_eq_false.2 λk hk=>by rw[hw k hk];simp
  unfold below;rw[if_neg (by rw[hb];simpa using hnb),hh];dsimp only;rcases hx with⟨hl,rfl,hk,rfl,rfl⟩|⟨hl,B',rfl,hk⟩
  ·rw[if_neg (by
    rintro(h|h);·omega
    ·exact hk h.2),hl,if_pos rfl,hoff]
   have e:(t.he != 0&&t.he != d)=false:=by
    rcases he with he|he;·rw[he];rfl
    ·rw[show t.he=d by simpa using he];simp
   rw[e];congr 1;simp
  ·rw[if_neg (by
    rintro(h|h);·omega
    ·rw[hl]at h;cases h.1),hl,if_neg (by simp),hoff]
   have e:d-1+((h+1:Nat):Int)=d+h:=by omega
   rw[e]at he |-;have hq:=LI (H:=H) (d:=d) (h:=h) (f:=λc lo hi t=>below H f c (d+1) lo hi t) (λc lo hi t P B hc hb hn he=>by
    have e2:(d+1==1)=false:=by simp;omega
    have:=KU f h c (d+1) lo hi t P B (by rw[e2];exact hc) (by omega) (by omega) (by omega) hb hn (by rw[show d+1-1+(h:Int)=d+h by omega];exact he);rw[show d+1-1+(h:Int)=d+h by omega]at this;exact this) (t:=⟨t.ps,t.bs++[b],t.he,false⟩) hk rfl (by simpa using hn) he
   rw[hq];simp
noncomputable def A4 (w:Wd):TS:=if w.root=0 then ON else below (Aj w) 9 w.root 1 empS empS ON
def IsTree (w:Wd)(h:Nat)(P:List Pr)(B:List Int):Prop:=
 w.root=0/\h=0/\P=[]/\B=[]\/w.root≠0/\1<=h/\h<=8/\Tr (Aj w) h w.root true empS empS P B/\B.Nodup
theorem Sl {w:Wd}(hb:(A4 w).bad=false):∃h P B,IsTree w h P B/\A4 w=⟨P,B,h,false⟩:=by
 unfold A4 at hb |-;by_cases h0:w.root=0;·rw[if_pos h0];exact⟨0,[],[],.inl ⟨h0,rfl,rfl,rfl⟩,rfl⟩
 ·rw[if_neg h0]at hb |-;obtain⟨_,h,P,B,ht,ha⟩:=JU (EJ w) 9 w.root 1 empS empS ON (by omega) hb;have hp:=ha.pos;have e:(1:Int)-1+h=h:=by omega
  rw[e]at ha hp;refine⟨h,P,B,.inr ⟨h0,by omega,by omega,ht,?_⟩,?_⟩;·have:=ha.nd (by simp[ON]);simpa[ON] using this
  ·rw[ha.eq];simp[ON]
theorem JB {w:Wd}{h:Nat}{P:List Pr}{B:List Int}(ht:IsTree w h P B):A4 w=⟨P,B,h,false⟩:=by
 unfold A4;rcases ht with⟨h0,rfl,rfl,rfl⟩|⟨h0,h1,h8,ht,hn⟩
 ·rw[if_pos h0];rfl
 ·rw[if_neg h0,KU 9 h w.root 1 empS empS ON P B ht (by omega) (by omega) (by omega) rfl (by simpa[ON] using hn) (.inl rfl)];simp[ON]
def Ax:List bA->bA->Nat
 | [],_=>0
 | k::r,x=>if lt x k then 0 else Ax r x+1
theorem FF:∀(l:List bA) (x:bA),Ax l x<=l.length
 | [],_=>Nat.le_refl _
 | k::r,x=>by
  unfold Ax;split;·omega
  ·have:=FF r x;simp;omega
theorem UP {k x:bA}{r:List bA}(h:lt k x=true):Dd (k::r) x=Dd r x:=by unfold Dd;rw[show AL (k::r) x=AL r x+1 by rw[AL,if_pos h],List.getElem?_cons_succ]
theorem P7 {x:bA}:∀ {l:List bA},Cp l->AL l x+(if Dd l x then 1 else 0)=Ax l x
 | [],_=>by simp[AL,Dd,Ax]
 | k::r,h=>by
  obtain⟨h1,h2⟩:=List.pairwise_cons.1 h;by_cases hk:lt k x=true
  ·have e:Ax (k::r) x=Ax r x+1:=by rw[Ax,BT hk,if_neg Bool.false_ne_true]
   rw[UP hk,e,<-P7 h2,AL,if_pos hk];omega
  ·have e:AL (k::r) x=0:=by rw[AL,if_neg hk]
   have hk:lt k x=false:=by simpa using hk
   rw[Dd,e,List.getElem?_cons_zero,Ax];rcases nlt_iff.1 hk with rfl|hx
   ·have e2:Ax r k=0:=by
     cases r with
     | nil=>rfl
     | cons y r=>rw[Ax,h1 y (by simp),if_pos rfl]
    simp[Cq,e2]
   ·rw[hx,decide_eq_false (by intro e;simp only[oI]at e;subst e;rw[Cq]at hx;cases hx)];rfl
theorem Ui {n:Nd}(hk:NC n.keys)(x:bA):UY n x=Ax n.keys x:=P7 (G6 hk)
theorem AEW (k lo hi:bA):Runs AD 118 [aS k,aS lo,aS hi] [] (aB (within k lo hi)) []:=by
 refine An (c:=c118) rfl rfl ?_;rw[ACf,(AAH _ _ _ _).down];show Ae (!(lt k lo)) _ _;have e:(hi.toList==(ByteArray.mk (List.toArray [])).toList)=decide (hi=empS):=DJ hi empS;rw[e];refine Aa (λh=>Ab (λh2=>?_) (λh2=>?_)) (λh=>?_);·rw[within,h,decide_eq_true h2];rfl
 ·rw[within,h,decide_eq_false h2];rfl
 ·rw[within,h];rfl
theorem GB:∀(N:Nat) (l:List Int),l.Nodup->(∀b∈l,0<=b/\b<N)->l.length<=N
 | 0,[],_,_=>Nat.le_refl _
 | 0,b::l,_,h=>by have:=h b (by simp);omega
 | N+1,l,hn,h=>by
  by_cases hN:(N:Int)∈l
  ·have h1:=GB N (l.erase N) (hn.erase _) (λb hb=>by
    have h2:=h b (List.mem_of_mem_erase hb);have h3:b≠N:=λe=>by subst e;exact(List.Nodup.mem_erase_iff hn).1 hb |>.1 rfl
    omega)
   have:=List.length_erase_of_mem hN;omega
  ·have:=GB N l hn (λb hb=>by have h2:=h b hb;have h3:b≠N:=λe=>hN (e▸hb);omega);omega
structure TInv (t:TS):Prop where
 nd:t.bs.Nodup
 rg:∀b∈t.bs,0<=b/\b<2048
 ps:t.ps.length<=9*t.bs.length
theorem TInv.len {t:TS}(h:TInv t):t.bs.length<=2048:=GB 2048 t.bs h.nd h.rg
theorem JM {f:Int->bA->bA->TS->TS}(ih:∀c lo hi t,TInv t->TInv (f c lo hi t)):∀ {ks:List bA} {cs:List Int} {lo hi:bA} {t:TS},TInv t->TInv (A1 f lo hi ks cs t)
 | _,[],_,_,_,h=>by cases ‹List bA›<;>exact h
 | [],c::cs,lo,hi,t,h=>by
  rw[A1];refine JM ih ?_;split;·exact h
  ·exact ih _ _ _ _ h
 | k::ks,c::cs,lo,hi,t,h=>by
  rw[A1];refine JM ih ?_;split;·exact h
  ·exact ih _ _ _ _ h
theorem TInv.bad {t:TS}(h:TInv t):TInv { t with bad:=true }:=⟨h.nd,h.rg,h.ps⟩
theorem TInv.add {t:TS}(h:TInv t){b:Int}(hb:b∉t.bs)(h0:0<=b/\b<2048){P:List Pr}(hP:P.length<=9)(he:Int)(bad:Bool):TInv ⟨t.ps++P,t.bs++[b],he,bad⟩:=by
 refine⟨List.nodup_append.2 ⟨h.nd,by simp,λx hx y hy=>?_⟩,λx hx=>?_,?_⟩
 ·obtain rfl:y=b:=by simpa using hy
  rintro rfl;exact hb hx
 ·rcases List.mem_append.1 hx with hx|hx;·exact h.rg x hx
  ·obtain rfl:x=b:=by simpa using hx
   exact h0
 ·have:=h.ps;simp;omega
theorem CW {w:Wd}(hn:w.now.length<=2048){b:Int}{r:Bool}{n:Nd}(h:Aj w b r=some n):10<=b/\b<w.now.length/\b<w.pages.length:=by
 unfold Aj at h;split at h;·cases h
 ·omega
theorem Hj {w:Wd}(hn:w.now.length<=2048):∀(f:Nat) (b d:Int) (lo hi:bA) (t:TS),TInv t->TInv (below (Aj w) f b d lo hi t)
 | 0,_,_,_,_,_,h=>h.bad
 | f+1,b,d,lo,hi,t,h=>by
  unfold below;by_cases h1:b∈t.bs\/t.bad=true;·rw[if_pos h1];exact h.bad
  rw[if_neg h1]
  cases hh:Aj w b (d==1) with
  | none=>exact h.bad
  | some n=>
   dsimp only;have hrg:=CW hn hh;have hok:=Cr hh;by_cases h2:d > 8\/(n.leaf=true/\n.keys=[]);·rw[if_pos h2];exact h.bad
   rw[if_neg h2];split;·refine h.add (λhb=>h1 (.inl hb)) (by omega) ?_ _ _;have:=hok.2.1;rw[List.length_zip];omega
   ·refine JM (λc lo hi t ht=>Hj hn f c (d+1) lo hi t ht) ?_;have:=h.add (λhb=>h1 (.inl hb)) (b:=b) (by omega) (P:=[]) (by simp) t.he (IZ n lo hi);simpa using this
def Jm (l:List Pr):List Mir.D:=l.map λp => .rcd [.str p.1,.str p.2]
theorem On (l:List Pr):(Jm l).length=l.length:=by simp[Jm]
theorem Zj {l:List Pr}{i:Nat}(h:i<l.length):(Jm l)[i]?=some (.rcd [.str l[i].1,.str l[i].2]):=by simp[Jm,h]
theorem Xr (l:List Pr)(k v:bA):Jm l++[.rcd [.str k,.str v]]=Jm (l++[(k,v)]):=by simp[Jm]
def hT (t:TS)(va vb:Nat):Heap:=[hB 3100101 [.row 3190001 va,.row 3190002 vb,aI t.he,aB t.bad],hR 3190001 va 129 2 (Jm t.ps),hR 3190002 vb 3 1 (il t.bs)]
def AR (lo:bA)(ks:List bA)(i:Nat):bA:=if i=0 then lo else (ks[i-1]?).getD empS
theorem Ja {f:Int->bA->bA->TS->TS}{lo hi:bA}{ks:List bA}{cs:List Int}{t:TS}{i:Nat}(h1:i<ks.length)(h2:i<cs.length):
  A1 f (AR lo ks i) hi (ks.drop i) (cs.drop i) t=A1 f (AR lo ks (i+1)) hi (ks.drop (i+1)) (cs.drop (i+1)) (if t.bad then t else f cs[i] (AR lo ks i) ks[i] t):=by
 rw[List.drop_eq_getElem_cons h1,List.drop_eq_getElem_cons h2,A1]
 have e:AR lo ks (i+1)=ks[i]:=by rw[AR,if_neg (by omega),Nat.add_sub_cancel,gI h1];rfl
 rw[e]
theorem No {f:Int->bA->bA->TS->TS}{lo hi:bA}{ks:List bA}{cs:List Int}{t:TS}{i:Nat}(h1:i=ks.length)(h2:i+1=cs.length):
  A1 f (AR lo ks i) hi (ks.drop i) (cs.drop i) t=(if t.bad then t else f (cs[i]'(by omega)) (AR lo ks i) hi t):=by
 rw[List.drop_of_length_le (by omega),List.drop_eq_getElem_cons (by omega:i<cs.length),List.drop_of_length_le (by omega:cs.length<=i+1),A1,A1]
theorem Hm {f:Int->bA->bA->TS->TS}(lo hi:bA)(ks:List bA)(t:TS):A1 f lo hi ks [] t=t:=by cases ks<;>rfl
theorem LO {lo:bA}{ks:List bA}{i:Nat}(h:0<i)(h2:i-1<ks.length):AR lo ks i=ks[i-1]:=by rw[AR,if_neg (by omega),gI h2];rfl
set_option maxRecDepth 10000 in
set_option maxHeartbeats 17100000 in
theorem p71 (w:Wd)(hf:WFits w)(hn:w.now.length<=2048):∀(f:Nat) (b d:Int) (lo hi:bA) (t:TS) (va vb:Nat),d+f=10->1<=d->1<=f->TInv t ->
   ∃va' vb',Runs AD 71 [.ptr 3100101 0,EA w,.n (.int .i64 b),.n (.int .i64 d),.n (.str lo),.n (.str hi)] (hT t va vb) (.tup []) (hT (below (Aj w) f b d lo hi t) va' vb')
 | 0,b,d,lo,hi,t,va,vb,_,_,hf1,_=>by omega
 | f+1,b,d,lo,hi,t,va,vb,hdf,hd,_,hi'=>by
  have g43:=AEJ w hf b (d==1);have key:∃r H',Runs AD 71 [.ptr 3100101 0,EA w,.n (.int .i64 b),.n (.int .i64 d),.n (.str lo),.n (.str hi)] (hT t va vb) r H'/\r = .tup []/\∃va' vb',H'=hT (below (Aj w) (f+1) b d lo hi t) va' vb':=by
   refine DH (R:=λr H'=>r = .tup []/\∃va' vb',H'=hT (below (Aj w) (f+1) b d lo hi t) va' vb') ADy rfl (by kernel_rfl) ?_;rw[hT,EA];show Vc AD c71.body (Af c71 [.ptr 3100101 0,(.agg [.o (.sl 1 (Bg w.base)),.o (.sl 1 (Bg w.now)),.o (.sl 1 (AG w.pages)),.n (.int .i64 w.root),.n (.int .i64 w.gen)]),.n (.int .i64 b),.n (.int .i64 d),.n (.str lo),.n (.str hi)]) [(3100101,.box [.row 3190001 va,.row 3190002 vb,.n (.int .i64 t.he),.n (.bool t.bad)]),(3190001,.row false false va 129 2 (Jm t.ps)),(3190002,.row false false vb 3 1 (il t.bs))] (AP c71 [(3100101,.box [.row 3190001 va,.row 3190002 vb,.n (.int .i64 t.he),.n (.bool t.bad)]),(3190001,.row false false va 129 2 (Jm t.ps)),(3190002,.row false false vb 3 1 (il t.bs))] _);rw[yT,(AA0 _ _ _ _ _ _ _ _ _ _ _ _ _ _ _ _).down,Aw];have hlen:=hi'.len;have hps:=hi'.ps;refine⟨rfl,λi S=>0<=i/\i<=t.bs.length/\S=(va,vb,t.he,(t.bad||(t.bs.take i.toNat).contains b),()),λi _=>(t.bs.length-i).toNat,⟨rfl,by omega,by omega,by simp⟩,?_⟩;rintro i S ⟨h0,h1,rfl⟩ _;dsimp only;refine Ab (λhlt=>?_) (λhge=>?_)
   ·have hi:i.toNat<t.bs.length:=by omega
    have e1:(i+1).toNat=i.toNat+1:=by omega
    refine⟨⟨rfl,rfl⟩,h0,hlt,⟨rfl,rfl⟩,_,Eb hi,_,rfl,Aa (λhx=>?_) (λhx=>?_)⟩;all_goals
      repeat (refine And.intro rfl ?_)
      rw[Ad _ (by omega)]
      refine⟨⟨by omega,by omega,?_⟩,by first|omega|(dsimp only;omega)⟩
      rw[e1,A3 hi]
      congr 4
    ·have hx:t.bs[i.toNat]=b:=by simpa using hx
     simp[hx]
    ·have hx:t.bs[i.toNat]≠b:=by simpa using hx
     have:¬b=t.bs[i.toNat]:=λe=>hx e.symm;simp only[List.contains_eq_mem,List.mem_append,List.mem_singleton,this,or_false]
   ·rw[List.take_of_length_le (by omega)];have bad:below (Aj w) (f+1) b d lo hi t = { t with bad:=true }->∃va' vb',([hB 3100101 [.row 3190001 va,.row 3190002 vb,.n (.int .i64 t.he),.n (.bool true)],hR 3190001 va 129 2 (Jm t.ps),hR 3190002 vb 3 1 (il t.bs)]:Heap)=hT (below (Aj w) (f+1) b d lo hi t) va' vb':=λe=>⟨va,vb,by rw[e];rfl⟩
    by_cases hb1:b∈t.bs\/t.bad=true
    ·have e:(t.bad||t.bs.contains b)=true:=by
      rcases hb1 with h|h;·simp[h]
      ·simp[h]
     rw[e];have gb:=bad (by rw[below,if_pos hb1])
     cases hh:Aj w b (d==1) with
     | none=> rw[hh]at g43;exact⟨_,_,_,_,_,g43,Aa (λ_=>⟨rfl,gb⟩) (λh=>by cases h)⟩
     | some n=> rw[hh]at g43;exact⟨_,_,_,_,_,g43,Aa (λ_=>⟨rfl,gb⟩) (λh=>by cases h)⟩
    have hbn:b∉t.bs:=λh=>hb1 (.inl h);have htb:t.bad=false:=by cases h:t.bad with|false=>rfl|true=>exact absurd (.inr h) hb1
    have e:(t.bad||t.bs.contains b)=false:=by simp[hbn,htb]
    rw[e]
    cases hh:Aj w b (d==1) with
    | none=> rw[hh]at g43;have gb:=bad (by rw[below,if_neg hb1,hh]);exact⟨_,_,_,_,_,g43,Aa (λh=>by cases h) (λ_=>Aa (λ_=>⟨rfl,gb⟩) (λh=>by cases h))⟩
    | some n=>
     rw[hh]at g43;have hrg:=CW hn hh;have hok:=Cr hh;have hk8:=hok.2.1;have eq:below (Aj w) (f+1) b d lo hi t=if d > 8\/(n.leaf=true/\n.keys=[]) then { t with bad:=true } else
         if n.leaf then ⟨t.ps++n.keys.zip n.vals,t.bs++[b],d,IZ n lo hi||(t.he != 0&&t.he != d)⟩
         else A1 (λc lo hi t=>below (Aj w) f c (d+1) lo hi t) lo hi n.keys n.kids ⟨t.ps,t.bs++[b],t.he,IZ n lo hi⟩:=by
       rw[below,if_neg hb1,hh]
     refine⟨_,_,_,_,_,g43,Aa (λh=>by cases h) (λ_=>Aa (λh=>by cases h) (λ_=>Ab (λh=>⟨rfl,bad (by rw[eq,if_pos (.inl h)])⟩) (λh8=>?_)))⟩;have hsnoc:il t.bs++[D.int .i64 b]=il (t.bs++[b]):=by simp[il]
     rw[Am,Aw,hsnoc];have keyrun:=λ(k:bA)=>AEW k lo hi
     cases hl:n.leaf with
     | true=>
      have hvl:n.vals.length=n.keys.length:=by
       rcases hok.1.2.2 with⟨_,_,h,_⟩|⟨h,_⟩
       ·exact h
       ·rw[hl]at h;cases h
      refine Aa (λ_=>Aa (λh=>⟨rfl,bad (by rw[eq,if_pos (.inr ⟨hl,JL h⟩)])⟩) (λhk0=>?_)) (λh=>by cases h);have hk0:n.keys≠[]:=λe=>by rw[e]at hk0;simp at hk0
      rw[if_neg (by
       rintro(h|h);·exact h8 h
       ·exact hk0 h.2),hl,if_pos rfl]at eq
      have hsm:((t.bs.length+1)*8:Nat)<=140737488355328:=by omega
      refine⟨rfl,.inl rfl,⟨⟨rfl,rfl⟩,rfl⟩,by simpa[Aw] using hsm,λi S Q=>0<=i/\i<=n.keys.length/\∃va',S=(va',vb+1,t.he,(n.keys.take i.toNat).any (λk => !(within k lo hi)),())/\Q=(va',Jm (t.ps++(n.keys.zip n.vals).take i.toNat)),λi _ _=>(n.keys.length-i).toNat,⟨rfl,by omega,by omega,va,by simp,by simp⟩,?_⟩;rintro i S Q ⟨h0,h1,va',rfl,rfl⟩ _;dsimp only;refine Ab (λhlt=>?_) (λhge=>?_)
      ·have hi:i.toNat<n.keys.length:=by omega
       have hv:i.toNat<n.vals.length:=by omega
       have hz:i.toNat<(n.keys.zip n.vals).length:=by rw[List.length_zip];omega
       have e1:(i+1).toNat=i.toNat+1:=by omega
       have hq:Jm (t.ps++(n.keys.zip n.vals).take i.toNat)++[D.rcd [.str n.keys[i.toNat],.str n.vals[i.toNat]]]=Jm (t.ps++(n.keys.zip n.vals).take (i.toNat+1)):=by rw[Xr,A3 hz,List.getElem_zip,List.append_assoc]
       have hb:(Jm (t.ps++(n.keys.zip n.vals).take i.toNat)).length+1<=4398046511104:=by rw[On,List.length_append,List.length_take,List.length_zip];omega
       refine⟨rfl,h0,_,AZ hi,_,rfl,_,keyrun _,Aa (λhx=>?_) (λhx=>?_)⟩;all_goals
         refine Aa (λ_=>⟨rfl,h0,_,AZ hv,_,rfl,rfl,.inl rfl,⟨⟨rfl,rfl⟩,rfl⟩,by simp only[List.length_singleton];omega,?_⟩) (λh=>by cases h)
         repeat (refine And.intro rfl ?_)
         rw[Ad _ (by omega),hq]
         refine⟨⟨by omega,by omega,va'+1,?_,by rw[e1]⟩,by first|omega|(dsimp only;omega)⟩
         rw[e1,A3 hi,List.any_append]
       ·simp only[hx,List.any_cons,List.any_nil,Bool.or_true,Bool.or_false]
       ·simp only[hx,List.any_cons,List.any_nil,Bool.or_false]
      ·have hge2:n.keys.length<=i.toNat:=by omega
       have hge3:(n.keys.zip n.vals).length<=i.toNat:=by rw[List.length_zip];omega
       rw[List.take_of_length_le hge2,List.take_of_length_le hge3];refine Aa (λ_=>?_) (λh=>by cases h);have ea:n.keys.any (λk => !(within k lo hi))=IZ n lo hi:=rfl;rw[ea];refine Aa (λh1=>Aa (λh2=>⟨rfl,va',vb+1,?_⟩) (λh2=>⟨rfl,va',vb+1,?_⟩)) (λh1=>⟨rfl,va',vb+1,?_⟩);·rw[eq,h1,h2];simp[hT]
       ·rw[eq,h1,h2];simp[hT]
       ·rw[eq,h1];simp[hT]
     | false=>
      refine Aa (λh=>by cases h) (λ_=>?_);rw[if_neg (by
       rintro(h|h);·exact h8 h
       ·rw[hl]at h;cases h.1),hl,if_neg (by simp)]at eq
      have hkl:n.kids.length=n.keys.length+1:=by
       rcases hok.1.2.2 with⟨h,_⟩|⟨_,_,_,h,_⟩
       ·rw[hl]at h;cases h
       ·exact h
      have hsm:((t.bs.length+1)*8:Nat)<=140737488355328:=by omega
      refine⟨rfl,.inl rfl,⟨⟨rfl,rfl⟩,rfl⟩,by simpa[Aw] using hsm,λi S Q=>0<=i/\i<=n.keys.length/\S=(va,vb+1,t.he,(n.keys.take i.toNat).any (λk => !(within k lo hi)),())/\Q=(va,Jm t.ps),λi _ _=>(n.keys.length-i).toNat,⟨rfl,by omega,by omega,by simp,rfl⟩,?_⟩;rintro i S Q ⟨h0,h1,rfl,rfl⟩ _;dsimp only;refine Ab (λhlt=>?_) (λhge=>?_)
      ·have hi:i.toNat<n.keys.length:=by omega
       have e1:(i+1).toNat=i.toNat+1:=by omega
       refine⟨rfl,h0,_,AZ hi,_,rfl,_,keyrun _,Aa (λhx=>?_) (λhx=>?_)⟩;all_goals
         refine Aa (λh=>by cases h) (λ_=>?_)
         repeat (refine And.intro rfl ?_)
         rw[Ad _ (by omega)]
         refine⟨⟨by omega,by omega,?_,rfl⟩,by first|omega|(dsimp only;omega)⟩
         rw[e1,A3 hi,List.any_append]
       ·simp only[hx,List.any_cons,List.any_nil,Bool.or_true,Bool.or_false]
       ·simp only[hx,List.any_cons,List.any_nil,Bool.or_false]
      ·rw[List.take_of_length_le (by omega)];refine Aa (λh=>by cases h) (λ_=>?_);have hst:TInv ⟨t.ps,t.bs++[b],t.he,IZ n lo hi⟩:=by have:=hi'.add hbn (b:=b) (by omega) (P:=[]) (by simp) t.he (IZ n lo hi);simpa using this
       refine⟨λi S Q Bq=>0<=i/\i<=n.kids.length/\∃(t':TS) (va' vb':Nat),TInv t'/\S=(va',vb',t'.he,t'.bad,())/\Q=(va',Jm t'.ps)/\Bq=(vb',il t'.bs)/\below (Aj w) (f+1) b d lo hi t=A1 (λc lo hi t=>below (Aj w) f c (d+1) lo hi t) (AR lo n.keys i.toNat) hi (n.keys.drop i.toNat) (n.kids.drop i.toNat) t',λi _ _ _=>(n.kids.length-i).toNat,
         ⟨rfl,by omega,by omega,⟨t.ps,t.bs++[b],t.he,IZ n lo hi⟩,va,vb+1,hst,rfl,rfl,rfl,eq⟩,?_⟩
       rintro i S Q Bq ⟨h0,h1,t',va',vb',ht',rfl,rfl,rfl,hinv⟩ _;dsimp only;rw[Ad (d+1) (by omega),Ad (i-1) (by omega),Ad (i+1) (by omega)];have e1:(i+1).toNat=i.toNat+1:=by omega
       have e2:(i-1).toNat=i.toNat-1:=by omega
       refine Ab (λhlt=>?_) (λhge=>?_)
       ·have hik:i.toNat<n.kids.length:=by omega
        have tail:∀(fr tl:bA),A1 (λc lo hi t=>below (Aj w) f c (d+1) lo hi t) (AR lo n.keys i.toNat) hi (n.keys.drop i.toNat) (n.kids.drop i.toNat) t'=A1 (λc lo hi t=>below (Aj w) f c (d+1) lo hi t) (AR lo n.keys (i.toNat+1)) hi (n.keys.drop (i.toNat+1)) (n.kids.drop (i.toNat+1)) (if t'.bad then t' else below (Aj w) f n.kids[i.toNat] (d+1) fr tl t') ->
            t'.bad=false->∃va'' vb'',Runs AD 71 [.ptr 3100101 0,EA w,.n (.int .i64 n.kids[i.toNat]),.n (.int .i64 (d+1)),.n (.str fr),.n (.str tl)] (hT t' va' vb') (.tup []) (hT (below (Aj w) f n.kids[i.toNat] (d+1) fr tl t') va'' vb'') /\
              ∃(t'':TS) (a c:Nat),TInv t''/\(va'',vb'',(below (Aj w) f n.kids[i.toNat] (d+1) fr tl t').he,(below (Aj w) f n.kids[i.toNat] (d+1) fr tl t').bad,())=(a,c,t''.he,t''.bad,())/\(va'',Jm (below (Aj w) f n.kids[i.toNat] (d+1) fr tl t').ps)=(a,Jm t''.ps)/\(vb'',il (below (Aj w) f n.kids[i.toNat] (d+1) fr tl t').bs)=(c,il t''.bs)/\below (Aj w) (f+1) b d lo hi t=A1 (λc lo hi t=>below (Aj w) f c (d+1) lo hi t) (AR lo n.keys (i+1).toNat) hi (n.keys.drop (i+1).toNat) (n.kids.drop (i+1).toNat) t'':=λfr tl hs hb=>by
          obtain⟨va'',vb'',g⟩:=p71 w hf hn f n.kids[i.toNat] (d+1) fr tl t' va' vb' (by omega) (by omega) (by omega) ht'
          refine⟨va'',vb'',g,_,va'',vb'',Hj hn f _ (d+1) fr tl t' ht',rfl,rfl,rfl,?_⟩
          rw[hinv,hs,hb,e1];rfl
        have skip:∀(fr tl:bA),A1 (λc lo hi t=>below (Aj w) f c (d+1) lo hi t) (AR lo n.keys i.toNat) hi (n.keys.drop i.toNat) (n.kids.drop i.toNat) t'=A1 (λc lo hi t=>below (Aj w) f c (d+1) lo hi t) (AR lo n.keys (i.toNat+1)) hi (n.keys.drop (i.toNat+1)) (n.kids.drop (i.toNat+1)) (if t'.bad then t' else below (Aj w) f n.kids[i.toNat] (d+1) fr tl t') ->
            t'.bad=true->∃(t'':TS) (a c:Nat),TInv t''/\(va',vb',t'.he,t'.bad,())=(a,c,t''.he,t''.bad,())/\(va',Jm t'.ps)=(a,Jm t''.ps)/\(vb',il t'.bs)=(c,il t''.bs)/\below (Aj w) (f+1) b d lo hi t=A1 (λc lo hi t=>below (Aj w) f c (d+1) lo hi t) (AR lo n.keys (i+1).toNat) hi (n.keys.drop (i+1).toNat) (n.kids.drop (i+1).toNat) t'':=λfr tl hs hb=>by
          refine⟨t',va',vb',ht',rfl,rfl,rfl,?_⟩
          rw[hinv,hs,hb,e1];rfl
        refine⟨rfl,h0,_,Eb hik,_,rfl,Ab (λhp=>?_) (λhp=>?_)⟩
        ·have hi1:(i-1).toNat<n.keys.length:=by omega
         have ef:AR lo n.keys i.toNat=n.keys[(i-1).toNat]:=by rw[LO (by omega) (by omega)];congr 1;omega
         refine⟨rfl,by omega,_,AZ hi1,_,rfl,Ab (λhq=>?_) (λhq=>?_)⟩
         ·have hi2:i.toNat<n.keys.length:=by omega
          have hs:=Ja (f:=λc lo hi t=>below (Aj w) f c (d+1) lo hi t) (lo:=lo) (hi:=hi) (t:=t') hi2 hik;have hs':=hs;rw[show below (Aj w) f n.kids[i.toNat] (d+1) (AR lo n.keys i.toNat) n.keys[i.toNat] t'=below (Aj w) f n.kids[i.toNat] (d+1) n.keys[(i-1).toNat] n.keys[i.toNat] t' by rw[ef]]at hs;refine⟨rfl,h0,_,AZ hi2,_,rfl,Aa (λhb=>?_) (λhb=>?_)⟩;·obtain⟨va'',vb'',g,hx⟩:=tail _ _ hs (by simpa using hb);exact⟨_,_,_,_,_,_,_,_,g,rfl,rfl,rfl,rfl,rfl,rfl,rfl,rfl,rfl,⟨by omega,by omega,hx⟩,by first|omega|(dsimp only;omega)⟩
          ·have hx:=skip _ _ hs (by simpa using hb);exact⟨rfl,rfl,rfl,rfl,rfl,rfl,rfl,rfl,rfl,⟨by omega,by omega,hx⟩,by first|omega|(dsimp only;omega)⟩
         ·have hs:=No (f:=λc lo hi t=>below (Aj w) f c (d+1) lo hi t) (lo:=lo) (hi:=hi) (ks:=n.keys) (cs:=n.kids) (t:=t') (i:=i.toNat) (by omega) (by omega);have hd2:n.kids.drop (i.toNat+1)=[]:=List.drop_of_length_le (by omega);rw[show below (Aj w) f n.kids[i.toNat] (d+1) (AR lo n.keys i.toNat) hi t'=below (Aj w) f n.kids[i.toNat] (d+1) n.keys[(i-1).toNat] hi t' by rw[ef]]at hs;have hs:_=A1 (λc lo hi t=>below (Aj w) f c (d+1) lo hi t) (AR lo n.keys (i.toNat+1)) hi (n.keys.drop (i.toNat+1)) (n.kids.drop (i.toNat+1)) _:=hs.trans (by rw[hd2,Hm]);refine Aa (λhb=>?_) (λhb=>?_);·obtain⟨va'',vb'',g,hx⟩:=tail _ _ hs (by simpa using hb);exact⟨_,_,_,_,_,_,_,_,g,rfl,rfl,rfl,rfl,rfl,rfl,rfl,rfl,rfl,⟨by omega,by omega,hx⟩,by first|omega|(dsimp only;omega)⟩
          ·have hx:=skip _ _ hs (by simpa using hb);exact⟨rfl,rfl,rfl,rfl,rfl,rfl,rfl,rfl,rfl,⟨by omega,by omega,hx⟩,by first|omega|(dsimp only;omega)⟩
        ·have hi2:i.toNat<n.keys.length:=by
          rcases hok.1.2.2 with⟨h,_⟩|⟨_,_,h,_⟩
          ·rw[hl]at h;cases h
          ·omega
         have ef:AR lo n.keys i.toNat=lo:=by rw[AR,if_pos (by omega)]
         have hs:=Ja (f:=λc lo hi t=>below (Aj w) f c (d+1) lo hi t) (lo:=lo) (hi:=hi) (t:=t') hi2 hik;rw[show below (Aj w) f n.kids[i.toNat] (d+1) (AR lo n.keys i.toNat) n.keys[i.toNat] t'=below (Aj w) f n.kids[i.toNat] (d+1) lo n.keys[i.toNat] t' by rw[ef]]at hs;refine Ab (λhq=>?_) (λhq=>by omega);refine⟨rfl,h0,_,AZ hi2,_,rfl,Aa (λhb=>?_) (λhb=>?_)⟩;·obtain⟨va'',vb'',g,hx⟩:=tail _ _ hs (by simpa using hb);exact⟨_,_,_,_,_,_,_,_,g,rfl,rfl,rfl,rfl,rfl,rfl,rfl,rfl,rfl,⟨by omega,by omega,hx⟩,by first|omega|(dsimp only;omega)⟩
         ·have hx:=skip _ _ hs (by simpa using hb);exact⟨rfl,rfl,rfl,rfl,rfl,rfl,rfl,rfl,rfl,⟨by omega,by omega,hx⟩,by first|omega|(dsimp only;omega)⟩
       ·have hd2:n.kids.drop i.toNat=[]:=List.drop_of_length_le (by omega);rw[hd2,Hm]at hinv;refine⟨rfl,va',vb',?_⟩;rw[hinv];rfl
  obtain⟨r,H',hr,rfl,va',vb',rfl⟩:=key;exact⟨va',vb',hr⟩
theorem KP:TInv ON:=⟨by simp[ON],by simp[ON],by simp[ON]⟩
theorem p31 (w:Wd)(hf:WFits w)(hn:w.now.length<=2048):∃va vb,Runs AD 31 [EA w] [] (.ptr 3100101 0) (hT (A4 w) va vb):=by
 have key:∃r H',Runs AD 31 [EA w] [] r H'/\r = .ptr 3100101 0/\∃va vb,H'=hT (A4 w) va vb:=by
  refine O1 (R:=λr H'=>r = .ptr 3100101 0/\∃va vb,H'=hT (A4 w) va vb) (c:=c31) rfl rfl ?_;rw[EA,AA9,(yS _ _ _ _ _ _).down];refine Aa (λh=>?_) (λh=>⟨rfl,0,0,?_⟩)
  ·obtain⟨va,vb,g⟩:=p71 w hf hn 9 w.root 1 empS empS ON 0 0 (by omega) (by omega) (by omega) KP;have e:below (Aj w) 9 w.root 1 empS empS ON=A4 w:=by rw[A4,if_neg (by simpa using h)]
   rw[e]at g;exact⟨_,_,_,_,_,_,_,_,g,rfl,va,vb,rfl⟩
  ·rw[A4,if_pos (by simpa using h)];rfl
 obtain⟨r,H',hr,rfl,va,vb,rfl⟩:=key;exact⟨va,vb,hr⟩
theorem VQ {w:Wd}(hn:w.now.length<=2048):TInv (A4 w):=by
 unfold A4;split;·exact KP
 ·exact Hj hn _ _ _ _ _ _ KP
theorem CK {w:Wd}(h:WRight w):w.now.length<=2048:=h.1.2.2.1
structure SC where
 se:Int
 out:List Pr
 nx:bA
 full:Bool
 bad:Bool
def pT (out:List Pr)(key:bA):Bool:=match out.getLast? with
 | none=>true
 | some p=>lt p.1 key
def yQ (fr:bA)(mo:Int)(s:SC)(p:Pr):SC:=
 if s.full=true\/lt p.1 fr=true then s
 else if pT s.out p.1=false then { s with bad:=true }
 else if (s.out.length:Int)=mo then { s with full:=true,nx:=p.1 }
 else { s with out:=s.out++[p] }
def nD (fr:bA)(mo:Int)(s:SC)(l:List Pr):SC:=l.foldl (yQ fr mo) s
def Same (r s:SC):Prop:=r.out=s.out/\r.nx=s.nx/\r.full=s.full/\r.bad=s.bad
theorem Same.trans {a b c:SC}(h:Same a b)(g:Same b c):Same a c:=⟨h.1.trans g.1,h.2.1.trans g.2.1,h.2.2.1.trans g.2.2.1,h.2.2.2.trans g.2.2.2⟩
theorem Same.refl (a:SC):Same a a:=⟨rfl,rfl,rfl,rfl⟩
def Does (fr:bA)(mo:Int)(s r:SC)(P:List Pr)(n:Nat):Prop:=Same r (nD fr mo s P)/\s.se<=r.se/\r.se<=s.se+n
theorem gF (n:Nd)(key:bA)(hfit:Bt n)(hs:Au n)(hl:n.leaf=false):Runs AD 179 [CU n,aS key] [] (aI (UY n key:Nat)) []:=by
 have g:=ADz n key hfit hs hl;have e:((AL n.keys key:Nat):Int)+(if Dd n.keys key then 1 else 0)=(UY n key:Nat):=by unfold UY;split<;>simp
 rw[e]at g;exact g
theorem p30 (a b:List Pr)(ha:Small a.length)(hb:Small b.length):Runs AD 30 [.o (.sl 2 (Jm a)),.o (.sl 2 (Jm b))] [] (aB (decide (a=b))) []:=by
 refine An (c:=c30) rfl rfl ?_;rw[AEu,(AGK _ _ _).down,On,On];refine Aa (λh=>?_) (λh=>?_);·rw[decide_eq_false];rintro rfl;simp at h
 have hl:a.length=b.length:=by
  have:(a.length:Int)=b.length:=by simpa using h
  omega
 refine⟨λi=>0<=i/\i<=a.length/\∀j:Nat,(j:Int)<i->a[j]?=b[j]?,λi=>(a.length-i).toNat,⟨rfl,by omega,by omega,λj hj=>by omega⟩,?_⟩;rintro i ⟨h0,h1,hok⟩ _;refine Ab (λhlt=>?_) (λhge=>?_)
 ·have hi:i.toNat<a.length:=by omega
  have hj:i.toNat<b.length:=by omega
  refine⟨rfl,h0,_,Zj hi,_,_,rfl,Nat.le_refl 2,rfl,h0,_,Zj hj,_,_,rfl,Nat.le_refl 2,?_⟩;rw[DJ,DJ];refine Aa (λhx=>?_) (λhx=>?_);·rw[decide_eq_false];rintro rfl;simp at hx
  ·have hx:a[i.toNat].1=b[i.toNat].1/\a[i.toNat].2=b[i.toNat].2:=by simpa using hx
   repeat (refine And.intro rfl ?_)
   rw[Ad _ (by omega)];refine⟨⟨by omega,by omega,λj hji=>?_⟩,by first|omega|(dsimp only;omega)⟩;by_cases e:(j:Int)<i;·exact hok j e
   ·obtain rfl:j=i.toNat:=by omega
    rw[gI hi,gI hj,Prod.ext hx.1 hx.2]
 ·rw[decide_eq_true];refine List.ext_getElem? λj=>?_;by_cases hj:j<a.length;·exact hok j (by omega)
  ·rw[List.getElem?_eq_none (by omega),List.getElem?_eq_none (by omega)]
end Go.Proofs.YtegndijbpiccgaaGreatDoor.M
