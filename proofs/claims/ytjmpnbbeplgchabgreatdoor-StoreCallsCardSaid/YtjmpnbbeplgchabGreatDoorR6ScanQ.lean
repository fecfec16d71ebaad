import Derived.Test.YtjmpnbbeplgchabGreatDoorR6Nge2
import Derived.Test.YtjmpnbbeplgchabGreatDoorMirO
import Derived.Test.YtjmpnbbeplgchabGreatDoorR6LV
namespace Go.Proofs.YtjmpnbbeplgchabGreatDoor.M
set_option linter.unusedVariables false
set_option linter.unusedSimpArgs false
open Go Go.Mir
structure Wd where
 base:List Bool
 now:List Bool
 pages:List bA
 root:Int
 gen:Int
def Bk (l:List Bool):List Mir.D:=l.map .bool
theorem AI (l:List Bool):(Bk l).length=l.length:=by simp[Bk]
theorem BU {l:List Bool}{i:Nat}(h:i<l.length):(Bk l)[i]?=some (.bool l[i]):=by simp[Bk,h]
def Dp (w:Wd):AV := .agg [aL (Bk w.base),aL (Bk w.now),aL (AK w.pages),aI w.root,aI w.gen]
structure WFits (w:Wd):Prop where
 b:Small w.base.length
 n:Small w.now.length
 p:Small w.pages.length
 s:∀x∈w.pages,Small x.size
def tr (l:List Bool)(i:Nat):Bool:=(l[i]?).getD false
theorem Dl {l:List Bool}{i:Nat}(h:i<l.length):tr l i=l[i]:=by simp[tr,h]
theorem Xu {l:List Bool}{i:Nat}(h:l.length<=i):tr l i=false:=by simp[tr,h]
def BJ (base now:List Bool):Prop:=base.length=now.length/\24<=now.length/\now.length<=2048/\∀j,j<10->tr base j=true/\tr now j=true
noncomputable instance (a b:List Bool):Decidable (BJ a b):=Classical.propDecidable _
def G1 (a b:List Bool):AV := .agg [aL (Bk a),aL (Bk b)]
theorem XR {a b:List Bool}(h:¬BJ a b):AV.n (D.bool false) = aB (decide (BJ a b)):=by rw[decide_eq_false h]
def TX (L:List (List Bool)):List Mir.D:=L.map λa => .sl 1 (Bk a)
theorem Oq (L:List (List Bool)):(TX L).length=L.length:=by simp[TX]
theorem Sx {L:List (List Bool)}{i:Nat}(h:i<L.length):(TX L)[i]?=some (.sl 1 (Bk L[i])):=by simp[TX,h]
theorem ACy (a:List Bool)(i:Int)(h0:0<=i):Runs AG 142 [aL (Bk a),aI i] [] (aB (tr a i.toNat)) []:=by
 refine Ag (c:=c142) rfl rfl ?_;rw[AA8,(ACv _ _ _).down,AI];refine Ab (λh=>?_) (λh=>?_)
 ·have ia:i.toNat<a.length:=by omega
  exact⟨rfl,h0,_,BU ia,_,rfl,by rw[Dl ia]⟩
 ·rw[Xu (by omega)]
def Kh (i:Int):Heap:=[(12200401,.box [aI i])]
theorem AGO (a:List Bool)(i:Int)(h0:0<=i):Runs AG 157 [aL (Bk a),.ptr 12200401 0] (Kh i) (aB (!(tr a i.toNat))) (Kh i):=by refine Ci (c:=c157) rfl rfl (by kernel_rfl) ?_;rewrite[Kh,mY,(mP _ _ _).down];exact⟨_,ACy a i h0,rfl,rfl⟩
theorem AEr (L:List (List Bool))(hl:Small L.length)(i:Int)(h0:0<=i):∃r:Int,decide (r>=0)=L.any (λa => !(tr a i.toNat))/\Runs AG 174 [aL (TX L),.fn 157 [.ptr 12200401 0]] (Kh i) (aI r) (Kh i):=by
 have key:∃r H',Runs AG 174 [.o (.sl 1 (TX L)),.fn 157 [.ptr 12200401 0]] (Kh i) r H'/\∃k:Int,r = .n (.int .i64 k)/\H'=Kh i/\decide (k>=0)=L.any (λa => !(tr a i.toNat)):=by
  refine DI (R:=λr H'=>∃k:Int,r = .n (.int .i64 k)/\H'=Kh i/\decide (k>=0)=L.any (λa => !(tr a i.toNat))) zK rfl (by kernel_rfl) ?_;rw[Kh,kE,(lX _ _ _).down,Oq];refine⟨λk=>0<=k/\k<=L.length/\∀(j:Nat) (h:j<L.length),(j:Int)<k->(!(tr L[j] i.toNat))=false,λk=>(L.length-k).toNat,⟨rfl,by omega,by omega,λj _ hj=>by omega⟩,?_⟩;rintro k ⟨k0,k1,hok⟩ _;refine Ab (λh=>?_) (λh=>⟨-1,rfl,rfl,?_⟩)
  ·have hi:k.toNat<L.length:=by omega
   refine⟨rfl,k0,_,Sx hi,_,rfl,_,AGO _ i h0,Aa (λhb=>⟨k,rfl,rfl,?_⟩) (λhb=>?_)⟩;·rw[decide_eq_true k0];exact(JD (p:=λa:List Bool => !(tr a i.toNat)) hi hb).symm
   ·repeat (refine And.intro rfl ?_)
    rw[Ac _ (by omega)];exact⟨⟨by omega,by omega,G6 (p:=λa:List Bool => !(tr a i.toNat)) k0 hi hb hok⟩,by first|omega|(dsimp only;omega)⟩
  ·exact(Ju (p:=λa:List Bool => !(tr a i.toNat)) k0 h hok).symm
 obtain⟨r,H',hr,k,rfl,rfl,hk⟩:=key;exact⟨k,hk,hr⟩
theorem AGB (L:List (List Bool))(hl:Small L.length)(i:Int)(h0:0<=i):Runs AG 140 [aL (TX L),.fn 157 [.ptr 12200401 0]] (Kh i) (aB (L.any λa => !(tr a i.toNat))) (Kh i):=by refine Ci (c:=c140) rfl rfl (by kernel_rfl) ?_;rewrite[Kh,kX,(tE _ _ _).down];obtain⟨r,hr,h⟩:=AEr L hl i h0;exact⟨r,h,by rw[hr],rfl⟩
def Be (L:List (List Bool)):Nat:=L.foldl (λn a=>max n a.length) 0
theorem Om (L:List (List Bool))(a:List Bool):Be (L++[a])=max (Be L) a.length:=by simp[Be]
theorem fQ (a b:Nat):Cs true (a:Int) (b:Int)=(max a b:Nat):=by unfold Cs;simp only[if_true];split<;>omega
theorem ACj (L:List (List Bool))(hl:Small L.length):Runs AG 139 [aL (TX L)] [] (aI (Be L)) []:=by
 refine Ag (c:=c139) rfl rfl ?_;rw[AAY,(AAb _ _).down,Oq];refine⟨λn k=>0<=k/\k<=L.length/\n=Be (L.take k.toNat),λ_ k=>(L.length-k).toNat,⟨rfl,by omega,by omega,rfl⟩,?_⟩;rintro n k ⟨k0,k1,rfl⟩ _;refine Ab (λh=>?_) (λh=>?_)
 ·have hi:k.toNat<L.length:=by omega
  refine⟨rfl,k0,_,Sx hi,_,rfl,?_⟩;repeat (refine And.intro rfl ?_)
  rw[Ac _ (by omega),AI,fQ];refine⟨⟨by omega,by omega,?_⟩,by first|omega|(dsimp only;omega)⟩;rw[show(k+1).toNat=k.toNat+1 by omega,BF hi,Om]
 ·rw[List.take_of_length_le (by omega)]
def Df (L:List (List Bool)):Nat->Nat
 | 0=>0
 | i+1=>Df L i+if L.any (λa => !(tr a i)) then 0 else 1
theorem Ii (L:List (List Bool)):∀i,Df L i<=i
 | 0=>Nat.le_refl _
 | i+1=>by have:=Ii L i;unfold Df;split<;>omega
theorem Gp (L:List (List Bool)):∀i,Df L i=i ↔ ∀j,j<i->L.any (λa => !(tr a j))=false
 | 0=>⟨λ_ j h=>by omega,λ_=>rfl⟩
 | i+1=>by
  have h1:=Ii L i;have h2:=Gp L i;unfold Df;constructor
  ·intro h j hj
   cases hq:L.any (λa => !(tr a i)) with
   | true=>rw[hq]at h;simp at h;omega
   | false=>
    rw[hq]at h;simp at h;by_cases e:j=i;·subst e;exact hq
    ·exact(h2.1 h) j (by omega)
  ·intro h;rw[h i (by omega),h2.2 λj hj=>h j (by omega)];simp
theorem AEM (L:List (List Bool))(hl:Small L.length)(hL:Be L<=2048):Runs AG 122 [aL (TX L)] [] (aI (Df L (Be L))) []:=by
 refine Ag (c:=c122) rfl rfl ?_;rw[ACF,ADm];refine⟨_,ACj L hl,λn i=>0<=i/\i<=Be L/\n=Df L i.toNat,λ_ i=>(Be L-i).toNat,⟨rfl,by omega,by omega,rfl⟩,?_⟩;rintro n i ⟨h0,h1,rfl⟩ _;have hc:=Ii L i.toNat;refine Ab (λh=>?_) (λh=>by rw[show i.toNat=Be L by omega]);have e1:(i+1).toNat=i.toNat+1:=by omega
 refine⟨_,AGB L hl i h0,Aa (λhb=>?_) (λhb=>?_)⟩
 ·repeat (refine And.intro rfl ?_)
  rw[Ac (_+1) (by omega),Ac (i+1) (by omega)];refine⟨⟨by omega,by omega,?_⟩,by first|omega|(dsimp only;omega)⟩;rw[e1,Df,if_neg (by simpa using hb)];rfl
 ·repeat (refine And.intro rfl ?_)
  rw[Ac (i+1) (by omega)];refine⟨⟨by omega,by omega,?_⟩,by first|omega|(dsimp only;omega)⟩;rw[e1,Df,if_pos (by simpa using hb)];rfl
theorem Qb (l:List Bool)(n:Nat):List.drop 0 (List.take n (Bk l))=Bk (l.take n):=by simp[Bk,List.map_take]
theorem Um {l:List Bool}{n i:Nat}(h:i<n):tr (l.take n) i=tr l i:=by unfold tr;rw[List.getElem?_take_of_lt h]
theorem p82 (a b:List Bool)(ha:Small a.length)(hb:Small b.length):Runs AG 82 [G1 a b] [] (.n (.bool (decide (BJ a b)))) []:=by
 refine Ag (c:=c82) rfl rfl ?_;rw[G1,AI5,(AD9 _ _ _).down,AI,AI];refine Aa (λh=>XR (by have:=of_decide_eq_true (show decide ((a.length:Int)≠b.length)=true by simpa using h);unfold BJ;omega)) (λh=>?_);have hl:(a.length:Int)=b.length:=by simpa using h
 refine Ab (λh=>XR (by unfold BJ;omega)) (λh1=>Ab (λh=>XR (by unfold BJ;omega)) (λh2=>?_));rw[show Int.toNat 10=10 from rfl,Qb,Qb];have g:=AEM [a.take 10,b.take 10] (by simp) (by simp[Be];omega);have hlg:Be [a.take 10,b.take 10]=10:=by simp[Be];omega
 rw[hlg]at g;refine⟨rfl,by decide,by omega,rfl,by decide,by omega,rfl,_,g,?_⟩;congr 2;refine Bool.eq_iff_iff.2 ⟨λh=>?_,λh=>?_⟩
 ·have hc:Df [a.take 10,b.take 10] 10=10:=by have:=JM h;omega
  have:=(Gp _ 10).1 hc;refine decide_eq_true ⟨by omega,by omega,by omega,λj hj=>?_⟩;have h3:=this j hj;simp only[List.any_cons,List.any_nil,Bool.or_false,Bool.or_eq_false_iff,Bool.not_eq_false',Um hj]at h3;exact h3
 ·have hr:=of_decide_eq_true h;have:Df [a.take 10,b.take 10] 10=10:=(Gp _ 10).2 λj hj=>by obtain⟨h3,h4⟩:=hr.2.2.2 j hj;simp only[List.any_cons,List.any_nil,Bool.or_false,Um hj,h3,h4];rfl
  rw[this];rfl
def WRight (w:Wd):Prop:=BJ w.base w.now/\w.pages.length=w.now.length/\1<=w.gen/\w.gen<=1099511627776/\(w.root=0\/10<=w.root/\w.root<w.now.length)/\∀s∈w.pages,s.size<=4096
noncomputable instance (w:Wd):Decidable (WRight w):=Classical.propDecidable _
theorem N0 {w:Wd}(h:¬WRight w):AV.n (D.bool false) = aB (decide (WRight w)):=by rw[decide_eq_false h]
theorem uN (w:Wd)(hf:WFits w):Runs AG 46 [Dp w] [] (.n (.bool (decide (WRight w)))) []:=by
 refine Ag (c:=c46) rfl rfl ?_;rw[Dp,AIk,(AFp _ _ _ _ _ _).down,AI,Al];refine⟨_,p82 w.base w.now hf.b hf.n,?_⟩;by_cases ha:BJ w.base w.now
 ·rw[decide_eq_true ha];refine Aa (λh=>by cases h) (λ_=>?_);refine Aa (λh=>N0 λhr=>?_) (λhp=>?_)
  ·have h1:=hr.2.1;have:(w.pages.length:Int)≠w.now.length:=by simpa using h
   omega
  have hp:(w.pages.length:Int)=w.now.length:=by simpa using hp
  refine Ab (λh=>N0 (by unfold WRight;omega)) (λh1=>Ab (λh=>N0 (by unfold WRight;omega)) (λh2=>?_));have last:(w.root=0\/(10<=w.root/\w.root<w.now.length))->∃x:Bool,Runs AG 83 [.o (.sl 1 (AK w.pages)),.fn 84 []] [] (.n (.bool x)) []/\AV.n (D.bool (!x)) = .n (.bool (decide (WRight w))):=λhr=>by
   refine⟨_,AFj w.pages hf.p,?_⟩;congr 2;refine Bool.eq_iff_iff.2 ⟨λh=>?_,λh=>?_⟩
   ·refine decide_eq_true ⟨ha,by omega,by omega,by omega,hr,λs hs=>?_⟩;have h3:(w.pages.any λs=>decide ((s.size:Int) > 4096))=false:=by simpa using h
    have:=List.any_eq_false.1 h3 s hs;have:¬(s.size:Int) > 4096:=by simpa using this
    omega
   ·have h3:=(of_decide_eq_true h).2.2.2.2.2;have:(w.pages.any λs=>decide ((s.size:Int) > 4096))=false:=List.any_eq_false.2 λs hs=>by have:=h3 s hs;simp;omega
    rw[this];rfl
  refine Aa (λh=>?_) (λh=>last (.inl (by simpa using h)));have hr0:w.root≠0:=by simpa using h
  refine Ab (λh=>N0 (by unfold WRight;omega)) (λh3=>Ab (λh=>N0 (by unfold WRight;omega)) (λh4=>last (.inr (by omega))))
 ·rw[decide_eq_false ha];exact Aa (λ_=>N0 λhr=>ha hr.1) (λh=>by cases h)
theorem L3 (s:bA)(n:Nd)(a:Int):CM s n a=(GC,4)\/(CM s n a=(n,0)/\NdOK n true):=by
 unfold CM;by_cases hc:a≠s.size\/¬NdOK n true;·rw[if_pos hc];exact .inl rfl
 ·rw[if_neg hc];exact .inr ⟨rfl,Classical.byContradiction λh2=>hc (.inr h2)⟩
theorem ZK {s:bA}:∀(m:Nat) (a:Int) (ks vs:List bA) (e:Int),Fj s m a ks vs = .inl e->e≠0
 | 0,a,ks,vs,e,h=>by simp[Fj]at h
 | m+1,a,ks,vs,e,h=>by
  unfold Fj at h;split at h;·rename_i h1;simp only[Sum.inl.injEq]at h;rw[<-h];exact h1
  split at h;·rename_i h1;simp only[Sum.inl.injEq]at h;rw[<-h];exact h1
  ·exact ZK m _ _ _ e h
theorem Yo {s:bA}:∀(m:Nat) (a:Int) (bs:List Int) (ks:List bA) (e:Int),E8 s m a bs ks = .inl e->e≠0
 | 0,a,bs,ks,e,h=>by simp[E8]at h
 | m+1,a,bs,ks,e,h=>by
  unfold E8 at h;split at h;·rename_i h1;simp only[Sum.inl.injEq]at h;rw[<-h];exact h1
  split at h;·rename_i h1;simp only[Sum.inl.injEq]at h;rw[<-h];exact h1
  ·exact Yo m _ _ _ e h
theorem R1 (k:Int)(s:bA):((Bi k s).2=0/\NdOK (Bi k s).1 true/\(k=1\/k=2)/\(Bi k s).1.leaf=(k==1))\/((Bi k s).2≠0/\(Bi k s).1=GC):=by
 unfold Bi;by_cases h1:k≠1/\k≠2;·rw[if_pos h1];exact .inr ⟨by simp,rfl⟩
 rw[if_neg h1];by_cases h2:(gT s 0 1).2.2≠0;·rw[if_pos h2];exact .inr ⟨h2,rfl⟩
 rw[if_neg h2];have hk:k=1\/k=2:=by omega
 cases hl:(k==1) with
 | true=>
  rw[CV]
  cases hu:Fj s (gT s 0 1).1.toNat (gT s 0 1).2.1 [] [] with
  | inl e=>exact .inr ⟨ZK _ _ _ _ _ hu,rfl⟩
  | inr x=>
   obtain⟨ks,vs,a⟩:=x;dsimp only;rcases L3 s ⟨true,ks,vs,[]⟩ a with h|⟨h,hok⟩
   ·rw[h];exact .inr ⟨by simp,rfl⟩
   ·rw[h];exact .inl ⟨rfl,hok,hk,rfl⟩
 | false=>
  rw[Cn]
  cases hu:E8 s (gT s 0 1).1.toNat (gT s 0 1).2.1 [] [] with
  | inl e=>exact .inr ⟨Yo _ _ _ _ _ hu,rfl⟩
  | inr x=>
   obtain⟨bs,ks,a⟩:=x;dsimp only;split;·rename_i h;exact .inr ⟨h,rfl⟩
   ·rcases L3 s ⟨false,ks,[],bs++[(gT s a 2).1]⟩ (gT s a 2).2.1 with h|⟨h,hok⟩
    ·rw[h];exact .inr ⟨by simp,rfl⟩
    ·rw[h];exact .inl ⟨rfl,hok,hk,rfl⟩
theorem Ui {k:Int}{s:bA}(h:(Bi k s).2=0):NdOK (Bi k s).1 true/\(Bi k s).1.leaf=(k==1):=by
 rcases R1 k s with⟨_,h1,_,h2⟩|⟨h1,_⟩
 ·exact⟨h1,h2⟩
 ·exact absurd h h1
theorem Nq {n:Nd}{root:Bool}(h:NdOK n root):Bp n/\n.keys.length<=8/\n.vals.length<=8/\n.kids.length<=9:=by
 obtain⟨hs,h8,_⟩:=h;rcases hs.2.2 with⟨_,h1,h2,_⟩|⟨_,h1,_,h2,_⟩
 ·rw[Bp,h1];simp;omega
 ·rw[Bp,h1];simp;omega
noncomputable def Nn (p:AV)(gen:Int)(root:Bool):Option Nd:=
 match p with
 | .tup [.agg [.n (.int _ k),.n (.int _ g),.n (.str b)],.n (.int _ e)]=>
   if e≠0 then none else if g > gen then none else if (Bi k b).2≠0 then none else if NdOK (Bi k b).1 root then some (Bi k b).1 else none
 | _=>none
theorem Fy {e:Int}(he:e≠0)(gen:Int)(root:Bool):Nn (Ey e) gen root=none:=by simp only[Nn,Ey,pg,if_pos he]
theorem GF (k g:Int)(b:bA)(gen:Int)(root:Bool):Nn (.tup [pg k g b,aI 0]) gen root=if g > gen then none else if (Bi k b).2≠0 then none else if NdOK (Bi k b).1 root then some (Bi k b).1 else none:=by simp only[Nn,pg];rw[if_neg (by simp)]
def pgAt (w:Wd)(block:Int):bA:=(w.pages[block.toNat]?).getD Ar
noncomputable def Ax (w:Wd)(block:Int)(root:Bool):Option Nd:=
 if block<10\/block>=w.now.length\/block>=w.pages.length\/tr w.now block.toNat=false then none else Nn (GetPR (pgAt w block)) w.gen root
def hVN:Option Nd->AV
 | some n => .tup [ndN n,.n (.bool true)]
 | none => .tup [ndN GC,.n (.bool false)]
def hV:Option Nd->AV
 | some n => .tup [CO n,.n (.bool true)]
 | none => .tup [CO GC,.n (.bool false)]
theorem FK {w:Wd}{block:Int}{root:Bool}(h:block<10\/block>=w.now.length\/block>=w.pages.length\/tr w.now block.toNat=false):Ax w block root=none:=by rw[Ax,if_pos h]
theorem O1 {w:Wd}{block:Int}{root:Bool}(h:¬(block<10\/block>=w.now.length\/block>=w.pages.length\/tr w.now block.toNat=false)):Ax w block root=Nn (GetPR (pgAt w block)) w.gen root:=by rw[Ax,if_neg h]
theorem YB {k:Int}(h:k∉[(1:Int),2])(b:bA):(Bi k b).2≠0:=by rw[Bi,if_pos (by simp at h;omega)];simp
theorem Iz {w:Wd}{block:Int}(h:block.toNat<w.pages.length):w.pages[block.toNat]=pgAt w block:=by unfold pgAt;rw[gI h];rfl
theorem AHj (w:Wd)(hf:WFits w)(block:Int)(root:Bool):Runs AG 112 [Dp w,aI block,aB root] [] (hV (Ax w block root)) []:=by
 refine Ag (c:=c112) rfl rfl ?_;rw[Dp,ACH,(ACZ _ _ _ _ _ _ _ _).down,AI,Al];refine Ab (λh=>by rw[FK (.inl h)];rfl) (λh1=>Ab (λh=>by rw[FK (.inr (.inl h))];rfl) (λh2=>Ab (λh=>by rw[FK (.inr (.inr (.inl h)))];rfl) (λh3=>?_)));have hi:block.toNat<w.now.length:=by omega
 have hj:block.toNat<w.pages.length:=by omega
 refine⟨rfl,by omega,_,BU hi,_,rfl,?_⟩;rw[<-Dl hi];refine Aa (λh=>by rw[FK (.inr (.inr (.inr (by simpa using h))))];rfl) (λh4=>?_);have h4:tr w.now block.toNat=true:=by simpa using h4
 rw[O1 (by rw[h4];simp;omega)];refine⟨rfl,by omega,_,A0 hj,_,rfl,?_⟩;rw[Iz hj];have hsz:Small (pgAt w block).size:=by rw[<-Iz hj];exact hf.s _ (List.getElem_mem hj)
 have h55:=(AIU _ hsz).up Ea;rcases A6 (pgAt w block) with⟨e,he,h⟩|⟨k,g,b,h,hok,_⟩
 ·rw[h]at h55;rw[h,Fy he];exact⟨_,_,_,_,h55,Aa (λ_=>rfl) (λh=>absurd (by simpa using h) he)⟩
 ·rw[h]at h55;rw[h,GF];refine⟨_,_,_,_,h55,Aa (λh=>by cases h) (λ_=>Ab (λhg=>by rw[if_pos hg];rfl) (λhg=>?_))⟩;rw[if_neg hg];obtain⟨_,_,_,_,hb⟩:=hok;have g2:=AFy k b (by omega);refine⟨_,_,_,_,_,g2,Aa (λhe=>by rw[if_pos (by simpa using he)];rfl) (λhe=>?_)⟩;have he:(Bi k b).2=0:=by simpa using he
  rw[if_neg (by rw[he];simp)];have hok2:=(Ui he).1;refine⟨_,WR (Bi k b).1 root (Nq hok2).1,?_⟩;by_cases hn:NdOK (Bi k b).1 root;·rw[decide_eq_true hn,if_pos hn];rfl
  ·rw[decide_eq_false hn,if_neg hn];rfl
def rH (w:Wd):Heap:=[(15500302,.box [aL (Bk w.base),aL (Bk w.now),aL (AK w.pages),aI w.root,aI w.gen,aS (ByteArray.mk (List.toArray [])),aI 0,aI 0,.n .nil,aS (ByteArray.mk (List.toArray [])),aB false,aB false])]
theorem AAC (w:Wd)(hf:WFits w)(hp:w.pages.length=w.now.length)(block:Int)(root:Bool):Runs AG 192 [.ptr 15500302 0,aI block,aB root] (rH w) (hVN (Ax w block root)) (rH w):=by
 refine Ci (c:=c192) rfl rfl (by kernel_rfl) ?_;rw[rH,pE,(mJ _ _ _ _ _ _ _ _).down,AI];refine Ab (λh=>by rw[FK (.inl h)];exact⟨rfl,rfl⟩) (λh1=>Ab (λh=>by rw[FK (.inr (.inl h))];exact⟨rfl,rfl⟩) (λh2=>?_));have hi:block.toNat<w.now.length:=by omega
 have hj:block.toNat<w.pages.length:=by omega
 refine⟨rfl,by omega,_,BU hi,_,rfl,?_⟩;rw[<-Dl hi];refine Aa (λh=>by rw[FK (.inr (.inr (.inr (by simpa using h))))];exact⟨rfl,rfl⟩) (λh4=>?_);have h4:tr w.now block.toNat=true:=by simpa using h4
 rw[O1 (by rw[h4];simp;omega)];refine⟨rfl,by omega,_,A0 hj,_,rfl,?_⟩;rw[Iz hj];have hsz:Small (pgAt w block).size:=by rw[<-Iz hj];exact hf.s _ (List.getElem_mem hj)
 refine⟨rfl,?_⟩;rcases A6 (pgAt w block) with⟨e,he,h⟩|⟨k,g,b,h,hok,_⟩
 ·have g1:=(KC _ hsz [1,2] e he h).up Ea;rw[h,Fy he];exact⟨_,_,_,_,g1,Aa (λ_=>⟨rfl,rfl⟩) (λh=>absurd (by simpa using h) he)⟩
 ·have h53:=(O2 _ hsz [1,2] (by simp) k g b h).up Ea;rw[h,GF];by_cases hk:k∈[(1:Int),2]
  ·rw[if_pos hk]at h53;refine⟨_,_,_,_,h53,Aa (λh=>by cases h) (λ_=>Ab (λhg=>by rw[if_pos hg];exact⟨rfl,rfl⟩) (λhg=>?_))⟩;rw[if_neg hg];obtain⟨_,_,_,_,hb⟩:=hok;have g2:=AFM k b (by omega);refine⟨_,_,_,_,_,g2,Aa (λhe=>by rw[if_pos (by simpa using he)];exact⟨rfl,rfl⟩) (λhe=>?_)⟩;have he:(Bi k b).2=0:=by simpa using he
   rw[if_neg (by rw[he];simp)];have hok2:=(Ui he).1;refine⟨_,UB (Bi k b).1 root (Nq hok2).1,?_⟩;by_cases hn:NdOK (Bi k b).1 root;·rw[decide_eq_true hn,if_pos hn];exact⟨rfl,rfl⟩
   ·rw[decide_eq_false hn,if_neg hn];exact⟨rfl,rfl⟩
  ·rw[if_neg hk]at h53;have hno:=YB hk b;refine⟨_,_,_,_,h53,Aa (λ_=>?_) (λh=>by cases h)⟩;have:(if g > w.gen then none else if (Bi k b).2≠0 then none else if NdOK (Bi k b).1 root then some (Bi k b).1 else none)=(none:Option Nd):=by
    split;·rfl
    ·first | rfl|rw[if_pos hno]
   rw[this];exact⟨rfl,rfl⟩
noncomputable def PW (w:Wd)(block:Int)(root:Bool):Nd×Int:=if WRight w then match Ax w block root with|some n=>(n,0)|none=>(GC,81) else (GC,1)
theorem ADx (w:Wd)(hf:WFits w)(block:Int)(root:Bool):Runs AG 155 [Dp w,aI block,aB root] [] (xU (PW w block root)) []:=by
 have g41:=uN w hf;refine Ag (c:=c155) rfl rfl ?_;rw[Dp,ACK,(yZ _ _ _ _ _ _ _ _).down];by_cases hr:WRight w
 ·rw[decide_eq_true hr]at g41;have g68:=AAC w hf hr.2.1 block root;refine⟨_,g41,Aa (λh=>by cases h) (λ_=>?_)⟩;rw[PW,if_pos hr]
  cases hh:Ax w block root with
  | none=> rw[hh]at g68;exact⟨_,_,_,_,_,_,_,_,_,_,_,_,_,_,_,_,g68,Aa (λ_=>rfl) (λh=>by cases h)⟩
  | some n=> rw[hh]at g68;exact⟨_,_,_,_,_,_,_,_,_,_,_,_,_,_,_,_,g68,Aa (λh=>by cases h) (λ_=>rfl)⟩
 ·rw[decide_eq_false hr]at g41;refine⟨_,g41,Aa (λ_=>?_) (λh=>by cases h)⟩;rw[PW,if_neg hr];rfl
theorem D7 {w:Wd}{block:Int}{root:Bool}{n:Nd}(h:Ax w block root=some n):NdOK n root:=by
 unfold Ax at h;split at h;·cases h
 ·rcases A6 (pgAt w block) with⟨e,he,h'⟩|⟨k,g,b,h',_⟩
  ·rw[h',Fy he]at h;cases h
  ·rw[h',GF]at h;split at h;·cases h
   split at h;·cases h
   split at h;·rename_i hk;simp only[oI]at h;rw[<-h];exact hk
   ·cases h
def VM (n:Nd)(key:bA):Nat:=CC n.keys key+if Gd n.keys key then 1 else 0
theorem Xf {n:Nd}(hs:Ay n)(hl:n.leaf=false)(key:bA):VM n key<n.kids.length:=by
 rcases hs.2.2 with⟨h,_⟩|⟨_,_,_,h,_⟩
 ·rw[hl]at h;cases h
 ·have h1:=G9 n.keys key;unfold VM;split;·rename_i hat;have:n.keys[CC n.keys key]?=some key:=of_decide_eq_true hat;obtain⟨h2,_⟩:=List.getElem?_eq_some_iff.1 this;omega
  ·omega
theorem iC {l:List bA}{key:bA}(h:Gd l key=true):CC l key<l.length:=by obtain⟨h2,_⟩:=List.getElem?_eq_some_iff.1 (of_decide_eq_true h);exact h2
theorem XH (n:Nat):List.replicate n (D.str (ByteArray.mk (List.toArray [])))=AK (List.replicate n Ar):=by simp[AK,Ar]
abbrev Pr:=bA×bA
abbrev Hd:=Int->Bool->Option Nd
def zD (H:Hd):Prop:=∀b r n,H b r=some n->NdOK n r
theorem Xw (w:Wd):zD (Ax w):=λ_ _ _ h=>D7 h
def within (k lo hi:bA):Bool := !(lt k lo)&&(decide (hi=Ar)||lt k hi)
theorem within_iff {k lo hi:bA}:within k lo hi=true ↔ lt k lo=false/\(hi=Ar\/lt k hi=true):=by unfold within;simp only[Bool.and_eq_true,Bool.not_eq_true',Bool.or_eq_true,decide_eq_true_eq]
def KTr (R:Int->bA->bA->List Pr->List Int->Prop):bA->bA->List bA->List Int->List Pr->List Int->Prop
 | lo,hi,[],[c],P,B=>R c lo hi P B
 | lo,hi,k::ks,c::cs,P,B=>∃P1 B1 P2 B2,R c lo k P1 B1/\KTr R k hi ks cs P2 B2/\P=P1++P2/\B=B1++B2
 | _,_,_,_,_,_=>False
def Tr (H:Hd):Nat->Int->Bool->bA->bA->List Pr->List Int->Prop
 | 0,_,_,_,_,_,_=>False
 | h+1,b,root,lo,hi,P,B=>∃n,H b root=some n/\(∀k∈n.keys,within k lo hi=true) /\
    ((n.leaf=true/\h=0/\n.keys≠[]/\P=n.keys.zip n.vals/\B=[b]) \/
     (n.leaf=false/\∃B',B=b::B'/\KTr (λc lo hi P B=>Tr H h c false lo hi P B) lo hi n.keys n.kids P B'))
theorem KTr.mono {R S:Int->bA->bA->List Pr->List Int->Prop}:∀ {ks:List bA} {cs:List Int} {lo hi:bA} {P:List Pr} {B:List Int},
   (∀c lo hi P B',(∀x∈B',x∈B)->R c lo hi P B'->S c lo hi P B')->KTr R lo hi ks cs P B->KTr S lo hi ks cs P B
 | [],[],_,_,_,_,_,h=>h
 | [],[c],lo,hi,P,B,m,h=>m c lo hi P B (λ_ h=>h) h
 | [],_::_::_,_,_,_,_,_,h=>h
 | _::_,[],_,_,_,_,_,h=>h
 | k::ks,c::cs,lo,hi,P,B,m,h=>by obtain⟨P1,B1,P2,B2,h1,h2,rfl,rfl⟩:=h;exact⟨P1,B1,P2,B2,m _ _ _ _ _ (λx hx=>List.mem_append_left _ hx) h1,KTr.mono (λc lo hi P B' hB h=>m c lo hi P B' (λx hx=>List.mem_append_right _ (hB x hx)) h) h2,rfl,rfl⟩
theorem Tr.frame {H G:Hd}:∀ {h:Nat} {b:Int} {root:Bool} {lo hi:bA} {P:List Pr} {B:List Int},
   (∀x∈B,∀r n,H x r=some n->G x r=some n)->Tr H h b root lo hi P B->Tr G h b root lo hi P B
 | 0,_,_,_,_,_,_,_,h=>h
 | h+1,b,root,lo,hi,P,B,f,ht=>by
  obtain⟨n,hn,hk,hh⟩:=ht;rcases hh with⟨h1,h2,h3,h4,rfl⟩|⟨h1,B',rfl,h2⟩
  ·exact⟨n,f b (by simp) _ _ hn,hk,.inl ⟨h1,h2,h3,h4,rfl⟩⟩
  ·refine⟨n,f b (by simp) _ _ hn,hk,.inr ⟨h1,B',rfl,KTr.mono (λc lo hi P B'' hB hc=>Tr.frame (λx hx=>f x (List.mem_cons_of_mem _ (hB x hx))) hc) h2⟩⟩
theorem KTr.one {R S:Int->bA->bA->List Pr->List Int->Prop}(m:∀c lo hi lo' hi' P B P' B',R c lo hi P B->S c lo' hi' P' B'->P=P'/\B=B'):∀ {ks:List bA} {cs:List Int} {lo hi lo' hi':bA} {P P':List Pr} {B B':List Int},
   KTr R lo hi ks cs P B->KTr S lo' hi' ks cs P' B'->P=P'/\B=B'
 | [],[],_,_,_,_,_,_,_,_,h,_=>h.elim
 | [],[c],lo,hi,_,_,P,P',B,B',h,h'=>m _ _ _ _ _ _ _ _ _ h h'
 | [],_::_::_,_,_,_,_,_,_,_,_,h,_=>h.elim
 | _::_,[],_,_,_,_,_,_,_,_,h,_=>h.elim
 | k::ks,c::cs,lo,hi,_,_,P,P',B,B',h,h'=>by obtain⟨P1,B1,P2,B2,h1,h2,rfl,rfl⟩:=h;obtain⟨Q1,C1,Q2,C2,g1,g2,rfl,rfl⟩:=h';obtain⟨rfl,rfl⟩:=m _ _ _ _ _ _ _ _ _ h1 g1;obtain⟨rfl,rfl⟩:=KTr.one m h2 g2;exact⟨rfl,rfl⟩
theorem Tr.one {H:Hd}:∀ {h h':Nat} {b:Int} {root:Bool} {lo hi lo' hi':bA} {P P':List Pr} {B B':List Int},
   Tr H h b root lo hi P B->Tr H h' b root lo' hi' P' B'->P=P'/\B=B'
 | 0,_,_,_,_,_,_,_,_,_,_,_,h,_=>h.elim
 | _,0,_,_,_,_,_,_,_,_,_,_,_,h=>h.elim
 | h+1,h'+1,b,root,lo,hi,lo',hi',P,P',B,B',ht,ht'=>by
  obtain⟨n,hn,_,hh⟩:=ht;obtain⟨n',hn',_,hh'⟩:=ht';rw[hn]at hn';obtain rfl:n=n':=by simpa using hn'
  rcases hh with⟨h1,h2,h3,rfl,rfl⟩|⟨h1,C,rfl,h2⟩
  ·rcases hh' with⟨_,_,_,rfl,rfl⟩|⟨g1,_⟩
   ·exact⟨rfl,rfl⟩
   ·rw[h1]at g1;cases g1
  ·rcases hh' with⟨g1,_⟩|⟨_,C',rfl,g2⟩
   ·rw[h1]at g1;cases g1
   ·obtain⟨rfl,rfl⟩:=KTr.one (R:=λc lo hi P B=>Tr H h c false lo hi P B) (S:=λc lo hi P B=>Tr H h' c false lo hi P B) (λc lo hi lo' hi' P B P' B' x y=>Tr.one x y) h2 g2;exact⟨rfl,rfl⟩
theorem KTr.mem {R:Int->bA->bA->List Pr->List Int->Prop}{Q:Int->Prop}(m:∀c lo hi P B,R c lo hi P B->∀x∈B,Q x):∀ {ks:List bA} {cs:List Int} {lo hi:bA} {P:List Pr} {B:List Int},
   KTr R lo hi ks cs P B->∀x∈B,Q x
 | [],[],_,_,_,_,h=>h.elim
 | [],[c],lo,hi,P,B,h=>m _ _ _ _ _ h
 | [],_::_::_,_,_,_,_,h=>h.elim
 | _::_,[],_,_,_,_,h=>h.elim
 | k::ks,c::cs,lo,hi,P,B,h=>by
  obtain⟨P1,B1,P2,B2,h1,h2,rfl,rfl⟩:=h;intro x hx;rcases List.mem_append.1 hx with hx|hx;·exact m _ _ _ _ _ h1 x hx
  ·exact KTr.mem m h2 x hx
theorem Tr.held {H:Hd}:∀ {h:Nat} {b:Int} {root:Bool} {lo hi:bA} {P:List Pr} {B:List Int},
   Tr H h b root lo hi P B->∀x∈B,∃r n,H x r=some n
 | 0,_,_,_,_,_,_,h=>h.elim
 | h+1,b,root,lo,hi,P,B,ht=>by
  obtain⟨n,hn,_,hh⟩:=ht;intro x hx;rcases hh with⟨_,_,_,_,rfl⟩|⟨_,C,rfl,h2⟩
  ·obtain rfl:x=b:=by simpa using hx
   exact⟨_,_,hn⟩
  ·rcases List.mem_cons.1 hx with rfl|hx;·exact⟨_,_,hn⟩
   ·exact KTr.mem (Q:=λx=>∃r n,H x r=some n) (λc lo hi P B hc=>Tr.held hc) h2 x hx
theorem Tr.root_mem {H:Hd}{h:Nat}{b:Int}{root:Bool}{lo hi:bA}{P:List Pr}{B:List Int}(ht:Tr H h b root lo hi P B):b∈B:=by
 cases h with
 | zero=>exact ht.elim
 | succ h=>
  obtain⟨n,_,_,⟨_,_,_,_,rfl⟩|⟨_,C,rfl,_⟩⟩:=ht;·simp
  ·simp
theorem L9 {k a b c:bA}(h:within k b c=true)(hab:lt b a=false):within k a c=true:=by
 obtain⟨h1,h2⟩:=within_iff.1 h;refine within_iff.2 ⟨?_,h2⟩;rcases nlt_iff.1 hab with rfl|hab;·exact h1
 ·rcases nlt_iff.1 h1 with rfl|h1;·exact FX hab
  ·exact FX (CT hab h1)
theorem J1 {k lo a hi:bA}(h:within k lo a=true)(ha:a≠Ar)(hah:within a lo hi=true):within k lo hi=true:=by
 obtain⟨h1,h2⟩:=within_iff.1 h;obtain⟨_,g2⟩:=within_iff.1 hah;refine within_iff.2 ⟨h1,?_⟩;rcases g2 with g2|g2;·exact .inl g2
 ·rcases h2 with h2|h2;·exact absurd h2 ha
  ·exact .inr (CT h2 g2)
def Rs (ks:List bA):Prop:=ks.Pairwise (λa b=>lt a b=true)
theorem Lp {l:List bA}(h:X1 l):Rs l:=List.pairwise_iff_getElem.2 λi j hi hj hij=>Ls h i j hi hj hij
theorem YT {l:List bA}(h:X1 l):∀k∈l,k≠Ar:=λk hk e=>by obtain⟨i,hi,rfl⟩:=List.getElem_of_mem hk;have:=(h i hi hi).1;rw[e]at this;exact absurd this (by decide)
theorem KTr.within {R:Int->bA->bA->List Pr->List Int->Prop}(m:∀c lo hi P B,R c lo hi P B->∀p∈P,within p.1 lo hi=true):∀ {ks:List bA} {cs:List Int} {lo hi:bA} {P:List Pr} {B:List Int},
   Rs ks->(∀k∈ks,k≠Ar)->(∀k∈ks,within k lo hi=true)->KTr R lo hi ks cs P B->∀p∈P,within p.1 lo hi=true
 | [],[],_,_,_,_,_,_,_,h=>h.elim
 | [],[c],lo,hi,P,B,_,_,_,h=>m _ _ _ _ _ h
 | [],_::_::_,_,_,_,_,_,_,_,h=>h.elim
 | _::_,[],_,_,_,_,_,_,_,h=>h.elim
 | k::ks,c::cs,lo,hi,P,B,hr,he,hw,h=>by
  obtain⟨P1,B1,P2,B2,h1,h2,rfl,rfl⟩:=h;obtain⟨r1,r2⟩:=List.pairwise_cons.1 hr;have hk:=hw k (by simp);intro p hp;rcases List.mem_append.1 hp with hp|hp;·exact J1 (m _ _ _ _ _ h1 p hp) (he k (by simp)) hk
  ·have:=KTr.within m r2 (λk hk=>he k (List.mem_cons_of_mem _ hk)) (λx hx=>within_iff.2 ⟨FX (r1 x hx),(within_iff.1 (hw x (List.mem_cons_of_mem _ hx))).2⟩) h2 p hp;exact L9 this (within_iff.1 hk).1
theorem dG {n:Nd}{p:Pr}(h:p∈n.keys.zip n.vals):p.1∈n.keys:=(List.of_mem_zip (a:=p.1) (b:=p.2) h).1
theorem Tr.within {H:Hd}(ho:zD H):∀ {h:Nat} {b:Int} {root:Bool} {lo hi:bA} {P:List Pr} {B:List Int},
   Tr H h b root lo hi P B->∀p∈P,within p.1 lo hi=true
 | 0,_,_,_,_,_,_,h=>h.elim
 | h+1,b,root,lo,hi,P,B,ht=>by
  obtain⟨n,hn,hw,hh⟩:=ht;have hk:=(ho _ _ _ hn).1.2.1;rcases hh with⟨_,_,_,rfl,_⟩|⟨_,C,rfl,h2⟩
  ·exact λp hp=>hw _ (dG hp)
  ·exact KTr.within (λc lo hi P B hc=>Tr.within ho hc) (Lp hk) (YT hk) hw h2
structure TS where
 ps:List Pr
 bs:List Int
 he:Int
 bad:Bool
def Oy:TS:=⟨[],[],0,false⟩
def A5 (f:Int->bA->bA->TS->TS):bA->bA->List bA->List Int->TS->TS
 | _,_,_,[],t=>t
 | lo,hi,[],c::cs,t=>A5 f hi hi [] cs (if t.bad then t else f c lo hi t)
 | lo,hi,k::ks,c::cs,t=>A5 f k hi ks cs (if t.bad then t else f c lo k t)
def Ja (n:Nd)(lo hi:bA):Bool:=n.keys.any λk => !(within k lo hi)
def below (H:Hd):Nat->Int->Int->bA->bA->TS->TS
 | 0,_,_,_,_,t => { t with bad:=true }
 | f+1,b,d,lo,hi,t=>
   if b∈t.bs\/t.bad=true then { t with bad:=true } else
   match H b (d==1) with
   | none => { t with bad:=true }
   | some n=>if d > 8\/(n.leaf=true/\n.keys=[]) then { t with bad:=true } else
     if n.leaf then ⟨t.ps++n.keys.zip n.vals,t.bs++[b],d,Ja n lo hi||(t.he != 0&&t.he != d)⟩
     else A5 (λc lo hi t=>below H f c (d+1) lo hi t) lo hi n.keys n.kids ⟨t.ps,t.bs++[b],t.he,Ja n lo hi⟩
theorem E7 {f:Int->bA->bA->TS->TS}:∀ {ks:List bA} {cs:List Int} {lo hi:bA} {t:TS},t.bad=true->A5 f lo hi ks cs t=t
 | _,[],_,_,_,_=>by cases ‹List bA›<;>rfl
 | [],c::cs,lo,hi,t,h=>by rw[A5,if_pos h];exact E7 h
 | k::ks,c::cs,lo,hi,t,h=>by rw[A5,if_pos h];exact E7 h
structure Adds (t t':TS) (P:List Pr) (B:List Int) (D:Int):Prop where
 eq:t'=⟨t.ps++P,t.bs++B,D,false⟩
 he:t.he=0\/t.he=D
 nd:t.bs.Nodup->(t.bs++B).Nodup
 pos:1<=D/\D<=8
theorem JV {H:Hd}{d:Int}{f:Int->bA->bA->TS->TS}
   (ih:∀c lo hi t,(f c lo hi t).bad=false->t.bad=false/\∃(h:Nat) (P:List Pr) (B:List Int),Tr H h c false lo hi P B/\Adds t (f c lo hi t) P B (d+h)):
   ∀ {ks:List bA} {cs:List Int} {lo hi:bA} {t:TS},cs.length=ks.length+1->(A5 f lo hi ks cs t).bad=false ->
     t.bad=false/\∃(h:Nat) (P:List Pr) (B:List Int),KTr (λc lo hi P B=>Tr H h c false lo hi P B) lo hi ks cs P B/\Adds t (A5 f lo hi ks cs t) P B (d+h)
 | ks,[],_,_,_,hl,_=>by simp at hl
 | [],[c],lo,hi,t,_,hb=>by
  simp only[A5]at hb |-;by_cases ht:t.bad=true;·rw[if_pos ht]at hb;rw[ht]at hb;cases hb
  ·rw[if_neg ht]at hb |-;obtain⟨h1,h,P,B,h2,h3⟩:=ih _ _ _ _ hb;exact⟨h1,h,P,B,h2,h3⟩
 | [],_::_::_,_,_,_,hl,_=>by simp at hl
 | k::ks,c::cs,lo,hi,t,hl,hb=>by
  simp only[A5]at hb |-;by_cases ht:t.bad=true;·rw[if_pos ht,E7 ht,ht]at hb;cases hb
  ·rw[if_neg ht]at hb |-;obtain⟨g1,h',P2,B2,g2,g3⟩:=JV ih (by simpa using hl) hb;obtain⟨h1,h,P1,B1,h2,h3⟩:=ih _ _ _ _ g1;have hp:=h3.pos;have e:d+(h:Int)=d+h':=by have:=g3.he;rw[h3.eq]at this;simp only at this;omega
   obtain rfl:h=h':=by omega
   refine⟨h1,h,P1++P2,B1++B2,⟨P1,B1,P2,B2,h2,g2,rfl,rfl⟩,⟨?_,h3.he,λhn=>?_,hp⟩⟩;·rw[g3.eq,h3.eq];simp only[List.append_assoc]
   ·have:=g3.nd (by rw[h3.eq];exact h3.nd hn);rw[h3.eq]at this;simpa only[List.append_assoc] using this
theorem J5 {H:Hd}(ho:zD H):∀(f:Nat) (b d:Int) (lo hi:bA) (t:TS),1<=d->(below H f b d lo hi t).bad=false ->
   t.bad=false/\∃(h:Nat) (P:List Pr) (B:List Int),Tr H h b (d==1) lo hi P B/\Adds t (below H f b d lo hi t) P B (d-1+h)
 | 0,b,d,lo,hi,t,_,hb=>by cases hb
 | f+1,b,d,lo,hi,t,hd,hb=>by
  unfold below at hb |-;by_cases h1:b∈t.bs\/t.bad=true;·rw[if_pos h1]at hb;cases hb
  rw[if_neg h1]at hb |-;have hnb:b∉t.bs:=λh=>h1 (.inl h);have htb:t.bad=false:=by cases h:t.bad with|false=>rfl|true=>exact absurd (.inr h) h1
  have ndb:t.bs.Nodup->(t.bs++[b]).Nodup:=λhn=>List.nodup_append.2 ⟨hn,by simp,λx hx y hy=>by
   obtain rfl:y=b:=by simpa using hy
   rintro rfl;exact hnb hx⟩
  cases hh:H b (d==1) with
  | none=>rw[hh]at hb;cases hb
  | some n=>
   rw[hh]at hb;dsimp only at hb |-;by_cases h2:d > 8\/(n.leaf=true/\n.keys=[]);·rw[if_pos h2]at hb;cases hb
   rw[if_neg h2]at hb |-;have hok:=ho _ _ _ hh
   cases hl:n.leaf with
   | true=>
    rw[hl]at hb;simp only[if_true,Bool.or_eq_false_iff,Bool.and_eq_false_iff,bne_eq_false_iff_eq]at hb |-;have hw:∀k∈n.keys,within k lo hi=true:=λk hk=>by have:=List.any_eq_false.1 hb.1 k hk;simpa using this
    refine⟨htb,1,n.keys.zip n.vals,[b],⟨n,hh,hw,.inl ⟨hl,rfl,λh=>h2 (.inr ⟨hl,h⟩),rfl,rfl⟩⟩,⟨?_,?_,ndb,by omega⟩⟩
    ·congr 1;·simp
     ·rw[Bool.or_eq_false_iff,Bool.and_eq_false_iff];exact⟨hb.1,by simpa using hb.2⟩
    ·rcases hb.2 with h|h;·exact .inl h
     ·exact .inr (by simp;exact h)
   | false=>
    rw[hl]at hb;simp only[Bool.false_eq_true,if_false]at hb |-;have hkl:n.kids.length=n.keys.length+1:=by
     rcases hok.1.2.2 with⟨h,_⟩|⟨_,_,_,h,_⟩
     ·rw[hl]at h;cases h
     ·exact h
    obtain⟨g1,h,P,B,g2,g3⟩:=JV (H:=H) (d:=d) (λc lo hi t hb=>by
     obtain⟨x1,h,P,B,x2,x3⟩:=J5 ho f c (d+1) lo hi t (by omega) hb;have e:(d+1==1)=false:=by simp;omega
     rw[e]at x2;rw[show d+1-1+(h:Int)=d+h by omega]at x3;exact⟨x1,h,P,B,x2,x3⟩) hkl hb
    have hoff:Ja n lo hi=false:=g1;have hw:∀k∈n.keys,within k lo hi=true:=λk hk=>by have:=List.any_eq_false.1 hoff k hk;simpa using this
    have e:d-1+((h+1:Nat):Int)=d+h:=by omega
    refine⟨htb,h+1,P,b::B,⟨n,hh,hw,.inr ⟨hl,B,rfl,g2⟩⟩,?_⟩;rw[e];refine⟨?_,g3.he,λhn=>?_,g3.pos⟩;·rw[g3.eq];simp
    ·have:=g3.nd (ndb hn);simpa using this
theorem LO {H:Hd}{d:Int}{h:Nat}{f:Int->bA->bA->TS->TS}
   (ih:∀c lo hi t P B,Tr H h c false lo hi P B->t.bad=false->(t.bs++B).Nodup->(t.he=0\/t.he=d+h)->f c lo hi t=⟨t.ps++P,t.bs++B,d+h,false⟩):
   ∀ {ks:List bA} {cs:List Int} {lo hi:bA} {t:TS} {P:List Pr} {B:List Int},KTr (λc lo hi P B=>Tr H h c false lo hi P B) lo hi ks cs P B->t.bad=false->(t.bs++B).Nodup->(t.he=0\/t.he=d+h) ->
     A5 f lo hi ks cs t=⟨t.ps++P,t.bs++B,d+h,false⟩
 | [],[],_,_,_,_,_,hk,_,_,_=>hk.elim
 | [],[c],lo,hi,t,P,B,hk,hb,hn,he=>by simp only[A5,hb,Bool.false_eq_true,if_false];exact ih _ _ _ _ _ _ hk hb hn he
 | [],_::_::_,_,_,_,_,_,hk,_,_,_=>hk.elim
 | _::_,[],_,_,_,_,_,hk,_,_,_=>hk.elim
 | k::ks,c::cs,lo,hi,t,P,B,hk,hb,hn,he=>by obtain⟨P1,B1,P2,B2,h1,h2,rfl,rfl⟩:=hk;rw[<-List.append_assoc]at hn;simp only[A5,hb,Bool.false_eq_true,if_false];rw[ih _ _ _ _ _ _ h1 hb (List.nodup_append.1 hn).1 he,LO ih h2 rfl hn (.inr rfl)];simp only[List.append_assoc]
theorem LR {H:Hd}:∀(f h:Nat) (b d:Int) (lo hi:bA) (t:TS) (P:List Pr) (B:List Int),Tr H h b (d==1) lo hi P B->1<=d->d-1+h<=8->h<=f->t.bad=false->(t.bs++B).Nodup->(t.he=0\/t.he=d-1+h) ->
   below H f b d lo hi t=⟨t.ps++P,t.bs++B,d-1+h,false⟩
 | f,0,b,d,lo,hi,t,P,B,ht,_,_,_,_,_,_=>ht.elim
 | 0,h+1,b,d,lo,hi,t,P,B,ht,_,_,hf,_,_,_=>by omega
 | f+1,h+1,b,d,lo,hi,t,P,B,ht,hd,h8,hf,hb,hn,he=>by
  have hb0:b∈B:=ht.root_mem;obtain⟨n,hh,hw,hx⟩:=ht;have hnb:b∉t.bs:=λh=>(List.nodup_append.1 hn).2.2 b h b hb0 rfl;have hoff:Ja n lo hi=false:=List.any_eq_false.2 λk hk=>by rw[hw k hk];simp
  unfold below;rw[if_neg (by rw[hb];simpa using hnb),hh];dsimp only;rcases hx with⟨hl,rfl,hk,rfl,rfl⟩|⟨hl,B',rfl,hk⟩
  ·rw[if_neg (by
    rintro(h|h);·omega
    ·exact hk h.2),hl,if_pos rfl,hoff]
   have e:(t.he != 0&&t.he != d)=false:=by
    rcases he with he|he;·rw[he];rfl
    ·rw[show t.he=d by simpa using he];simp
   rw[e];congr 1;simp
  ·rw[if_neg (by
    rintro(h|h);·omega
    ·rw[hl]at h;cases h.1),hl,if_neg (by simp),hoff]
   have e:d-1+((h+1:Nat):Int)=d+h:=by omega
   rw[e]at he |-;have hq:=LO (H:=H) (d:=d) (h:=h) (f:=λc lo hi t=>below H f c (d+1) lo hi t) (λc lo hi t P B hc hb hn he=>by
    have e2:(d+1==1)=false:=by simp;omega
    have:=LR f h c (d+1) lo hi t P B (by rw[e2];exact hc) (by omega) (by omega) (by omega) hb hn (by rw[show d+1-1+(h:Int)=d+h by omega];exact he);rw[show d+1-1+(h:Int)=d+h by omega]at this;exact this) (t:=⟨t.ps,t.bs++[b],t.he,false⟩) hk rfl (by simpa using hn) he
   rw[hq];simp
noncomputable def AZ (w:Wd):TS:=if w.root=0 then Oy else below (Ax w) 9 w.root 1 Ar Ar Oy
def IsTree (w:Wd)(h:Nat)(P:List Pr)(B:List Int):Prop:=
 w.root=0/\h=0/\P=[]/\B=[]\/w.root≠0/\1<=h/\h<=8/\Tr (Ax w) h w.root true Ar Ar P B/\B.Nodup
theorem S7 {w:Wd}(hb:(AZ w).bad=false):∃h P B,IsTree w h P B/\AZ w=⟨P,B,h,false⟩:=by
 unfold AZ at hb |-;by_cases h0:w.root=0;·rw[if_pos h0];exact⟨0,[],[],.inl ⟨h0,rfl,rfl,rfl⟩,rfl⟩
 ·rw[if_neg h0]at hb |-;obtain⟨_,h,P,B,ht,ha⟩:=J5 (Xw w) 9 w.root 1 Ar Ar Oy (by omega) hb;have hp:=ha.pos;have e:(1:Int)-1+h=h:=by omega
  rw[e]at ha hp;refine⟨h,P,B,.inr ⟨h0,by omega,by omega,ht,?_⟩,?_⟩;·have:=ha.nd (by simp[Oy]);simpa[Oy] using this
  ·rw[ha.eq];simp[Oy]
theorem Ef {w:Wd}{h:Nat}{P:List Pr}{B:List Int}(ht:IsTree w h P B):AZ w=⟨P,B,h,false⟩:=by
 unfold AZ;rcases ht with⟨h0,rfl,rfl,rfl⟩|⟨h0,h1,h8,ht,hn⟩
 ·rw[if_pos h0];rfl
 ·rw[if_neg h0,LR 9 h w.root 1 Ar Ar Oy P B ht (by omega) (by omega) (by omega) rfl (by simpa[Oy] using hn) (.inl rfl)];simp[Oy]
def Bl:List bA->bA->Nat
 | [],_=>0
 | k::r,x=>if lt x k then 0 else Bl r x+1
theorem LX:∀(l:List bA) (x:bA),Bl l x<=l.length
 | [],_=>Nat.le_refl _
 | k::r,x=>by
  unfold Bl;split;·omega
  ·have:=LX r x;simp;omega
theorem UE {k x:bA}{r:List bA}(h:lt k x=true):Gd (k::r) x=Gd r x:=by unfold Gd;rw[show CC (k::r) x=CC r x+1 by rw[CC,if_pos h],List.getElem?_cons_succ]
theorem Qg {x:bA}:∀ {l:List bA},Rs l->CC l x+(if Gd l x then 1 else 0)=Bl l x
 | [],_=>by simp[CC,Gd,Bl]
 | k::r,h=>by
  obtain⟨h1,h2⟩:=List.pairwise_cons.1 h;by_cases hk:lt k x=true
  ·have e:Bl (k::r) x=Bl r x+1:=by rw[Bl,FX hk,if_neg Bool.false_ne_true]
   rw[UE hk,e,<-Qg h2,CC,if_pos hk];omega
  ·have e:CC (k::r) x=0:=by rw[CC,if_neg hk]
   have hk:lt k x=false:=by simpa using hk
   rw[Gd,e,List.getElem?_cons_zero,Bl];rcases nlt_iff.1 hk with rfl|hx
   ·have e2:Bl r k=0:=by
     cases r with
     | nil=>rfl
     | cons y r=>rw[Bl,h1 y (by simp),if_pos rfl]
    simp[Jm,e2]
   ·rw[hx,decide_eq_false (by intro e;simp only[oI]at e;subst e;rw[Jm]at hx;cases hx)];rfl
theorem Tl {n:Nd}(hk:X1 n.keys)(x:bA):VM n x=Bl n.keys x:=Qg (Lp hk)
theorem AEl (k lo hi:bA):Runs AG 113 [aS k,aS lo,aS hi] [] (aB (within k lo hi)) []:=by
 refine Ag (c:=c113) rfl rfl ?_;rw[vW,(AB1 _ _ _ _).down];show Ae (!(lt k lo)) _ _;have e:(hi.toList==(ByteArray.mk (List.toArray [])).toList)=decide (hi=Ar):=Dn hi Ar;rw[e];refine Aa (λh=>Ab (λh2=>?_) (λh2=>?_)) (λh=>?_);·rw[within,h,decide_eq_true h2];rfl
 ·rw[within,h,decide_eq_false h2];rfl
 ·rw[within,h];rfl
theorem Gx:∀(N:Nat) (l:List Int),l.Nodup->(∀b∈l,0<=b/\b<N)->l.length<=N
 | 0,[],_,_=>Nat.le_refl _
 | 0,b::l,_,h=>by have:=h b (by simp);omega
 | N+1,l,hn,h=>by
  by_cases hN:(N:Int)∈l
  ·have h1:=Gx N (l.erase N) (hn.erase _) (λb hb=>by
    have h2:=h b (List.mem_of_mem_erase hb);have h3:b≠N:=λe=>by subst e;exact(List.Nodup.mem_erase_iff hn).1 hb |>.1 rfl
    omega)
   have:=List.length_erase_of_mem hN;omega
  ·have:=Gx N l hn (λb hb=>by have h2:=h b hb;have h3:b≠N:=λe=>hN (e▸hb);omega);omega
structure TInv (t:TS):Prop where
 nd:t.bs.Nodup
 rg:∀b∈t.bs,0<=b/\b<2048
 ps:t.ps.length<=9*t.bs.length
theorem TInv.len {t:TS}(h:TInv t):t.bs.length<=2048:=Gx 2048 t.bs h.nd h.rg
theorem JA {f:Int->bA->bA->TS->TS}(ih:∀c lo hi t,TInv t->TInv (f c lo hi t)):∀ {ks:List bA} {cs:List Int} {lo hi:bA} {t:TS},TInv t->TInv (A5 f lo hi ks cs t)
 | _,[],_,_,_,h=>by cases ‹List bA›<;>exact h
 | [],c::cs,lo,hi,t,h=>by
  rw[A5];refine JA ih ?_;split;·exact h
  ·exact ih _ _ _ _ h
 | k::ks,c::cs,lo,hi,t,h=>by
  rw[A5];refine JA ih ?_;split;·exact h
  ·exact ih _ _ _ _ h
theorem TInv.bad {t:TS}(h:TInv t):TInv { t with bad:=true }:=⟨h.nd,h.rg,h.ps⟩
theorem TInv.add {t:TS}(h:TInv t){b:Int}(hb:b∉t.bs)(h0:0<=b/\b<2048){P:List Pr}(hP:P.length<=9)(he:Int)(bad:Bool):TInv ⟨t.ps++P,t.bs++[b],he,bad⟩:=by
 refine⟨List.nodup_append.2 ⟨h.nd,by simp,λx hx y hy=>?_⟩,λx hx=>?_,?_⟩
 ·obtain rfl:y=b:=by simpa using hy
  rintro rfl;exact hb hx
 ·rcases List.mem_append.1 hx with hx|hx;·exact h.rg x hx
  ·obtain rfl:x=b:=by simpa using hx
   exact h0
 ·have:=h.ps;simp;omega
theorem Hl {w:Wd}(hn:w.now.length<=2048){b:Int}{r:Bool}{n:Nd}(h:Ax w b r=some n):10<=b/\b<w.now.length/\b<w.pages.length:=by
 unfold Ax at h;split at h;·cases h
 ·omega
theorem G4 {w:Wd}(hn:w.now.length<=2048):∀(f:Nat) (b d:Int) (lo hi:bA) (t:TS),TInv t->TInv (below (Ax w) f b d lo hi t)
 | 0,_,_,_,_,_,h=>h.bad
 | f+1,b,d,lo,hi,t,h=>by
  unfold below;by_cases h1:b∈t.bs\/t.bad=true;·rw[if_pos h1];exact h.bad
  rw[if_neg h1]
  cases hh:Ax w b (d==1) with
  | none=>exact h.bad
  | some n=>
   dsimp only;have hrg:=Hl hn hh;have hok:=D7 hh;by_cases h2:d > 8\/(n.leaf=true/\n.keys=[]);·rw[if_pos h2];exact h.bad
   rw[if_neg h2];split;·refine h.add (λhb=>h1 (.inl hb)) (by omega) ?_ _ _;have:=hok.2.1;rw[List.length_zip];omega
   ·refine JA (λc lo hi t ht=>G4 hn f c (d+1) lo hi t ht) ?_;have:=h.add (λhb=>h1 (.inl hb)) (b:=b) (by omega) (P:=[]) (by simp) t.he (Ja n lo hi);simpa using this
def Jn (l:List Pr):List Mir.D:=l.map λp => .rcd [.str p.1,.str p.2]
theorem Pg (l:List Pr):(Jn l).length=l.length:=by simp[Jn]
theorem Zw {l:List Pr}{i:Nat}(h:i<l.length):(Jn l)[i]?=some (.rcd [.str l[i].1,.str l[i].2]):=by simp[Jn,h]
theorem Y7 (l:List Pr)(k v:bA):Jn l++[.rcd [.str k,.str v]]=Jn (l++[(k,v)]):=by simp[Jn]
def hT (t:TS)(va vb:Nat):Heap:=[hB 2200101 [.row 2290001 va,.row 2290002 vb,aI t.he,aB t.bad],hR 2290001 va 129 2 (Jn t.ps),hR 2290002 vb 3 1 (il t.bs)]
def AU (lo:bA)(ks:List bA)(i:Nat):bA:=if i=0 then lo else (ks[i-1]?).getD Ar
theorem Iw {f:Int->bA->bA->TS->TS}{lo hi:bA}{ks:List bA}{cs:List Int}{t:TS}{i:Nat}(h1:i<ks.length)(h2:i<cs.length):
  A5 f (AU lo ks i) hi (ks.drop i) (cs.drop i) t=A5 f (AU lo ks (i+1)) hi (ks.drop (i+1)) (cs.drop (i+1)) (if t.bad then t else f cs[i] (AU lo ks i) ks[i] t):=by
 rw[List.drop_eq_getElem_cons h1,List.drop_eq_getElem_cons h2,A5]
 have e:AU lo ks (i+1)=ks[i]:=by rw[AU,if_neg (by omega),Nat.add_sub_cancel,gI h1];rfl
 rw[e]
theorem NR {f:Int->bA->bA->TS->TS}{lo hi:bA}{ks:List bA}{cs:List Int}{t:TS}{i:Nat}(h1:i=ks.length)(h2:i+1=cs.length):
  A5 f (AU lo ks i) hi (ks.drop i) (cs.drop i) t=(if t.bad then t else f (cs[i]'(by omega)) (AU lo ks i) hi t):=by
 rw[List.drop_of_length_le (by omega),List.drop_eq_getElem_cons (by omega:i<cs.length),List.drop_of_length_le (by omega:cs.length<=i+1),A5,A5]
theorem Hf {f:Int->bA->bA->TS->TS}(lo hi:bA)(ks:List bA)(t:TS):A5 f lo hi ks [] t=t:=by cases ks<;>rfl
theorem LA {lo:bA}{ks:List bA}{i:Nat}(h:0<i)(h2:i-1<ks.length):AU lo ks i=ks[i-1]:=by rw[AU,if_neg (by omega),gI h2];rfl
set_option maxRecDepth 10000 in
set_option maxHeartbeats 15500000 in
theorem p64 (w:Wd)(hf:WFits w)(hn:w.now.length<=2048):∀(f:Nat) (b d:Int) (lo hi:bA) (t:TS) (va vb:Nat),d+f=10->1<=d->1<=f->TInv t ->
   ∃va' vb',Runs AG 64 [.ptr 2200101 0,Dp w,.n (.int .i64 b),.n (.int .i64 d),.n (.str lo),.n (.str hi)] (hT t va vb) (.tup []) (hT (below (Ax w) f b d lo hi t) va' vb')
 | 0,b,d,lo,hi,t,va,vb,_,_,hf1,_=>by omega
 | f+1,b,d,lo,hi,t,va,vb,hdf,hd,_,hi'=>by
  have g43:=AHj w hf b (d==1);have key:∃r H',Runs AG 64 [.ptr 2200101 0,Dp w,.n (.int .i64 b),.n (.int .i64 d),.n (.str lo),.n (.str hi)] (hT t va vb) r H'/\r = .tup []/\∃va' vb',H'=hT (below (Ax w) (f+1) b d lo hi t) va' vb':=by
   refine DI (R:=λr H'=>r = .tup []/\∃va' vb',H'=hT (below (Ax w) (f+1) b d lo hi t) va' vb') AEm rfl (by kernel_rfl) ?_;rw[hT,Dp];show Vc AG c64.body (Af c64 [.ptr 2200101 0,(.agg [.o (.sl 1 (Bk w.base)),.o (.sl 1 (Bk w.now)),.o (.sl 1 (AK w.pages)),.n (.int .i64 w.root),.n (.int .i64 w.gen)]),.n (.int .i64 b),.n (.int .i64 d),.n (.str lo),.n (.str hi)]) [(2200101,.box [.row 2290001 va,.row 2290002 vb,.n (.int .i64 t.he),.n (.bool t.bad)]),(2290001,.row false false va 129 2 (Jn t.ps)),(2290002,.row false false vb 3 1 (il t.bs))] (AQ c64 [(2200101,.box [.row 2290001 va,.row 2290002 vb,.n (.int .i64 t.he),.n (.bool t.bad)]),(2290001,.row false false va 129 2 (Jn t.ps)),(2290002,.row false false vb 3 1 (il t.bs))] _);rw[ABz,(wV _ _ _ _ _ _ _ _ _ _ _ _ _ _ _ _).down,Au];have hlen:=hi'.len;have hps:=hi'.ps;refine⟨rfl,λi S=>0<=i/\i<=t.bs.length/\S=(va,vb,t.he,(t.bad||(t.bs.take i.toNat).contains b),()),λi _=>(t.bs.length-i).toNat,⟨rfl,by omega,by omega,by simp⟩,?_⟩;rintro i S ⟨h0,h1,rfl⟩ _;dsimp only;refine Ab (λhlt=>?_) (λhge=>?_)
   ·have hi:i.toNat<t.bs.length:=by omega
    have e1:(i+1).toNat=i.toNat+1:=by omega
    refine⟨⟨rfl,rfl⟩,h0,hlt,⟨rfl,rfl⟩,_,D1 hi,_,rfl,Aa (λhx=>?_) (λhx=>?_)⟩;all_goals
      repeat (refine And.intro rfl ?_)
      rw[Ac _ (by omega)]
      refine⟨⟨by omega,by omega,?_⟩,by first|omega|(dsimp only;omega)⟩
      rw[e1,BF hi]
      congr 4
    ·have hx:t.bs[i.toNat]=b:=by simpa using hx
     simp[hx]
    ·have hx:t.bs[i.toNat]≠b:=by simpa using hx
     have:¬b=t.bs[i.toNat]:=λe=>hx e.symm;simp only[List.contains_eq_mem,List.mem_append,List.mem_singleton,this,or_false]
   ·rw[List.take_of_length_le (by omega)];have bad:below (Ax w) (f+1) b d lo hi t = { t with bad:=true }->∃va' vb',([hB 2200101 [.row 2290001 va,.row 2290002 vb,.n (.int .i64 t.he),.n (.bool true)],hR 2290001 va 129 2 (Jn t.ps),hR 2290002 vb 3 1 (il t.bs)]:Heap)=hT (below (Ax w) (f+1) b d lo hi t) va' vb':=λe=>⟨va,vb,by rw[e];rfl⟩
    by_cases hb1:b∈t.bs\/t.bad=true
    ·have e:(t.bad||t.bs.contains b)=true:=by
      rcases hb1 with h|h;·simp[h]
      ·simp[h]
     rw[e];have gb:=bad (by rw[below,if_pos hb1])
     cases hh:Ax w b (d==1) with
     | none=> rw[hh]at g43;exact⟨_,_,_,_,_,g43,Aa (λ_=>⟨rfl,gb⟩) (λh=>by cases h)⟩
     | some n=> rw[hh]at g43;exact⟨_,_,_,_,_,g43,Aa (λ_=>⟨rfl,gb⟩) (λh=>by cases h)⟩
    have hbn:b∉t.bs:=λh=>hb1 (.inl h);have htb:t.bad=false:=by cases h:t.bad with|false=>rfl|true=>exact absurd (.inr h) hb1
    have e:(t.bad||t.bs.contains b)=false:=by simp[hbn,htb]
    rw[e]
    cases hh:Ax w b (d==1) with
    | none=> rw[hh]at g43;have gb:=bad (by rw[below,if_neg hb1,hh]);exact⟨_,_,_,_,_,g43,Aa (λh=>by cases h) (λ_=>Aa (λ_=>⟨rfl,gb⟩) (λh=>by cases h))⟩
    | some n=>
     rw[hh]at g43;have hrg:=Hl hn hh;have hok:=D7 hh;have hk8:=hok.2.1;have eq:below (Ax w) (f+1) b d lo hi t=if d > 8\/(n.leaf=true/\n.keys=[]) then { t with bad:=true } else
         if n.leaf then ⟨t.ps++n.keys.zip n.vals,t.bs++[b],d,Ja n lo hi||(t.he != 0&&t.he != d)⟩
         else A5 (λc lo hi t=>below (Ax w) f c (d+1) lo hi t) lo hi n.keys n.kids ⟨t.ps,t.bs++[b],t.he,Ja n lo hi⟩:=by
       rw[below,if_neg hb1,hh]
     refine⟨_,_,_,_,_,g43,Aa (λh=>by cases h) (λ_=>Aa (λh=>by cases h) (λ_=>Ab (λh=>⟨rfl,bad (by rw[eq,if_pos (.inl h)])⟩) (λh8=>?_)))⟩;have hsnoc:il t.bs++[D.int .i64 b]=il (t.bs++[b]):=by simp[il]
     rw[Al,Au,hsnoc];have keyrun:=λ(k:bA)=>AEl k lo hi
     cases hl:n.leaf with
     | true=>
      have hvl:n.vals.length=n.keys.length:=by
       rcases hok.1.2.2 with⟨_,_,h,_⟩|⟨h,_⟩
       ·exact h
       ·rw[hl]at h;cases h
      refine Aa (λ_=>Aa (λh=>⟨rfl,bad (by rw[eq,if_pos (.inr ⟨hl,JF h⟩)])⟩) (λhk0=>?_)) (λh=>by cases h);have hk0:n.keys≠[]:=λe=>by rw[e]at hk0;simp at hk0
      rw[if_neg (by
       rintro(h|h);·exact h8 h
       ·exact hk0 h.2),hl,if_pos rfl]at eq
      have hsm:((t.bs.length+1)*8:Nat)<=140737488355328:=by omega
      refine⟨rfl,.inl rfl,⟨⟨rfl,rfl⟩,rfl⟩,by simpa[Au] using hsm,λi S Q=>0<=i/\i<=n.keys.length/\∃va',S=(va',vb+1,t.he,(n.keys.take i.toNat).any (λk => !(within k lo hi)),())/\Q=(va',Jn (t.ps++(n.keys.zip n.vals).take i.toNat)),λi _ _=>(n.keys.length-i).toNat,⟨rfl,by omega,by omega,va,by simp,by simp⟩,?_⟩;rintro i S Q ⟨h0,h1,va',rfl,rfl⟩ _;dsimp only;refine Ab (λhlt=>?_) (λhge=>?_)
      ·have hi:i.toNat<n.keys.length:=by omega
       have hv:i.toNat<n.vals.length:=by omega
       have hz:i.toNat<(n.keys.zip n.vals).length:=by rw[List.length_zip];omega
       have e1:(i+1).toNat=i.toNat+1:=by omega
       have hq:Jn (t.ps++(n.keys.zip n.vals).take i.toNat)++[D.rcd [.str n.keys[i.toNat],.str n.vals[i.toNat]]]=Jn (t.ps++(n.keys.zip n.vals).take (i.toNat+1)):=by rw[Y7,BF hz,List.getElem_zip,List.append_assoc]
       have hb:(Jn (t.ps++(n.keys.zip n.vals).take i.toNat)).length+1<=4398046511104:=by rw[Pg,List.length_append,List.length_take,List.length_zip];omega
       refine⟨rfl,h0,_,A0 hi,_,rfl,_,keyrun _,Aa (λhx=>?_) (λhx=>?_)⟩;all_goals
         refine Aa (λ_=>⟨rfl,h0,_,A0 hv,_,rfl,rfl,.inl rfl,⟨⟨rfl,rfl⟩,rfl⟩,by simp only[List.length_singleton];omega,?_⟩) (λh=>by cases h)
         repeat (refine And.intro rfl ?_)
         rw[Ac _ (by omega),hq]
         refine⟨⟨by omega,by omega,va'+1,?_,by rw[e1]⟩,by first|omega|(dsimp only;omega)⟩
         rw[e1,BF hi,List.any_append]
       ·simp only[hx,List.any_cons,List.any_nil,Bool.or_true,Bool.or_false]
       ·simp only[hx,List.any_cons,List.any_nil,Bool.or_false]
      ·have hge2:n.keys.length<=i.toNat:=by omega
       have hge3:(n.keys.zip n.vals).length<=i.toNat:=by rw[List.length_zip];omega
       rw[List.take_of_length_le hge2,List.take_of_length_le hge3];refine Aa (λ_=>?_) (λh=>by cases h);have ea:n.keys.any (λk => !(within k lo hi))=Ja n lo hi:=rfl;rw[ea];refine Aa (λh1=>Aa (λh2=>⟨rfl,va',vb+1,?_⟩) (λh2=>⟨rfl,va',vb+1,?_⟩)) (λh1=>⟨rfl,va',vb+1,?_⟩);·rw[eq,h1,h2];simp[hT]
       ·rw[eq,h1,h2];simp[hT]
       ·rw[eq,h1];simp[hT]
     | false=>
      refine Aa (λh=>by cases h) (λ_=>?_);rw[if_neg (by
       rintro(h|h);·exact h8 h
       ·rw[hl]at h;cases h.1),hl,if_neg (by simp)]at eq
      have hkl:n.kids.length=n.keys.length+1:=by
       rcases hok.1.2.2 with⟨h,_⟩|⟨_,_,_,h,_⟩
       ·rw[hl]at h;cases h
       ·exact h
      have hsm:((t.bs.length+1)*8:Nat)<=140737488355328:=by omega
      refine⟨rfl,.inl rfl,⟨⟨rfl,rfl⟩,rfl⟩,by simpa[Au] using hsm,λi S Q=>0<=i/\i<=n.keys.length/\S=(va,vb+1,t.he,(n.keys.take i.toNat).any (λk => !(within k lo hi)),())/\Q=(va,Jn t.ps),λi _ _=>(n.keys.length-i).toNat,⟨rfl,by omega,by omega,by simp,rfl⟩,?_⟩;rintro i S Q ⟨h0,h1,rfl,rfl⟩ _;dsimp only;refine Ab (λhlt=>?_) (λhge=>?_)
      ·have hi:i.toNat<n.keys.length:=by omega
       have e1:(i+1).toNat=i.toNat+1:=by omega
       refine⟨rfl,h0,_,A0 hi,_,rfl,_,keyrun _,Aa (λhx=>?_) (λhx=>?_)⟩;all_goals
         refine Aa (λh=>by cases h) (λ_=>?_)
         repeat (refine And.intro rfl ?_)
         rw[Ac _ (by omega)]
         refine⟨⟨by omega,by omega,?_,rfl⟩,by first|omega|(dsimp only;omega)⟩
         rw[e1,BF hi,List.any_append]
       ·simp only[hx,List.any_cons,List.any_nil,Bool.or_true,Bool.or_false]
       ·simp only[hx,List.any_cons,List.any_nil,Bool.or_false]
      ·rw[List.take_of_length_le (by omega)];refine Aa (λh=>by cases h) (λ_=>?_);have hst:TInv ⟨t.ps,t.bs++[b],t.he,Ja n lo hi⟩:=by have:=hi'.add hbn (b:=b) (by omega) (P:=[]) (by simp) t.he (Ja n lo hi);simpa using this
       refine⟨λi S Q Bq=>0<=i/\i<=n.kids.length/\∃(t':TS) (va' vb':Nat),TInv t'/\S=(va',vb',t'.he,t'.bad,())/\Q=(va',Jn t'.ps)/\Bq=(vb',il t'.bs)/\below (Ax w) (f+1) b d lo hi t=A5 (λc lo hi t=>below (Ax w) f c (d+1) lo hi t) (AU lo n.keys i.toNat) hi (n.keys.drop i.toNat) (n.kids.drop i.toNat) t',λi _ _ _=>(n.kids.length-i).toNat,
         ⟨rfl,by omega,by omega,⟨t.ps,t.bs++[b],t.he,Ja n lo hi⟩,va,vb+1,hst,rfl,rfl,rfl,eq⟩,?_⟩
       rintro i S Q Bq ⟨h0,h1,t',va',vb',ht',rfl,rfl,rfl,hinv⟩ _;dsimp only;rw[Ac (d+1) (by omega),Ac (i-1) (by omega),Ac (i+1) (by omega)];have e1:(i+1).toNat=i.toNat+1:=by omega
       have e2:(i-1).toNat=i.toNat-1:=by omega
       refine Ab (λhlt=>?_) (λhge=>?_)
       ·have hik:i.toNat<n.kids.length:=by omega
        have tail:∀(fr tl:bA),A5 (λc lo hi t=>below (Ax w) f c (d+1) lo hi t) (AU lo n.keys i.toNat) hi (n.keys.drop i.toNat) (n.kids.drop i.toNat) t'=A5 (λc lo hi t=>below (Ax w) f c (d+1) lo hi t) (AU lo n.keys (i.toNat+1)) hi (n.keys.drop (i.toNat+1)) (n.kids.drop (i.toNat+1)) (if t'.bad then t' else below (Ax w) f n.kids[i.toNat] (d+1) fr tl t') ->
            t'.bad=false->∃va'' vb'',Runs AG 64 [.ptr 2200101 0,Dp w,.n (.int .i64 n.kids[i.toNat]),.n (.int .i64 (d+1)),.n (.str fr),.n (.str tl)] (hT t' va' vb') (.tup []) (hT (below (Ax w) f n.kids[i.toNat] (d+1) fr tl t') va'' vb'') /\
              ∃(t'':TS) (a c:Nat),TInv t''/\(va'',vb'',(below (Ax w) f n.kids[i.toNat] (d+1) fr tl t').he,(below (Ax w) f n.kids[i.toNat] (d+1) fr tl t').bad,())=(a,c,t''.he,t''.bad,())/\(va'',Jn (below (Ax w) f n.kids[i.toNat] (d+1) fr tl t').ps)=(a,Jn t''.ps)/\(vb'',il (below (Ax w) f n.kids[i.toNat] (d+1) fr tl t').bs)=(c,il t''.bs)/\below (Ax w) (f+1) b d lo hi t=A5 (λc lo hi t=>below (Ax w) f c (d+1) lo hi t) (AU lo n.keys (i+1).toNat) hi (n.keys.drop (i+1).toNat) (n.kids.drop (i+1).toNat) t'':=λfr tl hs hb=>by
          obtain⟨va'',vb'',g⟩:=p64 w hf hn f n.kids[i.toNat] (d+1) fr tl t' va' vb' (by omega) (by omega) (by omega) ht'
          refine⟨va'',vb'',g,_,va'',vb'',G4 hn f _ (d+1) fr tl t' ht',rfl,rfl,rfl,?_⟩
          rw[hinv,hs,hb,e1];rfl
        have skip:∀(fr tl:bA),A5 (λc lo hi t=>below (Ax w) f c (d+1) lo hi t) (AU lo n.keys i.toNat) hi (n.keys.drop i.toNat) (n.kids.drop i.toNat) t'=A5 (λc lo hi t=>below (Ax w) f c (d+1) lo hi t) (AU lo n.keys (i.toNat+1)) hi (n.keys.drop (i.toNat+1)) (n.kids.drop (i.toNat+1)) (if t'.bad then t' else below (Ax w) f n.kids[i.toNat] (d+1) fr tl t') ->
            t'.bad=true->∃(t'':TS) (a c:Nat),TInv t''/\(va',vb',t'.he,t'.bad,())=(a,c,t''.he,t''.bad,())/\(va',Jn t'.ps)=(a,Jn t''.ps)/\(vb',il t'.bs)=(c,il t''.bs)/\below (Ax w) (f+1) b d lo hi t=A5 (λc lo hi t=>below (Ax w) f c (d+1) lo hi t) (AU lo n.keys (i+1).toNat) hi (n.keys.drop (i+1).toNat) (n.kids.drop (i+1).toNat) t'':=λfr tl hs hb=>by
          refine⟨t',va',vb',ht',rfl,rfl,rfl,?_⟩
          rw[hinv,hs,hb,e1];rfl
        refine⟨rfl,h0,_,D1 hik,_,rfl,Ab (λhp=>?_) (λhp=>?_)⟩
        ·have hi1:(i-1).toNat<n.keys.length:=by omega
         have ef:AU lo n.keys i.toNat=n.keys[(i-1).toNat]:=by rw[LA (by omega) (by omega)];congr 1;omega
         refine⟨rfl,by omega,_,A0 hi1,_,rfl,Ab (λhq=>?_) (λhq=>?_)⟩
         ·have hi2:i.toNat<n.keys.length:=by omega
          have hs:=Iw (f:=λc lo hi t=>below (Ax w) f c (d+1) lo hi t) (lo:=lo) (hi:=hi) (t:=t') hi2 hik;have hs':=hs;rw[show below (Ax w) f n.kids[i.toNat] (d+1) (AU lo n.keys i.toNat) n.keys[i.toNat] t'=below (Ax w) f n.kids[i.toNat] (d+1) n.keys[(i-1).toNat] n.keys[i.toNat] t' by rw[ef]]at hs;refine⟨rfl,h0,_,A0 hi2,_,rfl,Aa (λhb=>?_) (λhb=>?_)⟩;·obtain⟨va'',vb'',g,hx⟩:=tail _ _ hs (by simpa using hb);exact⟨_,_,_,_,_,_,_,_,g,rfl,rfl,rfl,rfl,rfl,rfl,rfl,rfl,rfl,⟨by omega,by omega,hx⟩,by first|omega|(dsimp only;omega)⟩
          ·have hx:=skip _ _ hs (by simpa using hb);exact⟨rfl,rfl,rfl,rfl,rfl,rfl,rfl,rfl,rfl,⟨by omega,by omega,hx⟩,by first|omega|(dsimp only;omega)⟩
         ·have hs:=NR (f:=λc lo hi t=>below (Ax w) f c (d+1) lo hi t) (lo:=lo) (hi:=hi) (ks:=n.keys) (cs:=n.kids) (t:=t') (i:=i.toNat) (by omega) (by omega);have hd2:n.kids.drop (i.toNat+1)=[]:=List.drop_of_length_le (by omega);rw[show below (Ax w) f n.kids[i.toNat] (d+1) (AU lo n.keys i.toNat) hi t'=below (Ax w) f n.kids[i.toNat] (d+1) n.keys[(i-1).toNat] hi t' by rw[ef]]at hs;have hs:_=A5 (λc lo hi t=>below (Ax w) f c (d+1) lo hi t) (AU lo n.keys (i.toNat+1)) hi (n.keys.drop (i.toNat+1)) (n.kids.drop (i.toNat+1)) _:=hs.trans (by rw[hd2,Hf]);refine Aa (λhb=>?_) (λhb=>?_);·obtain⟨va'',vb'',g,hx⟩:=tail _ _ hs (by simpa using hb);exact⟨_,_,_,_,_,_,_,_,g,rfl,rfl,rfl,rfl,rfl,rfl,rfl,rfl,rfl,⟨by omega,by omega,hx⟩,by first|omega|(dsimp only;omega)⟩
          ·have hx:=skip _ _ hs (by simpa using hb);exact⟨rfl,rfl,rfl,rfl,rfl,rfl,rfl,rfl,rfl,⟨by omega,by omega,hx⟩,by first|omega|(dsimp only;omega)⟩
        ·have hi2:i.toNat<n.keys.length:=by
          rcases hok.1.2.2 with⟨h,_⟩|⟨_,_,h,_⟩
          ·rw[hl]at h;cases h
          ·omega
         have ef:AU lo n.keys i.toNat=lo:=by rw[AU,if_pos (by omega)]
         have hs:=Iw (f:=λc lo hi t=>below (Ax w) f c (d+1) lo hi t) (lo:=lo) (hi:=hi) (t:=t') hi2 hik;rw[show below (Ax w) f n.kids[i.toNat] (d+1) (AU lo n.keys i.toNat) n.keys[i.toNat] t'=below (Ax w) f n.kids[i.toNat] (d+1) lo n.keys[i.toNat] t' by rw[ef]]at hs;refine Ab (λhq=>?_) (λhq=>by omega);refine⟨rfl,h0,_,A0 hi2,_,rfl,Aa (λhb=>?_) (λhb=>?_)⟩;·obtain⟨va'',vb'',g,hx⟩:=tail _ _ hs (by simpa using hb);exact⟨_,_,_,_,_,_,_,_,g,rfl,rfl,rfl,rfl,rfl,rfl,rfl,rfl,rfl,⟨by omega,by omega,hx⟩,by first|omega|(dsimp only;omega)⟩
         ·have hx:=skip _ _ hs (by simpa using hb);exact⟨rfl,rfl,rfl,rfl,rfl,rfl,rfl,rfl,rfl,⟨by omega,by omega,hx⟩,by first|omega|(dsimp only;omega)⟩
       ·have hd2:n.kids.drop i.toNat=[]:=List.drop_of_length_le (by omega);rw[hd2,Hf]at hinv;refine⟨rfl,va',vb',?_⟩;rw[hinv];rfl
  obtain⟨r,H',hr,rfl,va',vb',rfl⟩:=key;exact⟨va',vb',hr⟩
abbrev wdT:Mir.Ty := .st [.st [.sl .bool,.sl .bool],.sl .str,.int .i64,.int .i64]
def ABo (x:wdT.T):Wd:=match x with
 | ((a,b,_),p,r,g,_)=>⟨a,b,p,r,g⟩
theorem qU (x:wdT.T)(h:wdT.fit x):WFits (ABo x):=by
 obtain⟨⟨a,b,_⟩,p,r,g,_⟩:=x;obtain⟨⟨⟨h1,_⟩,⟨h2,_⟩,_⟩,⟨h3,h4⟩,_⟩:=h;have e:maxLen<=9223372036854775807:=by decide
 exact⟨by show((List.length a:Nat):Int)<=_;have:List.length a<=maxLen:=h1;omega,by show((List.length b:Nat):Int)<=_;have:List.length b<=maxLen:=h2;omega,by show((List.length p:Nat):Int)<=_;have:List.length p<=maxLen:=h3;omega,λs hs=>by have:ByteArray.size s<=maxLen:=h4 s hs;show((ByteArray.size s:Nat):Int)<=_;omega⟩
theorem KL:TInv Oy:=⟨by simp[Oy],by simp[Oy],by simp[Oy]⟩
theorem p22 (w:Wd)(hf:WFits w)(hn:w.now.length<=2048):∃va vb,Runs AG 22 [Dp w] [] (.ptr 2200101 0) (hT (AZ w) va vb):=by
 have key:∃r H',Runs AG 22 [Dp w] [] r H'/\r = .ptr 2200101 0/\∃va vb,H'=hT (AZ w) va vb:=by
  refine OK (R:=λr H'=>r = .ptr 2200101 0/\∃va vb,H'=hT (AZ w) va vb) (c:=c22) rfl rfl ?_;rw[Dp,wH,(vH _ _ _ _ _ _).down];refine Aa (λh=>?_) (λh=>⟨rfl,0,0,?_⟩)
  ·obtain⟨va,vb,g⟩:=p64 w hf hn 9 w.root 1 Ar Ar Oy 0 0 (by omega) (by omega) (by omega) KL;have e:below (Ax w) 9 w.root 1 Ar Ar Oy=AZ w:=by rw[AZ,if_neg (by simpa using h)]
   rw[e]at g;exact⟨_,_,_,_,_,_,_,_,g,rfl,va,vb,rfl⟩
  ·rw[AZ,if_pos (by simpa using h)];rfl
 obtain⟨r,H',hr,rfl,va,vb,rfl⟩:=key;exact⟨va,vb,hr⟩
theorem U9 {w:Wd}(hn:w.now.length<=2048):TInv (AZ w):=by
 unfold AZ;split;·exact KL
 ·exact G4 hn _ _ _ _ _ _ KL
theorem Ig {w:Wd}(h:WRight w):w.now.length<=2048:=h.1.2.2.1
structure SC where
 se:Int
 out:List Pr
 nx:bA
 full:Bool
 bad:Bool
def jP (out:List Pr)(key:bA):Bool:=match out.getLast? with
 | none=>true
 | some p=>lt p.1 key
def wP (fr:bA)(mo:Int)(s:SC)(p:Pr):SC:=
 if s.full=true\/lt p.1 fr=true then s
 else if jP s.out p.1=false then { s with bad:=true }
 else if (s.out.length:Int)=mo then { s with full:=true,nx:=p.1 }
 else { s with out:=s.out++[p] }
def oV (fr:bA)(mo:Int)(s:SC)(l:List Pr):SC:=l.foldl (wP fr mo) s
def Same (r s:SC):Prop:=r.out=s.out/\r.nx=s.nx/\r.full=s.full/\r.bad=s.bad
theorem Same.trans {a b c:SC}(h:Same a b)(g:Same b c):Same a c:=⟨h.1.trans g.1,h.2.1.trans g.2.1,h.2.2.1.trans g.2.2.1,h.2.2.2.trans g.2.2.2⟩
theorem Same.refl (a:SC):Same a a:=⟨rfl,rfl,rfl,rfl⟩
def Does (fr:bA)(mo:Int)(s r:SC)(P:List Pr)(n:Nat):Prop:=Same r (oV fr mo s P)/\s.se<=r.se/\r.se<=s.se+n
theorem gZ (n:Nd)(key:bA)(hfit:Bp n)(hs:Ay n)(hl:n.leaf=false):Runs AG 131 [CO n,aS key] [] (aI (VM n key:Nat)) []:=by
 have g:=AI7 n key hfit hs hl;have e:((CC n.keys key:Nat):Int)+(if Gd n.keys key then 1 else 0)=(VM n key:Nat):=by unfold VM;split<;>simp
 rw[e]at g;exact g
theorem p25 (a b:List Pr)(ha:Small a.length)(hb:Small b.length):Runs AG 25 [.o (.sl 2 (Jn a)),.o (.sl 2 (Jn b))] [] (aB (decide (a=b))) []:=by
 refine Ag (c:=c25) rfl rfl ?_;rw[ADK,(AEK _ _ _).down,Pg,Pg];refine Aa (λh=>?_) (λh=>?_);·rw[decide_eq_false];rintro rfl;simp at h
 have hl:a.length=b.length:=by
  have:(a.length:Int)=b.length:=by simpa using h
  omega
 refine⟨λi=>0<=i/\i<=a.length/\∀j:Nat,(j:Int)<i->a[j]?=b[j]?,λi=>(a.length-i).toNat,⟨rfl,by omega,by omega,λj hj=>by omega⟩,?_⟩;rintro i ⟨h0,h1,hok⟩ _;refine Ab (λhlt=>?_) (λhge=>?_)
 ·have hi:i.toNat<a.length:=by omega
  have hj:i.toNat<b.length:=by omega
  refine⟨rfl,h0,_,Zw hi,_,_,rfl,Nat.le_refl 2,rfl,h0,_,Zw hj,_,_,rfl,Nat.le_refl 2,?_⟩;rw[Dn,Dn];refine Aa (λhx=>?_) (λhx=>?_);·rw[decide_eq_false];rintro rfl;simp at hx
  ·have hx:a[i.toNat].1=b[i.toNat].1/\a[i.toNat].2=b[i.toNat].2:=by simpa using hx
   repeat (refine And.intro rfl ?_)
   rw[Ac _ (by omega)];refine⟨⟨by omega,by omega,λj hji=>?_⟩,by first|omega|(dsimp only;omega)⟩;by_cases e:(j:Int)<i;·exact hok j e
   ·obtain rfl:j=i.toNat:=by omega
    rw[gI hi,gI hj,Prod.ext hx.1 hx.2]
 ·rw[decide_eq_true];refine List.ext_getElem? λj=>?_;by_cases hj:j<a.length;·exact hok j (by omega)
  ·rw[List.getElem?_eq_none (by omega),List.getElem?_eq_none (by omega)]
end Go.Proofs.YtjmpnbbeplgchabGreatDoor.M
