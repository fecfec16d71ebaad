import Derived.Test.YtegndijbpiccgaaGreatDoorR5Txt
import Derived.Test.YtegndijbpiccgaaGreatDoorR5LV
namespace Go.Proofs.YtegndijbpiccgaaGreatDoor.M
set_option linter.unusedVariables false
set_option linter.unusedSimpArgs false
open Go Go.Mir
def bl:List UInt8->List UInt8->Bool:=Op.bytesLess
def lt (a b:bA):Bool:=Op.bytesLess a.toList b.toList
theorem Xw:∀a,bl a a=false
 | []=>rfl
 | x::r=>by show Op.bytesLess (x::r) (x::r)=false;simp only[Op.bytesLess];simpa[bl] using Xw r
theorem Ow (x y:UInt8)(r s:List UInt8):bl (x::r) (y::s)=(decide (x.toNat<y.toNat)||(decide (x.toNat=y.toNat)&&bl r s)):=by
 show Op.bytesLess (x::r) (y::s)=_;simp only[Op.bytesLess,bl];by_cases h1:x<y;·have:=UInt8.lt_iff_toNat_lt.1 h1;simp[h1,this]
 ·have h1':¬x.toNat<y.toNat:=λh=>h1 (UInt8.lt_iff_toNat_lt.2 h);by_cases h2:x=y;·subst h2;simp
  ·have h2':x.toNat≠y.toNat:=λh=>h2 (UInt8.toNat_inj.1 h);by_cases h3:y<x;·simp[h1,h1',h2',h3,h2]
   ·simp[h1,h1',h2',h3,h2]
theorem Rf:∀ {a b c:List UInt8},bl a b=true->bl b c=true->bl a c=true
 | [],[],_,h,_=>by cases h
 | [],_::_,[],_,h=>by cases h
 | [],_::_,_::_,_,_=>rfl
 | _::_,[],_,h,_=>by cases h
 | _::_,_::_,[],_,h=>by cases h
 | x::r,y::s,z::t,h1,h2=>by
  rw[Ow]at h1 h2 |-;simp only[Bool.or_eq_true,Bool.and_eq_true,decide_eq_true_eq]at h1 h2 |-;rcases h1 with h1|⟨h1,h1'⟩<;>rcases h2 with h2|⟨h2,h2'⟩
  ·exact .inl (by omega)
  ·exact .inl (by omega)
  ·exact .inl (by omega)
  ·exact .inr ⟨by omega,Rf h1' h2'⟩
theorem Yv:∀(a b:List UInt8),bl a b=true\/a=b\/bl b a=true
 | [],[] => .inr (.inl rfl)
 | [],_::_ => .inl rfl
 | _::_,[] => .inr (.inr rfl)
 | x::r,y::s=>by
  rw[Ow,Ow];simp only[Bool.or_eq_true,Bool.and_eq_true,decide_eq_true_eq];rcases Nat.lt_trichotomy x.toNat y.toNat with h|h|h;·exact .inl (.inl h)
  ·rcases Yv r s with h2|h2|h2;·exact .inl (.inr ⟨h,h2⟩)
   ·subst h2;rw[UInt8.toNat_inj.1 h];exact .inr (.inl rfl)
   ·exact .inr (.inr (.inr ⟨h.symm,h2⟩))
  ·exact .inr (.inr (.inl h))
theorem Cq (a:bA):lt a a=false:=Xw _
theorem AS {a b c:bA}(h1:lt a b=true)(h2:lt b c=true):lt a c=true:=Rf h1 h2
theorem V3 (a b:bA):lt a b=true\/a=b\/lt b a=true:=by
 rcases Yv a.toList b.toList with h|h|h;·exact .inl h
 ·refine .inr (.inl (AQ ?_));rw[<-DS,<-DS,h]
 ·exact .inr (.inr h)
theorem BT {a b:bA}(h:lt a b=true):lt b a=false:=by
 cases h2:lt b a with
 | false=>rfl
 | true=>have:=AS h h2;rw[Cq]at this;cases this
theorem QP {a b:bA}(h:lt a b=true):a≠b:=λe=>by subst e;rw[Cq]at h;cases h
theorem nlt_iff {a b:bA}:lt a b=false ↔ a=b\/lt b a=true:=by
 refine⟨λh=>?_,?_⟩
 ·rcases V3 a b with h2|h2|h2;·rw[h]at h2;cases h2
  ·exact .inl h2
  ·exact .inr h2
 ·rintro(rfl|h);·exact Cq _
  ·exact BT h
theorem GZ {a b c:bA}(h1:lt a b=true)(h2:lt c b=false):lt a c=true:=by
 rcases nlt_iff.1 h2 with rfl|h;·exact h1
 ·exact AS h1 h
theorem Pf {a b c:bA}(h1:lt b a=false)(h2:lt b c=true):lt a c=true:=by
 rcases nlt_iff.1 h1 with rfl|h;·exact h2
 ·exact AS h h2
theorem gW (a b:bA):((Go.Op.bytesLess (ByteArray.toList a) (ByteArray.toList b))||((ByteArray.toList a)==(ByteArray.toList b))) = !(lt b a):=by
 show(lt a b||(a.toList==b.toList)) = !(lt b a);rw[DJ];rcases V3 a b with h|h|h;·rw[h,BT h];rfl
 ·subst h;rw[Cq];simp
 ·rw[h,BT h,decide_eq_false (λe=>QP h e.symm)];rfl
structure Nd where
 leaf:Bool
 keys:List bA
 vals:List bA
 kids:List Int
def Gu:Nd:=⟨false,[],[],[]⟩
def il (l:List Int):List Mir.D:=l.map (.int .i64)
theorem Aw (l:List Int):(il l).length=l.length:=by simp[il]
theorem Eb {l:List Int}{i:Nat}(h:i<l.length):(il l)[i]?=some (.int .i64 l[i]):=by simp[il,h]
def CU (n:Nd):AV := .agg [aB n.leaf,aL (AG n.keys),aL (AG n.vals),aL (il n.kids)]
theorem Jr {a:Nat}{b:Int}(h:(((a:Nat):Int)==b)=true):(a:Int)=b:=by simpa using h
theorem Zo {a:Nat}{b:Int}(h:(((a:Nat):Int)==b)=false):(a:Int)≠b:=by simpa using h
theorem JL {α:Type}{l:List α}(h:(((l.length:Nat):Int)==0)=true):l=[]:=List.length_eq_zero_iff.1 (by have:=Jr h;omega)
abbrev Small (n:Nat):Prop:=(n:Int)<=9223372036854775807
theorem ACB (s:bA):Runs AD 112 [aS s] [] (aB (decide ((s.size:Int) > 4096))) []:=by refine An (c:=c112) rfl rfl ?_;rewrite[zB,(ABp _ _).down];rfl
theorem AFS (s:bA):Runs AD 218 [aS s] [] (aB (decide ((s.size:Int) > 200))) []:=by refine An (c:=c218) rfl rfl ?_;rw[ABA];rfl
theorem ADN (b:Int):Runs AD 220 [.n (.int .i64 b)] [] (.n (.bool (decide (b<10\/b>=2048)))) []:=by refine An (c:=c220) rfl rfl ?_;rw[vZ,zI];refine Ab (λh=>by rw[decide_eq_true (.inl h)]) (λh=>?_);congr 2;simp only[decide_eq_decide];omega
theorem Jq {α:Type}{l:List α}{p:α->Bool}{i:Int}(h0:0<=i)(h:¬i<l.length)(hi:∀(j:Nat) (h:j<l.length),(j:Int)<i->p l[j]=false):l.any p=false:=by refine List.any_eq_false.2 λx hx=>?_;obtain⟨j,hj,rfl⟩:=List.getElem_of_mem hx;rw[hi j hj (by omega)];simp
theorem Jy {α:Type}{l:List α}{p:α->Bool}{i:Nat}(h:i<l.length)(hp:p l[i]=true):l.any p=true:=List.any_eq_true.2 ⟨_,List.getElem_mem h,hp⟩
theorem Hc {α:Type}{l:List α}{p:α->Bool}{i:Int}(h0:0<=i)(hlt:i.toNat<l.length)(hp:p l[i.toNat]=false)(hi:∀(j:Nat) (h:j<l.length),(j:Int)<i->p l[j]=false):∀(j:Nat) (h:j<l.length),(j:Int)<i+1->p l[j]=false:=λj h hj=>by
 by_cases e:(j:Int)<i;·exact hi j h e
 ·obtain rfl:j=i.toNat:=by omega
  exact hp
theorem uO (l:List bA)(hl:Small l.length):∃r:Int,decide (r>=0)=l.any (λs=>decide ((s.size:Int) > 4096))/\Runs AD 146 [aL (AG l),.fn 112 []] [] (aI r) []:=by
 have key:∃r,Runs AD 146 [.o (.sl 1 (AG l)),.fn 112 []] [] r []/\∃k:Int,r = .n (.int .i64 k)/\decide (k>=0)=l.any (λs=>decide ((s.size:Int) > 4096)):=by
  refine F0 (R:=λr=>∃k:Int,r = .n (.int .i64 k)/\decide (k>=0)=l.any (λs=>decide ((s.size:Int) > 4096))) Ys rfl ?_;rw[iZ,(nE _ _).down,Am];refine⟨λi=>0<=i/\i<=l.length/\∀(j:Nat) (h:j<l.length),(j:Int)<i->decide ((l[j].size:Int) > 4096)=false,λi=>(l.length-i).toNat,⟨rfl,by omega,by omega,λj _ hj=>by omega⟩,?_⟩;rintro i ⟨h0,h1,hok⟩ _;refine Ab (λh=>?_) (λh=>⟨-1,rfl,?_⟩)
  ·have hi:i.toNat<l.length:=by omega
   refine⟨rfl,h0,_,AZ hi,_,rfl,_,ACB _,Aa (λhb=>⟨i,rfl,?_⟩) (λhb=>?_)⟩;·rw[decide_eq_true h0];exact(Jy (p:=λs:bA=>decide ((s.size:Int) > 4096)) hi hb).symm
   ·repeat (refine And.intro rfl ?_)
    rw[Ad _ (by omega)];exact⟨⟨by omega,by omega,Hc (p:=λs:bA=>decide ((s.size:Int) > 4096)) h0 hi hb hok⟩,by first|omega|(dsimp only;omega)⟩
  ·exact(Jq (p:=λs:bA=>decide ((s.size:Int) > 4096)) h0 h hok).symm
 obtain⟨r,hr,k,rfl,hk⟩:=key;exact⟨k,hk,hr⟩
theorem vK (l:List bA)(hl:Small l.length):Runs AD 111 [aL (AG l),.fn 112 []] [] (aB (l.any λs=>decide ((s.size:Int) > 4096))) []:=by refine An (c:=c111) rfl rfl ?_;rewrite[iA,(lU _ _).down];obtain⟨r,hr,h⟩:=uO l hl;exact⟨r,h,by rw[hr]⟩
theorem ABe (l:List bA)(hl:Small l.length):∃r:Int,decide (r>=0)=l.any (λs=>decide ((s.size:Int) > 200))/\Runs AD 146 [aL (AG l),.fn 218 []] [] (aI r) []:=by
 have key:∃r,Runs AD 146 [.o (.sl 1 (AG l)),.fn 218 []] [] r []/\∃k:Int,r = .n (.int .i64 k)/\decide (k>=0)=l.any (λs=>decide ((s.size:Int) > 200)):=by
  refine F0 (R:=λr=>∃k:Int,r = .n (.int .i64 k)/\decide (k>=0)=l.any (λs=>decide ((s.size:Int) > 200))) Ys rfl ?_;rw[jN,(qY _ _).down,Am];refine⟨λi=>0<=i/\i<=l.length/\∀(j:Nat) (h:j<l.length),(j:Int)<i->decide ((l[j].size:Int) > 200)=false,λi=>(l.length-i).toNat,⟨rfl,by omega,by omega,λj _ hj=>by omega⟩,?_⟩;rintro i ⟨h0,h1,hok⟩ _;refine Ab (λh=>?_) (λh=>⟨-1,rfl,?_⟩)
  ·have hi:i.toNat<l.length:=by omega
   refine⟨rfl,h0,_,AZ hi,_,rfl,_,AFS _,Aa (λhb=>⟨i,rfl,?_⟩) (λhb=>?_)⟩;·rw[decide_eq_true h0];exact(Jy (p:=λs:bA=>decide ((s.size:Int) > 200)) hi hb).symm
   ·repeat (refine And.intro rfl ?_)
    rw[Ad _ (by omega)];exact⟨⟨by omega,by omega,Hc (p:=λs:bA=>decide ((s.size:Int) > 200)) h0 hi hb hok⟩,by first|omega|(dsimp only;omega)⟩
  ·exact(Jq (p:=λs:bA=>decide ((s.size:Int) > 200)) h0 h hok).symm
 obtain⟨r,hr,k,rfl,hk⟩:=key;exact⟨k,hk,hr⟩
theorem zP (l:List bA)(hl:Small l.length):Runs AD 111 [aL (AG l),.fn 218 []] [] (aB (l.any λs=>decide ((s.size:Int) > 200))) []:=by refine An (c:=c111) rfl rfl ?_;rewrite[rF,(qT _ _).down];obtain⟨r,hr,h⟩:=ABe l hl;exact⟨r,h,by rw[hr]⟩
theorem yP (l:List Int)(hl:Small l.length):∃r:Int,decide (r>=0)=l.any (λb=>decide (b<10\/b>=2048))/\Runs AD 239 [aL (il l),.fn 220 []] [] (aI r) []:=by
 have key:∃r,Runs AD 239 [.o (.sl 1 (il l)),.fn 220 []] [] r []/\∃k:Int,r = .n (.int .i64 k)/\decide (k>=0)=l.any (λb=>decide (b<10\/b>=2048)):=by
  refine F0 (R:=λr=>∃k:Int,r = .n (.int .i64 k)/\decide (k>=0)=l.any (λb=>decide (b<10\/b>=2048))) (c:=c239) rfl rfl ?_;rw[iI,(rM _ _).down,Aw];refine⟨λi=>0<=i/\i<=l.length/\∀(j:Nat) (h:j<l.length),(j:Int)<i->decide (l[j]<10\/l[j]>=2048)=false,λi=>(l.length-i).toNat,⟨rfl,by omega,by omega,λj _ hj=>by omega⟩,?_⟩;rintro i ⟨h0,h1,hok⟩ _;refine Ab (λh=>?_) (λh=>⟨-1,rfl,?_⟩)
  ·have hi:i.toNat<l.length:=by omega
   refine⟨rfl,h0,_,Eb hi,_,rfl,_,ADN _,Aa (λhb=>⟨i,rfl,?_⟩) (λhb=>?_)⟩;·rw[decide_eq_true h0];exact(Jy (p:=λb:Int=>decide (b<10\/b>=2048)) hi hb).symm
   ·repeat (refine And.intro rfl ?_)
    rw[Ad _ (by omega)];exact⟨⟨by omega,by omega,Hc (p:=λb:Int=>decide (b<10\/b>=2048)) h0 hi hb hok⟩,by first|omega|(dsimp only;omega)⟩
  ·exact(Jq (p:=λb:Int=>decide (b<10\/b>=2048)) h0 h hok).symm
 obtain⟨r,hr,k,rfl,hk⟩:=key;exact⟨k,hk,hr⟩
theorem AAZ (l:List Int)(hl:Small l.length):Runs AD 219 [aL (il l),.fn 220 []] [] (aB (l.any λb=>decide (b<10\/b>=2048))) []:=by refine An (c:=c219) rfl rfl ?_;rewrite[nV,(rK _ _).down];obtain⟨r,hr,h⟩:=yP l hl;exact⟨r,h,by rw[hr]⟩
def rY (l:List bA)(i:Nat):Prop:=∀(j:Nat) (h:j<l.length),j<i->1<=l[j].size/\l[j].size<=32/\(∀(h2:0<j),lt (l[j-1]'(by omega)) l[j]=true)
def NC (l:List bA):Prop:=rY l l.length
def Au (n:Nd):Prop:=n.keys.length<=9/\NC n.keys /\
 ((n.leaf=true/\n.kids=[]/\n.vals.length=n.keys.length/\∀v∈n.vals,v.size<=200) \/
  n.leaf=false/\n.vals=[]/\1<=n.keys.length/\n.kids.length=n.keys.length+1/\∀b∈n.kids,10<=b/\b<2048)
noncomputable instance (n:Nd):Decidable (Au n):=Classical.propDecidable _
def NdOK (n:Nd)(root:Bool):Prop:=Au n/\n.keys.length<=8/\(root=true\/4<=n.keys.length)
noncomputable instance (n:Nd) (root:Bool):Decidable (NdOK n root):=Classical.propDecidable _
theorem Dh {n:Nd}(h:¬Au n):AV.n (D.bool false) = aB (decide (Au n)):=by rw[decide_eq_false h]
theorem QG (l:List bA):rY l 0:=λj _ h=>by omega
theorem I3 {l:List bA}{i:Nat}(h:rY l i)(hi:i<l.length)(h1:1<=l[i].size)(h2:l[i].size<=32)(h3:∀(h0:0<i),lt (l[i-1]'(by omega)) l[i]=true):rY l (i+1):=λj hj hji=>by
 by_cases e:j=i;·subst e;exact⟨h1,h2,h3⟩
 ·exact h j hj (by omega)
theorem TY {l:List bA}{i:Nat}(hi:i<l.length)(h:¬(1<=l[i].size/\l[i].size<=32/\(∀(h0:0<i),lt (l[i-1]'(by omega)) l[i]=true))):¬NC l:=λhk=>h (hk i hi hi)
def Bt (n:Nd):Prop:=Small n.keys.length/\Small n.vals.length/\Small n.kids.length
theorem R8 (n:Nd)(hf:Bt n):Runs AD 197 [CU n] [] (.n (.bool (decide (Au n)))) []:=by
 obtain⟨f1,f2,f3⟩:=hf;refine An (c:=c197) rfl rfl ?_;rw[CU,sW,(ACh _ _ _ _ _).down,Am,Am,Aw];refine Ab (λh=>Dh (by unfold Au;omega)) (λh9=>?_);refine⟨λi=>0<=i/\i<=n.keys.length/\rY n.keys i.toNat,λi=>(n.keys.length-i).toNat,⟨rfl,by omega,by omega,QG _⟩,?_⟩;rintro i ⟨h0,h1,hk⟩ _;refine Ab (λhlt=>?_) (λhge=>?_)
 ·have hi:i.toNat<n.keys.length:=by omega
  have bad:¬(1<=n.keys[i.toNat].size/\n.keys[i.toNat].size<=32/\(∀(h0:0<i.toNat),lt (n.keys[i.toNat-1]'(by omega)) n.keys[i.toNat]=true))->¬Au n:=λh hs=>TY hi h hs.2.1;have e1:(i+1).toNat=i.toNat+1:=by omega
  refine⟨rfl,h0,_,AZ hi,_,rfl,Ab (λh=>Dh (bad (by omega))) (λha=>Ab (λh=>Dh (bad (by omega))) (λhb=>Ab (λhp=>?_) (λhp=>?_)))⟩
  ·have hj:(w6 (i-1)).toNat=i.toNat-1:=by rw[Ad _ (by omega)];omega
   have hj':i.toNat-1<n.keys.length:=by omega
   refine⟨rfl,by rw[Ad _ (by omega)];omega,_,by rw[hj];exact AZ hj',_,rfl,?_⟩;rw[gW];refine Aa (λhc=>Dh (bad λh=>?_)) (λhc=>?_);·rw[h.2.2 (by omega)]at hc;cases hc
   ·repeat (refine And.intro rfl ?_)
    rw[Ad _ (by omega)];refine⟨⟨by omega,by omega,?_⟩,by first|omega|(dsimp only;omega)⟩;rw[e1];exact I3 hk hi (by omega) (by omega) λ_=>by simpa using hc
  ·repeat (refine And.intro rfl ?_)
   rw[Ad _ (by omega)];refine⟨⟨by omega,by omega,?_⟩,by first|omega|(dsimp only;omega)⟩;rw[e1];exact I3 hk hi (by omega) (by omega) λh=>by omega
 ·rw[show i.toNat=n.keys.length by omega]at hk;refine Aa (λhl=>?_) (λhl=>?_)
  ·refine Aa (λh=>?_) (λh=>Dh λhs=>?_)
   ·have hz:n.kids=[]:=JL h;refine Aa (λh=>?_) (λh=>Dh λhs=>?_)
    ·have hv:n.vals.length=n.keys.length:=by have:=Jr h;omega
     refine⟨_,zP n.vals f2,?_⟩;congr 2;refine(Bool.eq_iff_iff.2 ⟨λh=>?_,λh=>?_⟩)
     ·refine decide_eq_true ⟨by omega,hk,.inl ⟨hl,hz,hv,λv hm=>?_⟩⟩;have h2:(n.vals.any λs=>decide ((s.size:Int) > 200))=false:=by simpa using h
      have:=List.any_eq_false.1 h2 v hm;have:¬(v.size:Int) > 200:=by simpa using this
      omega
     ·have hs:=of_decide_eq_true h;rcases hs.2.2 with⟨_,_,_,hv2⟩|⟨h2,_⟩
      ·have:(n.vals.any λs=>decide ((s.size:Int) > 200))=false:=List.any_eq_false.2 λv hm=>by have:=hv2 v hm;simp;omega
       rw[this];rfl
      ·rw[hl]at h2;cases h2
    ·have hv:(n.vals.length:Int)≠n.keys.length:=by simpa using h
     rcases hs.2.2 with⟨_,_,h3,_⟩|⟨h2,_⟩
     ·omega
     ·rw[hl]at h2;cases h2
   ·have hv:(n.kids.length:Int)≠0:=by simpa using h
    rcases hs.2.2 with⟨_,h3,_⟩|⟨h2,_⟩
    ·rw[h3]at hv;exact hv rfl
    ·rw[hl]at h2;cases h2
  ·refine Aa (λh=>?_) (λh=>Dh λhs=>?_)
   ·have hz:n.vals=[]:=JL h;refine Ab (λh1=>?_) (λh1=>Dh λhs=>?_)
    ·rw[Ad _ (by omega)];refine Aa (λh=>?_) (λh=>Dh λhs=>?_)
     ·have hv:n.kids.length=n.keys.length+1:=by have:=Jr h;omega
      refine⟨_,AAZ n.kids f3,?_⟩;congr 2;refine(Bool.eq_iff_iff.2 ⟨λh=>?_,λh=>?_⟩)
      ·refine decide_eq_true ⟨by omega,hk,.inr ⟨hl,hz,by omega,hv,λb hm=>?_⟩⟩;have h2:(n.kids.any λb=>decide (b<10\/b>=2048))=false:=by simpa using h
       have:=List.any_eq_false.1 h2 b hm;have:¬(b<10\/b>=2048):=by simpa using this
       omega
      ·have hs:=of_decide_eq_true h;rcases hs.2.2 with⟨h2,_⟩|⟨_,_,_,_,hv2⟩
       ·rw[hl]at h2;cases h2
       ·have:(n.kids.any λb=>decide (b<10\/b>=2048))=false:=List.any_eq_false.2 λb hm=>by have:=hv2 b hm;simp;omega
        rw[this];rfl
     ·have hv:(n.kids.length:Int)≠n.keys.length+1:=by simpa using h
      rcases hs.2.2 with⟨h2,_⟩|⟨_,_,_,h3,_⟩
      ·rw[hl]at h2;cases h2
      ·omega
    ·rcases hs.2.2 with⟨h2,_⟩|⟨_,_,h3,_,_⟩
     ·rw[hl]at h2;cases h2
     ·omega
   ·have hv:(n.vals.length:Int)≠0:=by simpa using h
    rcases hs.2.2 with⟨h2,_⟩|⟨_,h3,_⟩
    ·rw[hl]at h2;cases h2
    ·rw[h3]at hv;exact hv rfl
theorem ADm (n:Nd)(hf:Bt n):Runs AD 185 [CU n] [] (.n (.bool (decide (Au n)))) []:=by
 obtain⟨f1,f2,f3⟩:=hf;refine An (c:=c185) rfl rfl ?_;rw[CU,tV,(AAL _ _ _ _ _).down,Am,Am,Aw];refine Ab (λh=>Dh (by unfold Au;omega)) (λh9=>?_);refine⟨λi=>0<=i/\i<=n.keys.length/\rY n.keys i.toNat,λi=>(n.keys.length-i).toNat,⟨rfl,by omega,by omega,QG _⟩,?_⟩;rintro i ⟨h0,h1,hk⟩ _;refine Ab (λhlt=>?_) (λhge=>?_)
 ·have hi:i.toNat<n.keys.length:=by omega
  have bad:¬(1<=n.keys[i.toNat].size/\n.keys[i.toNat].size<=32/\(∀(h0:0<i.toNat),lt (n.keys[i.toNat-1]'(by omega)) n.keys[i.toNat]=true))->¬Au n:=λh hs=>TY hi h hs.2.1;have e1:(i+1).toNat=i.toNat+1:=by omega
  refine⟨rfl,h0,_,AZ hi,_,rfl,Ab (λh=>Dh (bad (by omega))) (λha=>Ab (λh=>Dh (bad (by omega))) (λhb=>Ab (λhp=>?_) (λhp=>?_)))⟩
  ·have hj:(w6 (i-1)).toNat=i.toNat-1:=by rw[Ad _ (by omega)];omega
   have hj':i.toNat-1<n.keys.length:=by omega
   refine⟨rfl,by rw[Ad _ (by omega)];omega,_,by rw[hj];exact AZ hj',_,rfl,?_⟩;rw[gW];refine Aa (λhc=>Dh (bad λh=>?_)) (λhc=>?_);·rw[h.2.2 (by omega)]at hc;cases hc
   ·repeat (refine And.intro rfl ?_)
    rw[Ad _ (by omega)];refine⟨⟨by omega,by omega,?_⟩,by first|omega|(dsimp only;omega)⟩;rw[e1];exact I3 hk hi (by omega) (by omega) λ_=>by simpa using hc
  ·repeat (refine And.intro rfl ?_)
   rw[Ad _ (by omega)];refine⟨⟨by omega,by omega,?_⟩,by first|omega|(dsimp only;omega)⟩;rw[e1];exact I3 hk hi (by omega) (by omega) λh=>by omega
 ·rw[show i.toNat=n.keys.length by omega]at hk;refine⟨λi=>0<=i/\i<=n.vals.length/\∀(j:Nat) (h:j<n.vals.length),(j:Int)<i->n.vals[j].size<=200,λi=>(n.vals.length-i).toNat,⟨rfl,by omega,by omega,λj _ h=>by omega⟩,?_⟩;rintro i ⟨h0,h1,hv⟩ _;refine Ab (λhlt=>?_) (λhge=>?_)
  ·have hi:i.toNat<n.vals.length:=by omega
   refine⟨rfl,h0,_,AZ hi,_,rfl,Ab (λh=>Dh λhs=>?_) (λh=>?_)⟩
   ·rcases hs.2.2 with⟨_,_,_,h3⟩|⟨_,h3,_⟩
    ·have:=h3 _ (List.getElem_mem hi);omega
    ·rw[h3]at hi;simp at hi
   ·repeat (refine And.intro rfl ?_)
    rw[Ad _ (by omega)];refine⟨⟨by omega,by omega,λj hj hji=>?_⟩,by first|omega|(dsimp only;omega)⟩;by_cases e:(j:Int)<i;·exact hv j hj e
    ·obtain rfl:j=i.toNat:=by omega
     omega
  ·have hv':∀v∈n.vals,v.size<=200:=λv hm=>by obtain⟨j,hj,rfl⟩:=List.getElem_of_mem hm;exact hv j hj (by omega)
   refine⟨λi=>0<=i/\i<=n.kids.length/\∀(j:Nat) (h:j<n.kids.length),(j:Int)<i->10<=n.kids[j]/\n.kids[j]<2048,λi=>(n.kids.length-i).toNat,⟨rfl,by omega,by omega,λj _ h=>by omega⟩,?_⟩;rintro i ⟨h0,h1,hb⟩ _;have kb:∀(hi:i.toNat<n.kids.length),¬(10<=n.kids[i.toNat]/\n.kids[i.toNat]<2048)->¬Au n:=λhi h hs=>by
    rcases hs.2.2 with⟨_,h3,_⟩|⟨_,_,_,_,h3⟩
    ·rw[h3]at hi;simp at hi
    ·exact h (h3 _ (List.getElem_mem hi))
   refine Ab (λhlt=>?_) (λhge=>?_)
   ·have hi:i.toNat<n.kids.length:=by omega
    refine⟨rfl,h0,_,Eb hi,_,rfl,Ab (λh=>Dh (kb hi (by omega))) (λh=>Ab (λh2=>Dh (kb hi (by omega))) (λh2=>?_))⟩;repeat (refine And.intro rfl ?_)
    rw[Ad _ (by omega)];refine⟨⟨by omega,by omega,λj hj hji=>?_⟩,by first|omega|(dsimp only;omega)⟩;by_cases e:(j:Int)<i;·exact hb j hj e
    ·obtain rfl:j=i.toNat:=by omega
     omega
   ·have hb':∀b∈n.kids,10<=b/\b<2048:=λb hm=>by obtain⟨j,hj,rfl⟩:=List.getElem_of_mem hm;exact hb j hj (by omega)
    have other:∀ {a:Bool},n.leaf=a->∀ {x:Bool},n.leaf=x->x=a:=λh _ h2=>h2▸h;refine Aa (λhl=>?_) (λhl=>?_)
    ·refine Aa (λh=>?_) (λh=>Dh λhs=>?_)
     ·have e:=Jr h;congr 2;refine Bool.eq_iff_iff.2 ⟨λh=>decide_eq_true ⟨by omega,hk,.inl ⟨hl,JL h,by omega,hv'⟩⟩,λh=>?_⟩;rcases(of_decide_eq_true h).2.2 with⟨_,h3,_⟩|⟨h3,_⟩
      ·rw[h3];rfl
      ·rw[hl]at h3;cases h3
     ·have e:=Zo h;rcases hs.2.2 with⟨_,_,h3,_⟩|⟨h3,_⟩
      ·omega
      ·rw[hl]at h3;cases h3
    ·refine Aa (λh=>Ab (λh1=>?_) (λh1=>Dh λhs=>?_)) (λh=>Dh λhs=>?_)
     ·rw[Ad _ (by omega)];congr 2;refine Bool.eq_iff_iff.2 ⟨λh2=>?_,λh2=>?_⟩;·have e:=Jr h2;exact decide_eq_true ⟨by omega,hk,.inr ⟨hl,JL h,by omega,by omega,hb'⟩⟩
      ·rcases(of_decide_eq_true h2).2.2 with⟨h3,_⟩|⟨_,_,_,h3,_⟩
       ·rw[hl]at h3;cases h3
       ·rw[h3];simp
     ·rcases hs.2.2 with⟨h3,_⟩|⟨_,_,h3,_⟩
      ·rw[hl]at h3;cases h3
      ·omega
     ·have e:=Zo h;rcases hs.2.2 with⟨h3,_⟩|⟨_,h3,_⟩
      ·rw[hl]at h3;cases h3
      ·rw[h3]at e;exact e rfl
theorem VS (n:Nd)(root:Bool)(hf:Bt n):Runs AD 195 [CU n,.n (.bool root)] [] (.n (.bool (decide (NdOK n root)))) []:=by
 have no:¬NdOK n root->AV.n (D.bool false) = .n (.bool (decide (NdOK n root))):=λh=>by rw[decide_eq_false h]
 refine An (c:=c195) rfl rfl ?_;rw[CU,zT,(AB9 _ _ _ _ _ _).down,Am];refine⟨_,R8 n hf,?_⟩;by_cases hs:Au n
 ·rw[decide_eq_true hs];refine Aa (λ_=>Ab (λh8=>Aa (λhr=>?_) (λhr=>?_)) (λh8=>no (by unfold NdOK;omega))) (λh=>by cases h);·rw[decide_eq_true (p:=NdOK n root) ⟨hs,by omega,.inl hr⟩]
  ·congr 2;simp only[decide_eq_decide];exact⟨λh=>⟨hs,by omega,.inr (by omega)⟩,λh=>by
    rcases h.2.2 with h2|h2;·rw[hr]at h2;cases h2
    ·omega⟩
 ·rw[decide_eq_false hs];exact Aa (λh=>by cases h) (λ_=>no λh=>hs h.1)
theorem WR (n:Nd)(root:Bool)(hf:Bt n):Runs AD 154 [CU n,.n (.bool root)] [] (.n (.bool (decide (NdOK n root)))) []:=by
 have no:¬NdOK n root->AV.n (D.bool false) = .n (.bool (decide (NdOK n root))):=λh=>by rw[decide_eq_false h]
 refine An (c:=c154) rfl rfl ?_;rw[CU,AAO,(AAs _ _ _ _ _ _).down,Am];refine⟨_,ADm n hf,?_⟩;by_cases hs:Au n
 ·rw[decide_eq_true hs];refine Aa (λ_=>Ab (λh8=>Aa (λhr=>?_) (λhr=>?_)) (λh8=>no (by unfold NdOK;omega))) (λh=>by cases h);·rw[decide_eq_true (p:=NdOK n root) ⟨hs,by omega,.inl hr⟩]
  ·congr 2;simp only[decide_eq_decide];exact⟨λh=>⟨hs,by omega,.inr (by omega)⟩,λh=>by
    rcases h.2.2 with h2|h2;·rw[hr]at h2;cases h2
    ·omega⟩
 ·rw[decide_eq_false hs];exact Aa (λh=>by cases h) (λ_=>no λh=>hs h.1)
def hS (l:List bA)(x:bA):Heap:=[(19800000,.box [aL (AG l)]),(19800001,.box [aS x])]
theorem AFP (l:List bA)(x:bA)(i:Int)(h0:0<=i)(hi:i.toNat<l.length):Runs AD 222 [aI i,.ptr 19800000 0,.ptr 19800001 0] (hS l x) (aB (!(lt l[i.toNat] x))) (hS l x):=by refine Ca (c:=c222) rfl rfl (by kernel_rfl) ?_;rewrite[hS,kJ,(mX _ _ _ _).down];exact⟨rfl,h0,_,AZ hi,_,rfl,rfl,rfl⟩
def HT (l:List bA)(x:bA)(k:Nat):Prop:=k<=l.length/\(∀(j:Nat) (h:j<l.length),j<k->lt l[j] x=true)/\∀(h:k<l.length),lt l[k] x=false
theorem WC (a b:Int)(h0:0<=a)(h1:a<b)(h2:b<=4611686018427387904):w6 (Int.fdiv (IntKind.wrap .u64 (w6 (a+b))) (2 ^ (Min.min (Int.toNat 1) (IntKind.bits .u64))))=(a+b) / 2:=by rw[Ad (a+b) (by omega),kK (a+b) (by omega)];rw[show(2:Int) ^ (Min.min (Int.toNat 1) (IntKind.bits .u64))=2 by decide,Int.fdiv_eq_ediv_of_nonneg _ (by omega),Ad _ (by omega)]
theorem Lc {l:List bA}(h:NC l):∀(i j:Nat) (hi:i<l.length) (hj:j<l.length),i<j->lt l[i] l[j]=true:=by
 intro i j hi hj hij
 induction j with
 | zero=>omega
 | succ j ih=>
  have h1:=(h (j+1) hj hj).2.2 (by omega);have e:j+1-1=j:=by omega
  simp only[e]at h1;by_cases hc:i=j;·subst hc;exact h1
  ·exact AS (ih (by omega) (by omega)) h1
theorem AFD (l:List bA)(x:bA)(hk:NC l)(hl:l.length<=2048):∃k:Nat,HT l x k/\Runs AD 221 [aI l.length,.fn 222 [.ptr 19800000 0,.ptr 19800001 0]] (hS l x) (aI k) (hS l x):=by
 have key:∃r H',Runs AD 221 [.n (.int .i64 l.length),.fn 222 [.ptr 19800000 0,.ptr 19800001 0]] (hS l x) r H'/\∃k:Nat,r = .n (.int .i64 k)/\H'=hS l x/\HT l x k:=by
  refine DH (R:=λr H'=>∃k:Nat,r = .n (.int .i64 k)/\H'=hS l x/\HT l x k) uN rfl (by kernel_rfl) ?_;rewrite[hS,qD,(iW _ _ _ _).down];refine⟨λa b=>0<=a/\a<=b/\b<=l.length/\(∀(j:Nat) (h:j<l.length),(j:Int)<a->lt l[j] x=true)/\∀(j:Nat) (h:j<l.length),b<=(j:Int)->lt l[j] x=false,λa b=>(b-a).toNat,⟨rfl,by omega,by omega,by omega,λj h hj=>by omega,λj h hj=>by omega⟩,?_⟩;rintro a b ⟨h0,h1,h2,h3,h4⟩ _;refine Ab (λhlt=>?_) (λhge=>?_)
  ·rw[WC a b h0 hlt (by omega)];have hm:((a+b) / 2).toNat<l.length:=by omega
   refine⟨by decide,_,AFP l x _ (by omega) hm,Aa (λhc=>?_) (λhc=>?_)⟩
   ·have hc:lt l[((a+b) / 2).toNat] x=true:=by simpa using hc
    repeat (refine And.intro rfl ?_)
    rw[Ad _ (by omega)];refine⟨⟨by omega,by omega,by omega,λj hj hja=>?_,h4⟩,by first|omega|(dsimp only;omega)⟩;by_cases e:j=((a+b) / 2).toNat;·subst e;exact hc
    ·exact AS (Lc hk j _ hj hm (by omega)) hc
   ·have hc:lt l[((a+b) / 2).toNat] x=false:=by simpa using hc
    repeat (refine And.intro rfl ?_)
    refine⟨⟨by omega,by omega,by omega,h3,λj hj hja=>?_⟩,by first|omega|(dsimp only;omega)⟩;by_cases e:j=((a+b) / 2).toNat;·subst e;exact hc
    ·cases hq:lt l[j] x with
     | false=>rfl
     | true=> have:=AS (Lc hk _ j hm hj (by omega)) hq;rw[hc]at this;cases this
  ·refine⟨a.toNat,by rw[show((a.toNat:Nat):Int)=a by omega],rfl,by omega,λj hj hja=>h3 j hj (by omega),λh=>h4 a.toNat h (by omega)⟩
 obtain⟨r,H',hr,k,rfl,rfl,hk'⟩:=key;exact⟨k,hk',hr⟩
theorem ADI (l:List bA)(x:bA)(hk:NC l)(hl:l.length<=2048):∃k:Nat,HT l x k/\Runs AD 198 [aL (AG l),aS x] [] (aI k) []:=by obtain⟨k,hs,h⟩:=AFD l x hk hl;refine⟨k,hs,?_⟩;refine An (c:=c198) rfl rfl ?_;rw[AAr,tJ,Am];exact⟨_,h,rfl⟩
theorem WO {l:List bA}{x:bA}{k j:Nat}(hk:HT l x k)(hj:HT l x j):k=j:=by
 rcases Nat.lt_trichotomy k j with h|h|h;·have h1:=hk.2.2 (by have:=hj.1;omega);rw[hj.2.1 k (by have:=hj.1;omega) h]at h1;cases h1
 ·exact h
 ·have h1:=hj.2.2 (by have:=hk.1;omega);rw[hk.2.1 j (by have:=hk.1;omega) h]at h1;cases h1
def AL:List bA->bA->Nat
 | [],_=>0
 | k::r,x=>if lt k x then AL r x+1 else 0
theorem EU:∀(l:List bA) (x:bA),AL l x<=l.length
 | [],_=>Nat.le_refl _
 | k::r,x=>by
  unfold AL;split;·have:=EU r x;simp;omega
  ·omega
theorem Ku:∀(l:List bA) (x:bA),HT l x (AL l x)
 | [],x=>⟨Nat.le_refl _,λj h=>by simp at h,λh=>by simp at h⟩
 | k::r,x=>by
  obtain⟨h1,h2,h3⟩:=Ku r x;refine⟨EU _ _,λj hj hjk=>?_,λh=>?_⟩
  ·unfold AL at hjk;split at hjk
   ·rename_i hk
    cases j with
    | zero=>exact hk
    | succ j=>exact h2 j (by simpa using hj) (by omega)
   ·omega
  ·by_cases hk:lt k x=true
   ·have e:AL (k::r) x=AL r x+1:=by rw[AL,if_pos hk]
    simp only[e]at h |-;exact h3 (by simpa using h)
   ·have e:AL (k::r) x=0:=by rw[AL,if_neg hk]
    simp only[e];simpa using hk
def Dd (l:List bA)(x:bA):Bool:=decide (l[AL l x]?=some x)
theorem lC (n:Nd)(x:bA)(hf:Bt n)(hs:Au n):Runs AD 176 [CU n,aS x] [] (.tup [aI (AL n.keys x),aB (Dd n.keys x)]) []:=by
 obtain⟨k,hk,g⟩:=ADI n.keys x hs.2.1 (by have:=hs.1;omega);obtain rfl:=WO hk (Ku n.keys x);have g1:=R8 n hf;rw[decide_eq_true hs]at g1;refine An (c:=c176) rfl rfl ?_;rw[CU,AB5,(vL _ _ _ _ _ _).down,Am];refine⟨_,g1,Aa (λh=>by cases h) (λ_=>⟨_,g,Ab (λh=>?_) (λh=>?_)⟩)⟩
 ·have hi:AL n.keys x<n.keys.length:=by omega
  refine⟨rfl,by omega,_,AZ hi,_,rfl,?_⟩;rw[DJ,Dd,gI hi];simp only[oI]
 ·rw[Dd,List.getElem?_eq_none (by omega),decide_eq_false (by simp)]
theorem ADz (n:Nd)(x:bA)(hf:Bt n)(hs:Au n)(hl:n.leaf=false):Runs AD 179 [CU n,aS x] [] (aI ((AL n.keys x:Int)+if Dd n.keys x then 1 else 0)) []:=by
 refine An (c:=c179) rfl rfl ?_;rw[CU,ABo,(AB1 _ _ _ _ _ _).down];refine Aa (λh=>by rw[hl]at h;cases h) (λ_=>?_);have:=EU n.keys x;have h9:=hs.1;refine⟨_,_,lC n x hf hs,Aa (λh=>?_) (λh=>?_)⟩;·rw[Ad _ (by omega),if_pos h]
 ·rw[if_neg (by rw[h];simp),Int.add_zero]
def X9 (s:bA)(n e k:Int):Int×Int×Int:=if e≠0 then (0,n,e) else gT s n k
def sJ (s:bA)(n e:Int):Heap:=[(21700302,.box [aS s,aI n,aI e])]
theorem dK (s:bA)(hs:Small s.size)(n e k:Int):Runs AD 237 [.ptr 21700302 0,aI k] (sJ s n e) (aI (X9 s n e k).1) (sJ s (X9 s n e k).2.1 (X9 s n e k).2.2):=by
 refine D8 uT rfl (by kernel_rfl) ?_;rewrite[sJ,lD,(jX _ _ _ _ _).down];refine Aa (λh=>?_) (λh=>?_);·rw[X9,if_pos (by simpa using h)];exact⟨rfl,rfl⟩
 ·rw[X9,if_neg (by simpa using h)];have g:=(SP s hs n k).up E4;rw[Qb]at g;exact⟨_,_,_,g,rfl,rfl⟩
theorem oT (s:bA)(hs:Small s.size)(n e:Int):Runs AD 238 [.ptr 21700302 0] (sJ s n e) (aS (tx s n e).1) (sJ s (tx s n e).2.1 (tx s n e).2.2):=by
 refine D8 ABJ rfl (by kernel_rfl) ?_;rewrite[sJ,oV,(lQ _ _ _ _).down];refine Aa (λh=>?_) (λh=>?_);·rw[tx,if_pos (by simpa using h)];exact⟨rfl,rfl⟩
 ·rw[tx,if_neg (by simpa using h)];have g:=(AF1 s hs n).up E4;rw[Tl]at g;exact⟨_,_,_,g,rfl,rfl⟩
def FB (s:bA):Nat->Int->List bA->List bA->Sum Int (List bA×List bA×Int)
 | 0,a,ks,vs => .inr (ks,vs,a)
 | m+1,a,ks,vs=>
   if (cT s a).2.2≠0 then .inl (cT s a).2.2
   else if (cT s (cT s a).2.1).2.2≠0 then .inl (cT s (cT s a).2.1).2.2
   else FB s m (cT s (cT s a).2.1).2.1 (ks++[(cT s a).1]) (vs++[(cT s (cT s a).2.1).1])
def Fk (s:bA):Nat->Int->List Int->List bA->Sum Int (List Int×List bA×Int)
 | 0,a,bs,ks => .inr (bs,ks,a)
 | m+1,a,bs,ks=>
   if (gT s a 2).2.2≠0 then .inl (gT s a 2).2.2
   else if (cT s (gT s a 2).2.1).2.2≠0 then .inl (cT s (gT s a 2).2.1).2.2
   else Fk s m (cT s (gT s a 2).2.1).2.1 (bs++[(gT s a 2).1]) (ks++[(cT s (gT s a 2).2.1).1])
noncomputable def CM (s:bA)(n:Nd)(a:Int):Nd×Int:=if a≠s.size\/¬NdOK n true then (Gu,4) else (n,0)
noncomputable def Ee (s:bA)(leaf:Bool)(m:Nat)(a:Int)(ks vs:List bA)(bs:List Int):Nd×Int:=
 if leaf then match FB s m a ks vs with
  | .inl e=>(Gu,e)
  | .inr (ks,vs,a)=>CM s ⟨true,ks,vs,bs⟩ a
 else match Fk s m a bs ks with
  | .inl e=>(Gu,e)
  | .inr (bs,ks,a)=>if (gT s a 2).2.2≠0 then (Gu,(gT s a 2).2.2) else CM s ⟨false,ks,vs,bs++[(gT s a 2).1]⟩ (gT s a 2).2.1
noncomputable def Bh (kind:Int)(s:bA):Nd×Int:=
 if kind≠1/\kind≠2 then (Gu,81)
 else if (gT s 0 1).2.2≠0 then (Gu,(gT s 0 1).2.2)
 else Ee s (kind==1) (gT s 0 1).1.toNat (gT s 0 1).2.1 [] [] []
def ACP (x:Nd×Int):AV := .tup [CU x.1,aI x.2]
def ndN (n:Nd):AV := .agg [aB n.leaf,.n (.sl 1 (AG n.keys)),.n (.sl 1 (AG n.vals)),.n (.sl 1 (il n.kids))]
def tK (x:Nd×Int):AV := .tup [ndN x.1,aI x.2]
theorem AAz {s:bA}{m:Nat}{a:Int}{ks vs:List bA}(h:(cT s a).2.2≠0):FB s (m+1) a ks vs = .inl (cT s a).2.2:=by rw[FB,if_pos h]
theorem AA4 {s:bA}{m:Nat}{a:Int}{ks vs:List bA}(h:(cT s a).2.2=0)(h2:(cT s (cT s a).2.1).2.2≠0):FB s (m+1) a ks vs = .inl (cT s (cT s a).2.1).2.2:=by rw[FB,if_neg (by rw[h];simp),if_pos h2]
theorem V5 {s:bA}{m:Nat}{a:Int}{ks vs:List bA}(h:(cT s a).2.2=0)(h2:(cT s (cT s a).2.1).2.2=0):FB s (m+1) a ks vs=FB s m (cT s (cT s a).2.1).2.1 (ks++[(cT s a).1]) (vs++[(cT s (cT s a).2.1).1]):=by rw[FB,if_neg (by rw[h];simp),if_neg (by rw[h2];simp)]
theorem yL {s:bA}{m:Nat}{a:Int}{bs:List Int}{ks:List bA}(h:(gT s a 2).2.2≠0):Fk s (m+1) a bs ks = .inl (gT s a 2).2.2:=by rw[Fk,if_pos h]
theorem AAA {s:bA}{m:Nat}{a:Int}{bs:List Int}{ks:List bA}(h:(gT s a 2).2.2=0)(h2:(cT s (gT s a 2).2.1).2.2≠0):Fk s (m+1) a bs ks = .inl (cT s (gT s a 2).2.1).2.2:=by rw[Fk,if_neg (by rw[h];simp),if_pos h2]
theorem XE {s:bA}{m:Nat}{a:Int}{bs:List Int}{ks:List bA}(h:(gT s a 2).2.2=0)(h2:(cT s (gT s a 2).2.1).2.2=0):Fk s (m+1) a bs ks=Fk s m (cT s (gT s a 2).2.1).2.1 (bs++[(gT s a 2).1]) (ks++[(cT s (gT s a 2).2.1).1]):=by rw[Fk,if_neg (by rw[h];simp),if_neg (by rw[h2];simp)]
theorem CV (s:bA)(m:Nat)(a:Int)(ks vs:List bA)(bs:List Int):Ee s true m a ks vs bs=match FB s m a ks vs with
 | .inl e=>(Gu,e)
 | .inr (ks,vs,a)=>CM s ⟨true,ks,vs,bs⟩ a:=by rw[Ee,if_pos rfl]
theorem Cj (s:bA)(m:Nat)(a:Int)(ks vs:List bA)(bs:List Int):Ee s false m a ks vs bs=match Fk s m a bs ks with
 | .inl e=>(Gu,e)
 | .inr (bs,ks,a)=>if (gT s a 2).2.2≠0 then (Gu,(gT s a 2).2.2) else CM s ⟨false,ks,vs,bs++[(gT s a 2).1]⟩ (gT s a 2).2.1:=by rw[Ee,if_neg (by simp)]
theorem Hu (l:List Int)(b:Int):il l++[D.int .i64 b]=il (l++[b]):=by simp[il]
theorem B9 {n:Nd}(h1:n.keys.length<=300)(h2:n.vals.length<=300)(h3:n.kids.length<=300):Bt n:=⟨by omega,by omega,by omega⟩
set_option maxRecDepth 10000 in
set_option maxHeartbeats 17100000 in
theorem AEG (kind:Int)(s:bA)(hs:Small s.size):Runs AD 217 [aI kind,aS s] [] (tK (Bh kind s)) []:=by
 refine An (c:=c217) rfl rfl ?_;rw[tF,(wP _ _ _).down];have g0:=dK s hs 0 0 1;have e0:X9 s 0 0 1=gT s 0 1:=if_neg (by simp);rw[e0]at g0;have hb0:=Tv s 0;have bad:kind≠1->kind≠2->Bh kind s=(Gu,81):=λh1 h2=>by rw[Bh,if_pos ⟨h1,h2⟩]
 have start:¬(kind≠1/\kind≠2)->Bh kind s=if (gT s 0 1).2.2≠0 then (Gu,(gT s 0 1).2.2) else Ee s (kind==1) (gT s 0 1).1.toNat (gT s 0 1).2.1 [] [] []:=λh=>by rw[Bh,if_neg h]
 refine Aa (λh1=>Aa (λh2=>by rw[bad (by simpa using h1) (by simpa using h2)];rfl) (λh2=>?_)) (λh1=>?_);all_goals
  have hst:=start (by
   rintro⟨k1,k2⟩;simp only[bne_eq_false_iff_eq,bne_iff_ne]at h1;first
     | exact k1 h1
     | (simp only[bne_eq_false_iff_eq]at h2;exact k2 h2))
  generalize hleaf:(kind==1)=leaf at hst
  refine⟨_,_,_,_,g0,?_⟩
  refine⟨λi S N K V B=>0<=i/\S.1=s/\N.1=leaf/\N.2.1=K.1/\N.2.2.1=V.1/\N.2.2.2.1=B.1/\∃(ks vs:List bA) (bs:List Int),K.2=AG ks/\V.2=AG vs/\B.2=il bs/\(ks.length:Int)<=i/\(vs.length:Int)<=i/\(bs.length:Int)<=i /\
      (leaf=true->bs=[])/\(leaf=false->vs=[])/\i<=256 /\
      ((S.2.2.1=0/\i<=(gT s 0 1).1/\Bh kind s=Ee s leaf ((gT s 0 1).1-i).toNat S.2.1 ks vs bs)\/(S.2.2.1≠0/\Bh kind s=(Gu,S.2.2.1))),λi _ _ _ _ _=>((gT s 0 1).1-i).toNat,
    ⟨rfl,Int.le_refl _,rfl,rfl,rfl,rfl,rfl,[],[],[],rfl,rfl,rfl,by simp,by simp,by simp,λ_=>rfl,λ_=>rfl,by omega,?_⟩,?_⟩
  ·by_cases h2:(gT s 0 1).2.2=0
   ·refine .inl ⟨h2,hb0.1,?_⟩
    rw[hst,if_neg (by rw[h2];simp),Int.sub_zero]
   ·exact .inr ⟨h2,by rw[hst,if_pos h2]⟩
  rintro i ⟨S,N,E,_⟩ ⟨lf,va,vb,vc,_⟩ ⟨ka,K⟩ ⟨kb,V⟩ ⟨kc,B⟩ ⟨h0,hS,hlf,rfl,rfl,rfl,ks,vs,bs,rfl,rfl,rfl,lk,lv,lb,nb,nv,hi256,hinv⟩ _
  dsimp only at hS hlf hinv |-
  subst hS hlf
  refine Ab (λhlt=>?_) (λhge=>?_)
  ·refine Aa (λhE=>?_) (λhE=>?_)
   ·have hE:E=0:=by simpa using hE
    subst hE
    have hU:=(hinv.resolve_right λh=>h.1 rfl).2.2
    obtain⟨j,hj⟩:∃j,((gT S 0 1).1-i).toNat=j+1:=⟨((gT S 0 1).1-i).toNat-1,by omega⟩
    have hj':((gT S 0 1).1-(i+1)).toNat=j:=by omega
    rw[hj]at hU
    refine Aa (λhl=>?_) (λhl=>?_)
    ·subst hl
     have g1:=oT S hs N 0
     rw[show tx S N 0=cT S N from if_neg (by simp)]at g1
     have g2:=oT S hs (cT S N).2.1 (cT S N).2.2
     refine⟨_,_,_,_,g1,rfl,.inl rfl,⟨⟨rfl,rfl⟩,rfl⟩,by simp[Am];omega,_,_,_,_,g2,rfl,.inl rfl,⟨⟨rfl,rfl⟩,rfl⟩,by simp[Am];omega,?_⟩
     repeat (refine And.intro rfl ?_)
     rw[Ad _ (by omega),ES,ES]
     refine⟨⟨by omega,rfl,rfl,rfl,rfl,rfl,_,_,_,rfl,rfl,rfl,(by simp;omega),(by simp;omega),by omega,λ_=>nb rfl,(λh=>by cases h),by omega,?_⟩,by first|omega|(dsimp only;omega)⟩
     rw[hj']
     by_cases hk:(cT S N).2.2=0
     ·rw[tx,if_neg (by rw[hk];simp)]
      by_cases hv:(cT S (cT S N).2.1).2.2=0
      ·refine .inl ⟨hv,by omega,?_⟩
       rw[hU,CV,CV,V5 hk hv]
      ·refine .inr ⟨hv,?_⟩
       rw[hU,CV,AA4 hk hv]
     ·rw[tx,if_pos hk]
      refine .inr ⟨hk,?_⟩
      rw[hU,CV,AAz hk]
    ·subst hl
     have g1:=dK S hs N 0 2
     rw[show X9 S N 0 2=gT S N 2 from if_neg (by simp)]at g1
     have g2:=oT S hs (gT S N 2).2.1 (gT S N 2).2.2
     refine⟨_,_,_,_,g1,rfl,.inl rfl,⟨⟨rfl,rfl⟩,rfl⟩,by simp[Aw];omega,_,_,_,_,g2,rfl,.inl rfl,⟨⟨rfl,rfl⟩,rfl⟩,by simp[Am];omega,?_⟩
     repeat (refine And.intro rfl ?_)
     rw[Ad _ (by omega),ES,Hu]
     refine⟨⟨by omega,rfl,rfl,rfl,rfl,rfl,_,_,_,rfl,rfl,rfl,(by simp;omega),by omega,(by simp;omega),(λh=>by cases h),λ_=>nv rfl,by omega,?_⟩,by first|omega|(dsimp only;omega)⟩
     rw[hj']
     by_cases hk:(gT S N 2).2.2=0
     ·rw[tx,if_neg (by rw[hk];simp)]
      by_cases hv:(cT S (gT S N 2).2.1).2.2=0
      ·refine .inl ⟨hv,by omega,?_⟩
       rw[hU,Cj,Cj,XE hk hv]
      ·refine .inr ⟨hv,?_⟩
       rw[hU,Cj,AAA hk hv]
     ·rw[tx,if_pos hk]
      refine .inr ⟨hk,?_⟩
      rw[hU,Cj,yL hk]
   ·have hE:E≠0:=by simpa using hE
    have hx:(E=0/\Bh kind S=Ee S lf 0 N ks vs bs)\/(E≠0/\Bh kind S=(Gu,E)) := .inr ⟨hE,(hinv.resolve_left λh=>hE h.1).2⟩
    refine Aa (λhl=>?_) (λhl=>?_)
    ·have hl:lf=false:=by simpa using hl
     subst hl
     have gx:=dK S hs N E 2
     rcases hx with⟨rfl,hN⟩|⟨hE,hN⟩
     ·have ex:X9 S N 0 2=gT S N 2:=if_neg (by simp)
      rw[ex]at gx
      rw[Cj]at hN
      simp only[Fk]at hN
      refine⟨_,_,_,_,gx,rfl,.inl rfl,⟨⟨rfl,rfl⟩,rfl⟩,by simp[Aw];omega,?_⟩
      refine Aa (λhe=>?_) (λhe=>?_)
      ·rw[hN,if_pos (by simpa using he)];rfl
      ·have he:(gT S N 2).2.2=0:=by simpa using he
       rw[hN,if_neg (by rw[he];simp),Hu]
       refine Aa (λhz=>?_) (λhz=>⟨rfl,rfl,rfl,_,VS ⟨false,ks,vs,bs++[(gT S N 2).1]⟩ true (B9 (by dsimp only;omega) (by dsimp only;omega) (by simp;omega)),?_⟩)
       ·rw[CM,if_pos (.inl (by simpa using hz))];rfl
       ·by_cases hk:NdOK ⟨false,ks,vs,bs++[(gT S N 2).1]⟩ true
        ·rw[decide_eq_true hk]
         refine Aa (λh=>by cases h) (λ_=>⟨rfl,rfl,rfl,?_⟩)
         rw[CM,if_neg (by
          rintro(h|h);·exact h (by simpa using hz)
          ·exact h hk)];rfl
        ·rw[decide_eq_false hk]
         refine Aa (λ_=>?_) (λh=>by cases h)
         rw[CM,if_pos (.inr hk)];rfl
     ·have ex:X9 S N E 2=(0,N,E):=if_pos hE
      rw[ex]at gx
      refine⟨_,_,_,_,gx,rfl,.inl rfl,⟨⟨rfl,rfl⟩,rfl⟩,by simp[Aw];omega,?_⟩
      refine Aa (λhe=>?_) (λhe=>absurd (by simpa using he) hE)
      rw[hN];rfl
    ·have hl:lf=true:=by simpa using hl
     subst hl
     rcases hx with⟨rfl,hN⟩|⟨hE,hN⟩
     ·rw[CV]at hN
      simp only[FB]at hN
      refine Aa (λh=>by simp at h) (λ_=>?_)
      rw[hN]
      refine Aa (λhz=>?_) (λhz=>⟨rfl,rfl,rfl,_,VS ⟨true,ks,vs,bs⟩ true (B9 (by dsimp only;omega) (by dsimp only;omega) (by simp;omega)),?_⟩)
      ·rw[CM,if_pos (.inl (by simpa using hz))];rfl
      ·by_cases hk:NdOK ⟨true,ks,vs,bs⟩ true
       ·rw[decide_eq_true hk]
        refine Aa (λh=>by cases h) (λ_=>⟨rfl,rfl,rfl,?_⟩)
        rw[CM,if_neg (by
         rintro(h|h);·exact h (by simpa using hz)
         ·exact h hk)];rfl
       ·rw[decide_eq_false hk]
        refine Aa (λ_=>?_) (λh=>by cases h)
        rw[CM,if_pos (.inr hk)];rfl
     ·refine Aa (λ_=>by rw[hN];rfl) (λh=>absurd (by simpa using h) hE)
  ·have hx:(E=0/\Bh kind S=Ee S lf 0 N ks vs bs)\/(E≠0/\Bh kind S=(Gu,E)):=by
    rcases hinv with⟨h1,h2,h3⟩|h;·exact .inl ⟨h1,by rw[show((gT S 0 1).1-i).toNat=0 by omega]at h3;exact h3⟩
    ·exact .inr h
   refine Aa (λhl=>?_) (λhl=>?_)
   ·have hl:lf=false:=by simpa using hl
    subst hl
    have gx:=dK S hs N E 2
    rcases hx with⟨rfl,hN⟩|⟨hE,hN⟩
    ·have ex:X9 S N 0 2=gT S N 2:=if_neg (by simp)
     rw[ex]at gx
     rw[Cj]at hN
     simp only[Fk]at hN
     refine⟨_,_,_,_,gx,rfl,.inl rfl,⟨⟨rfl,rfl⟩,rfl⟩,by simp[Aw];omega,?_⟩
     refine Aa (λhe=>?_) (λhe=>?_)
     ·rw[hN,if_pos (by simpa using he)];rfl
     ·have he:(gT S N 2).2.2=0:=by simpa using he
      rw[hN,if_neg (by rw[he];simp),Hu]
      refine Aa (λhz=>?_) (λhz=>⟨rfl,rfl,rfl,_,VS ⟨false,ks,vs,bs++[(gT S N 2).1]⟩ true (B9 (by dsimp only;omega) (by dsimp only;omega) (by simp;omega)),?_⟩)
      ·rw[CM,if_pos (.inl (by simpa using hz))];rfl
      ·by_cases hk:NdOK ⟨false,ks,vs,bs++[(gT S N 2).1]⟩ true
       ·rw[decide_eq_true hk]
        refine Aa (λh=>by cases h) (λ_=>⟨rfl,rfl,rfl,?_⟩)
        rw[CM,if_neg (by
         rintro(h|h);·exact h (by simpa using hz)
         ·exact h hk)];rfl
       ·rw[decide_eq_false hk]
        refine Aa (λ_=>?_) (λh=>by cases h)
        rw[CM,if_pos (.inr hk)];rfl
    ·have ex:X9 S N E 2=(0,N,E):=if_pos hE
     rw[ex]at gx
     refine⟨_,_,_,_,gx,rfl,.inl rfl,⟨⟨rfl,rfl⟩,rfl⟩,by simp[Aw];omega,?_⟩
     refine Aa (λhe=>?_) (λhe=>absurd (by simpa using he) hE)
     rw[hN];rfl
   ·have hl:lf=true:=by simpa using hl
    subst hl
    rcases hx with⟨rfl,hN⟩|⟨hE,hN⟩
    ·rw[CV]at hN
     simp only[FB]at hN
     refine Aa (λh=>by simp at h) (λ_=>?_)
     rw[hN]
     refine Aa (λhz=>?_) (λhz=>⟨rfl,rfl,rfl,_,VS ⟨true,ks,vs,bs⟩ true (B9 (by dsimp only;omega) (by dsimp only;omega) (by simp;omega)),?_⟩)
     ·rw[CM,if_pos (.inl (by simpa using hz))];rfl
     ·by_cases hk:NdOK ⟨true,ks,vs,bs⟩ true
      ·rw[decide_eq_true hk]
       refine Aa (λh=>by cases h) (λ_=>⟨rfl,rfl,rfl,?_⟩)
       rw[CM,if_neg (by
        rintro(h|h);·exact h (by simpa using hz)
        ·exact h hk)];rfl
      ·rw[decide_eq_false hk]
       refine Aa (λ_=>?_) (λh=>by cases h)
       rw[CM,if_pos (.inr hk)];rfl
    ·refine Aa (λ_=>by rw[hN];rfl) (λh=>absurd (by simpa using h) hE)
set_option maxRecDepth 10000 in
set_option maxHeartbeats 17100000 in
theorem ACS (kind:Int)(s:bA)(hs:Small s.size):Runs AD 153 [aI kind,aS s] [] (ACP (Bh kind s)) []:=by
 refine An (c:=c153) rfl rfl ?_;rw[xY,(uL _ _ _).down];have g0:=(VA s hs 0 1).up E4;rw[Qb]at g0;have hb0:=Tv s 0;have bad:kind≠1->kind≠2->Bh kind s=(Gu,81):=λh1 h2=>by rw[Bh,if_pos ⟨h1,h2⟩]
 have start:¬(kind≠1/\kind≠2)->Bh kind s=if (gT s 0 1).2.2≠0 then (Gu,(gT s 0 1).2.2) else Ee s (kind==1) (gT s 0 1).1.toNat (gT s 0 1).2.1 [] [] []:=λh=>by rw[Bh,if_neg h]
 refine Aa (λh1=>Aa (λh2=>by rw[bad (by simpa using h1) (by simpa using h2)];rfl) (λh2=>?_)) (λh1=>?_)
 ·obtain rfl:kind=2:=by simpa using h2
  have hst:=start (by simp);rw[show((2:Int)==1)=false from rfl]at hst;have hbad:(gT s 0 1).2.2≠0->Bh 2 s=(Gu,(gT s 0 1).2.2):=λh=>by rw[hst,if_pos h]
  refine⟨_,_,_,g0,?_⟩;refine⟨λN i _ Q K V B=>0<=i/\Q.1=false/\Q.2.1=K.1/\Q.2.2.1=V.1/\Q.2.2.2.1=B.1/\∃(ks:List bA) (bs:List Int),K.2=AG ks/\V.2=[]/\B.2=il bs/\(ks.length:Int)<=i/\(bs.length:Int)<=i/\(i<=(gT s 0 1).1) /\
      ((gT s 0 1).2.2=0->Bh 2 s=Ee s false ((gT s 0 1).1-i).toNat N ks [] bs),λ_ i _ _ _ _ _=>((gT s 0 1).1-i).toNat,
    ⟨rfl,Int.le_refl _,rfl,rfl,rfl,rfl,[],[],rfl,rfl,rfl,by simp,by simp,hb0.1,λh=>by rw[hst,if_neg (by rw[h];simp),Int.sub_zero]⟩,?_⟩
  rintro N i R0 ⟨lf,va,vb,vc,_⟩ ⟨ka,K⟩ ⟨kb,V⟩ ⟨kc,B⟩ ⟨h0,hlf,rfl,rfl,rfl,ks,bs,rfl,rfl,rfl,lk,lb,him,hinv⟩ _;dsimp only at hlf hinv |-;subst hlf;refine Ab (λhlt=>?_) (λhge=>?_)
  ·refine Aa (λhE=>?_) (λhE=>?_)
   ·have hE:(gT s 0 1).2.2=0:=by simpa using hE
    have hU:=hinv hE;obtain⟨j,hj⟩:∃j,((gT s 0 1).1-i).toNat=j+1:=⟨((gT s 0 1).1-i).toNat-1,by omega⟩
    have hj':((gT s 0 1).1-(i+1)).toNat=j:=by omega
    rw[hj,Cj]at hU;refine Aa (λ_=>?_) (λh=>absurd h (by decide));have g1:=(VA s hs N 2).up E4;rw[Qb]at g1;refine⟨_,_,_,g1,Aa (λhe=>?_) (λhe=>?_)⟩;·rw[hU,yL (by simpa using he)];rfl
    ·have he:(gT s N 2).2.2=0:=by simpa using he
     have g2:=(oX s hs (gT s N 2).2.1).up E4;rw[Tl]at g2;refine⟨rfl,.inl rfl,⟨⟨rfl,rfl⟩,rfl⟩,by simp[Aw];omega,_,_,_,g2,Aa (λhv=>?_) (λhv=>?_)⟩;·rw[hU,AAA he (by simpa using hv)];rfl
     ·have hv:(cT s (gT s N 2).2.1).2.2=0:=by simpa using hv
      refine⟨rfl,.inl rfl,⟨⟨rfl,rfl⟩,rfl⟩,by simp[Am];omega,Aa (λh=>absurd h (by decide)) (λ_=>?_)⟩;repeat (refine And.intro rfl ?_)
      rw[Ad _ (by omega),ES,Hu];refine⟨⟨by omega,rfl,rfl,rfl,rfl,_,_,rfl,rfl,rfl,(by simp;omega),(by simp;omega),by omega,λ_=>?_⟩,by first|omega|(dsimp only;omega)⟩;rw[hj',hU,Cj,XE he hv]
   ·have hx:(gT s 0 1).2.2=0->Bh 2 s=Ee s false 0 N ks [] bs:=λh=>absurd h (by simpa using hE);refine Aa (λ_=>?_) (λh=>absurd h (by decide));by_cases hE:(gT s 0 1).2.2=0
    ·have hN:=hx hE;rw[Cj]at hN;simp only[Fk]at hN;have gx:=(VA s hs N 2).up E4;rw[Qb]at gx;refine Aa (λ_=>?_) (λh=>absurd h (by simp[hE]));refine⟨_,_,_,gx,rfl,.inl rfl,⟨⟨rfl,rfl⟩,rfl⟩,by simp[Aw];omega,?_⟩;refine Aa (λhe=>?_) (λhe=>?_);·rw[hN,if_pos (by simpa using he)];rfl
     ·have he:(gT s N 2).2.2=0:=by simpa using he
      rw[hN,if_neg (by rw[he];simp),Hu];refine Aa (λhz=>?_) (λhz=>⟨rfl,rfl,rfl,_,WR ⟨false,ks,[],bs++[(gT s N 2).1]⟩ true (B9 (by dsimp only;omega) (by dsimp only;first|omega|(simp;done)) (by simp;first|omega|done)),?_⟩);·rw[CM,if_pos (.inl (by simpa using hz))];rfl
      ·by_cases hk:NdOK ⟨false,ks,[],bs++[(gT s N 2).1]⟩ true
       ·rw[decide_eq_true hk];refine Aa (λh=>by cases h) (λ_=>⟨rfl,rfl,rfl,?_⟩);rw[CM,if_neg (by
         rintro(h|h);·exact h (by simpa using hz)
         ·exact h hk)];rfl
       ·rw[decide_eq_false hk];refine Aa (λ_=>?_) (λh=>by cases h);rw[CM,if_pos (.inr hk)];rfl
    ·refine Aa (λh=>absurd (by simpa using h) hE) (λ_=>?_);refine Aa (λ_=>by rw[hbad hE];rfl) (λh=>absurd (by simpa using h) hE)
  ·have hx:(gT s 0 1).2.2=0->Bh 2 s=Ee s false 0 N ks [] bs:=λh=>by have:=hinv h;rw[show((gT s 0 1).1-i).toNat=0 by omega]at this;exact this
   refine Aa (λ_=>?_) (λh=>absurd h (by decide));by_cases hE:(gT s 0 1).2.2=0
   ·have hN:=hx hE;rw[Cj]at hN;simp only[Fk]at hN;have gx:=(VA s hs N 2).up E4;rw[Qb]at gx;refine Aa (λ_=>?_) (λh=>absurd h (by simp[hE]));refine⟨_,_,_,gx,rfl,.inl rfl,⟨⟨rfl,rfl⟩,rfl⟩,by simp[Aw];omega,?_⟩;refine Aa (λhe=>?_) (λhe=>?_);·rw[hN,if_pos (by simpa using he)];rfl
    ·have he:(gT s N 2).2.2=0:=by simpa using he
     rw[hN,if_neg (by rw[he];simp),Hu];refine Aa (λhz=>?_) (λhz=>⟨rfl,rfl,rfl,_,WR ⟨false,ks,[],bs++[(gT s N 2).1]⟩ true (B9 (by dsimp only;omega) (by dsimp only;first|omega|(simp;done)) (by simp;first|omega|done)),?_⟩);·rw[CM,if_pos (.inl (by simpa using hz))];rfl
     ·by_cases hk:NdOK ⟨false,ks,[],bs++[(gT s N 2).1]⟩ true
      ·rw[decide_eq_true hk];refine Aa (λh=>by cases h) (λ_=>⟨rfl,rfl,rfl,?_⟩);rw[CM,if_neg (by
        rintro(h|h);·exact h (by simpa using hz)
        ·exact h hk)];rfl
      ·rw[decide_eq_false hk];refine Aa (λ_=>?_) (λh=>by cases h);rw[CM,if_pos (.inr hk)];rfl
   ·refine Aa (λh=>absurd (by simpa using h) hE) (λ_=>?_);refine Aa (λ_=>by rw[hbad hE];rfl) (λh=>absurd (by simpa using h) hE)
 ·obtain rfl:kind=1:=by simpa using h1
  have hst:=start (by simp);rw[show((1:Int)==1)=true from rfl]at hst;have hbad:(gT s 0 1).2.2≠0->Bh 1 s=(Gu,(gT s 0 1).2.2):=λh=>by rw[hst,if_pos h]
  refine⟨_,_,_,g0,?_⟩;refine⟨λN i _ Q K V B=>0<=i/\Q.1=true/\Q.2.1=K.1/\Q.2.2.1=V.1/\Q.2.2.2.1=B.1/\∃(ks vs:List bA),K.2=AG ks/\V.2=AG vs/\B.2=[]/\(ks.length:Int)<=i/\(vs.length:Int)<=i/\(i<=(gT s 0 1).1) /\
      ((gT s 0 1).2.2=0->Bh 1 s=Ee s true ((gT s 0 1).1-i).toNat N ks vs []),λ_ i _ _ _ _ _=>((gT s 0 1).1-i).toNat,
    ⟨rfl,Int.le_refl _,rfl,rfl,rfl,rfl,[],[],rfl,rfl,rfl,by simp,by simp,hb0.1,λh=>by rw[hst,if_neg (by rw[h];simp),Int.sub_zero]⟩,?_⟩
  rintro N i R0 ⟨lf,va,vb,vc,_⟩ ⟨ka,K⟩ ⟨kb,V⟩ ⟨kc,B⟩ ⟨h0,hlf,rfl,rfl,rfl,ks,vs,rfl,rfl,rfl,lk,lv,him,hinv⟩ _;dsimp only at hlf hinv |-;subst hlf;refine Ab (λhlt=>?_) (λhge=>?_)
  ·refine Aa (λhE=>?_) (λhE=>?_)
   ·have hE:(gT s 0 1).2.2=0:=by simpa using hE
    have hU:=hinv hE;obtain⟨j,hj⟩:∃j,((gT s 0 1).1-i).toNat=j+1:=⟨((gT s 0 1).1-i).toNat-1,by omega⟩
    have hj':((gT s 0 1).1-(i+1)).toNat=j:=by omega
    rw[hj,CV]at hU;refine Aa (λh=>absurd h (by decide)) (λ_=>?_);have g1:=(oX s hs N).up E4;rw[Tl]at g1;refine⟨_,_,_,g1,Aa (λhe=>?_) (λhe=>?_)⟩;·rw[hU,AAz (by simpa using he)];rfl
    ·have he:(cT s N).2.2=0:=by simpa using he
     have g2:=(oX s hs (cT s N).2.1).up E4;rw[Tl]at g2;refine⟨rfl,.inl rfl,⟨⟨rfl,rfl⟩,rfl⟩,by simp[Am];omega,Aa (λ_=>?_) (λh=>absurd h (by decide))⟩;refine⟨_,_,_,g2,Aa (λhv=>?_) (λhv=>?_)⟩;·rw[hU,AA4 he (by simpa using hv)];rfl
     ·have hv:(cT s (cT s N).2.1).2.2=0:=by simpa using hv
      refine⟨rfl,.inl rfl,⟨⟨rfl,rfl⟩,rfl⟩,by simp[Am];omega,?_⟩;repeat (refine And.intro rfl ?_)
      rw[Ad _ (by omega),ES,ES];refine⟨⟨by omega,rfl,rfl,rfl,rfl,_,_,rfl,rfl,rfl,(by simp;omega),(by simp;omega),by omega,λ_=>?_⟩,by first|omega|(dsimp only;omega)⟩;rw[hj',hU,CV,V5 he hv]
   ·have hx:(gT s 0 1).2.2=0->Bh 1 s=Ee s true 0 N ks vs []:=λh=>absurd h (by simpa using hE);refine Aa (λh=>absurd h (by decide)) (λ_=>?_);by_cases hE:(gT s 0 1).2.2=0
    ·have hN:=hx hE;rw[CV]at hN;simp only[FB]at hN;refine Aa (λh=>absurd h (by simp[hE])) (λ_=>?_);rw[hN];refine Aa (λhz=>?_) (λhz=>⟨rfl,rfl,rfl,_,WR ⟨true,ks,vs,[]⟩ true (B9 (by dsimp only;omega) (by dsimp only;first|omega|(simp;done)) (by simp;first|omega|done)),?_⟩);·rw[CM,if_pos (.inl (by simpa using hz))];rfl
     ·by_cases hk:NdOK ⟨true,ks,vs,[]⟩ true
      ·rw[decide_eq_true hk];refine Aa (λh=>by cases h) (λ_=>⟨rfl,rfl,rfl,?_⟩);rw[CM,if_neg (by
        rintro(h|h);·exact h (by simpa using hz)
        ·exact h hk)];rfl
      ·rw[decide_eq_false hk];refine Aa (λ_=>?_) (λh=>by cases h);rw[CM,if_pos (.inr hk)];rfl
    ·refine Aa (λ_=>by rw[hbad hE];rfl) (λh=>absurd (by simpa using h) hE)
  ·have hx:(gT s 0 1).2.2=0->Bh 1 s=Ee s true 0 N ks vs []:=λh=>by have:=hinv h;rw[show((gT s 0 1).1-i).toNat=0 by omega]at this;exact this
   refine Aa (λh=>absurd h (by decide)) (λ_=>?_);by_cases hE:(gT s 0 1).2.2=0
   ·have hN:=hx hE;rw[CV]at hN;simp only[FB]at hN;refine Aa (λh=>absurd h (by simp[hE])) (λ_=>?_);rw[hN];refine Aa (λhz=>?_) (λhz=>⟨rfl,rfl,rfl,_,WR ⟨true,ks,vs,[]⟩ true (B9 (by dsimp only;omega) (by dsimp only;first|omega|(simp;done)) (by simp;first|omega|done)),?_⟩);·rw[CM,if_pos (.inl (by simpa using hz))];rfl
    ·by_cases hk:NdOK ⟨true,ks,vs,[]⟩ true
     ·rw[decide_eq_true hk];refine Aa (λh=>by cases h) (λ_=>⟨rfl,rfl,rfl,?_⟩);rw[CM,if_neg (by
       rintro(h|h);·exact h (by simpa using hz)
       ·exact h hk)];rfl
     ·rw[decide_eq_false hk];refine Aa (λ_=>?_) (λh=>by cases h);rw[CM,if_pos (.inr hk)];rfl
   ·refine Aa (λ_=>by rw[hbad hE];rfl) (λh=>absurd (by simpa using h) hE)
end Go.Proofs.YtegndijbpiccgaaGreatDoor.M
