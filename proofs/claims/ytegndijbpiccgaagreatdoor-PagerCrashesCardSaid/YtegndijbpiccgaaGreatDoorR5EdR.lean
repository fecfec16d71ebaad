import Derived.Test.YtegndijbpiccgaaGreatDoorR5EdH
namespace Go.Proofs.YtegndijbpiccgaaGreatDoor.M
set_option linter.unusedVariables false
set_option linter.unusedSimpArgs false
open Go Go.Mir
def PI (n:Nd)(l:Nat)(c:Int):Nd:=⟨n.leaf,n.keys.take l++n.keys.drop (l+1),n.vals,n.kids.take l++c::n.kids.drop (l+2)⟩
def MX (n:Nd)(l:Nat)(x:Int)(k:bA)(y:Int):Nd:=⟨n.leaf,n.keys.take l++k::n.keys.drop (l+1),n.vals,n.kids.take l++x::y::n.kids.drop (l+2)⟩
def AM (a b:Nd):Nat:=if a.keys.length > b.keys.length then a.keys.length-1 else a.keys.length+1
noncomputable def BZ (e:Ed)(n:Nd)(l:Nat)(a b:Nd):Nd×Ed:=
 let j:=Aq a ((n.keys[l]?).getD empS) b
 if Au a/\Au b/\Au j/\j.keys.length<=8 then (PI n l (Ag e j).1,(Ag e j).2)
 else (MX n l (Ag e (CC j (AM a b))).1 (Gt j (AM a b)) (Ag (Ag e (CC j (AM a b))).2 (Dc j (AM a b))).1,(Ag (Ag e (CC j (AM a b))).2 (Dc j (AM a b))).2)
theorem cC {R:TR}{ks:List bA}{cs:List Int}{lo mid:bA}{P:List Pr}{B:List Int}(h:Gy R lo mid ks cs P B)(hr:Cp ks)(hw:∀k∈ks,lt k lo=false):(∀k∈ks,lt mid k=false)/\lt mid lo=false:=by
 have hend:=I5 h
 cases hx:ks.getLast? with
 | none=> rw[hx]at hend;have hend:mid=lo:=hend;rw[List.getLast?_eq_none_iff.1 hx,hend];exact⟨λk hk=>(by cases hk),Cq lo⟩
 | some z=>
  rw[hx]at hend;have hend:mid=z:=hend;obtain⟨l',rfl⟩:=List.getLast?_eq_some_iff.1 hx;refine⟨λk hk=>?_,by rw[hend];exact hw z (by simp)⟩;rw[hend];rcases List.mem_append.1 hk with h2|h2;·exact BT ((List.pairwise_append.1 hr).2.2 k h2 z (by simp))
  ·obtain rfl:k=z:=by simpa using h2
   exact Cq _
theorem Xs {R:TR}{lo:bA}{kr:List bA}{cr:List Int}{hi' hi:bA}{P:List Pr}{B:List Int}(h:Tail R hi' hi kr cr P B)(hr:Cp kr)(he:∀k∈kr,k≠empS)(hw:∀k∈kr,within k lo hi=true){s mid:bA}(hs:within s mid hi'=true)(hm:lt mid lo=false):(∀k∈kr,lt s k=true)/\within s lo hi=true:=by
 rcases h with⟨rfl,_,rfl,_⟩|⟨kr',rfl,_⟩
 ·exact⟨λk hk=>(by cases hk),DB hs hm⟩
 ·have h1:=(within_iff.1 hs).2.resolve_left (he hi' (by simp));refine⟨λk hk=>?_,EX (DB hs hm) (he hi' (by simp)) (hw hi' (by simp))⟩;rcases List.mem_cons.1 hk with rfl|hk;·exact h1
  ·exact AS h1 ((List.pairwise_cons.1 hr).1 k hk)
theorem YR {ks:List bA}{l:Nat}{s:bA}(hr:Cp ks)(h1:∀k∈ks.take l,lt k s=true)(h2:∀k∈ks.drop (l+1),lt s k=true):Cp (ks.take l++s::ks.drop (l+1)):=by
 refine Jb (Em l hr) (List.pairwise_cons.2 ⟨h2,DF (l+1) hr⟩) λx hx y hy=>?_;rcases List.mem_cons.1 hy with rfl|hy
 ·exact h1 x hx
 ·exact AS (h1 x hx) (h2 y hy)
theorem Xl {ks:List bA}{l:Nat}(hr:Cp ks):Cp (ks.take l++ks.drop (l+1)):=by refine Jb (Em l hr) (DF (l+1) hr) λx hx y hy=>?_;obtain⟨i,hi,hil,rfl⟩:=G0 hx;obtain⟨j,hj,hjl,rfl⟩:=Et hy;exact List.pairwise_iff_getElem.1 hr i j hi hj (by omega)
theorem Ix {H:Hd}{h:Nat}{lo hi:bA}{n:Nd}{P:List Pr}{B:List Int}(hc:CR H h lo hi n P B)(hk:n.keys≠[]){b:Int}{r:Bool}(hh:H b r=some n):Tr H (h+1) b r lo hi P (b::B):=Md hh (hc.cont hk)
theorem GM {R:TR}{Q:Int->Prop}(h:∀c lo hi P B,R c lo hi P B->∀x∈B,Q x):∀ {ks:List bA} {cs:List Int} {lo hi:bA} {P:List Pr} {B:List Int},Gy R lo hi ks cs P B->∀x∈B,Q x
 | [],[],_,_,_,_,hk=>λx hx=>by obtain⟨_,_,rfl⟩:=hk;cases hx
 | [],_::_,_,_,_,_,hk=>hk.elim
 | _::_,[],_,_,_,_,hk=>hk.elim
 | k::ks,c::cs,lo,hi,P,B,hk=>λx hx=>by
  obtain⟨P1,B1,P2,B2,h1,h2,rfl,rfl⟩:=hk;rcases List.mem_append.1 hx with hx|hx;·exact h _ _ _ _ _ h1 x hx
  ·exact GM h h2 x hx
theorem IY {R:TR}{Q:Int->Prop}(h:∀c lo hi P B,R c lo hi P B->∀x∈B,Q x){kr:List bA}{cr:List Int}{hi' hi:bA}{P:List Pr}{B:List Int}(ht:Tail R hi' hi kr cr P B):∀x∈B,Q x:=by
 rcases ht with⟨_,_,_,_,rfl⟩|⟨kr',_,hk⟩
 ·intro x hx;cases hx
 ·exact KTr.mem h hk
set_option maxHeartbeats 1000000 in
theorem TF {e:Ed}{n a b:Nd}{l j:Nat}{lo mid hi' hi:bA}{P1 Pa Pb P3:List Pr}{B1 Ba Bb B3:List Int}(he:e.bad=0)(hr:WRight e.w)
   (hl:l<n.keys.length) (nv:n.vals=[]) (nl:n.leaf=false) (nk:NC n.keys) (nw:∀k∈n.keys,within k lo hi=true)
   (hseg:Gy (λc lo hi P B=>Tr (Aj e.w) (j+1) c false lo hi P B) lo mid (n.keys.take l) (n.kids.take l) P1 B1)
   (htl:Tail (λc lo hi P B=>Tr (Aj e.w) (j+1) c false lo hi P B) hi' hi (n.keys.drop (l+1)) (n.kids.drop (l+2)) P3 B3)
   (hkw:within n.keys[l] mid hi'=true) (ha:CR (Aj e.w) j mid n.keys[l] a Pa Ba) (hb:CR (Aj e.w) j n.keys[l] hi' b Pb Bb) (hab:a.leaf=b.leaf)
   (hsz:(a.keys.length=3/\4<=b.keys.length/\b.keys.length<=8)\/(b.keys.length=3/\4<=a.keys.length/\a.keys.length<=8))
   (hu:(B1++((Ba++Bb)++B3)).Nodup):
   ((BZ e n l a b).2.bad=60/\D6 e.w<2)\/((BZ e n l a b).2.bad=0/\WRight (BZ e n l a b).2.w/\D6 e.w<=D6 (BZ e n l a b).2.w+2/\(BZ e n l a b).1.leaf=false/\n.keys.length<=(BZ e n l a b).1.keys.length+1/\(BZ e n l a b).1.keys.length<=n.keys.length /\
     ∃X B',Fr e.w (BZ e n l a b).2.w [] X X/\B'.Nodup/\(∀x,x∈B' ↔ x∈X\/x∈B1++((Ba++Bb)++B3))/\CR (Aj (BZ e n l a b).2.w) (j+1) lo hi (BZ e n l a b).1 (P1++((Pa++Pb)++P3)) B'):=by
 obtain⟨kr,kz⟩:=kok_iff.1 nk
 have hke:∀k∈n.keys,k≠empS:=λk hk e=>by have:=(kz k hk).1;rw[e]at this;exact absurd this (by decide)
 obtain⟨hm1,hm2⟩:=cC hseg (Em l kr) (λk hk=>(within_iff.1 (nw k (List.mem_of_mem_take hk))).1)
 have htail:∀s,within s mid hi'=true->(∀k∈n.keys.drop (l+1),lt s k=true)/\within s lo hi=true:=λs hs=>
  Xs htl (DF _ kr) (λk hk=>hke k (List.mem_of_mem_drop hk)) (λk hk=>nw k (List.mem_of_mem_drop hk)) hs hm2
 obtain⟨hj,hjl⟩:=O6 (EJ e.w) (kz _ (List.getElem_mem hl)) hkw ha hb hab
 have hheld:∀x∈B1++((Ba++Bb)++B3),tr e.w.now x.toNat=true:=λx hx=>by
  have:∃r m,Aj e.w x r=some m:=by
   rcases List.mem_append.1 hx with hx|hx;·exact GM (λc lo hi P B hc=>Tr.held hc) hseg x hx
   ·rcases List.mem_append.1 hx with hx|hx;·exact hj.held x hx
    ·exact IY (λc lo hi P B hc=>Tr.held hc) htl x hx
  obtain⟨r,m,hm⟩:=this;exact BF hm
 have hlenj:(Aq a n.keys[l] b).keys.length=a.keys.length+b.keys.length+(if a.leaf then 0 else 1):=by unfold Aq;cases a.leaf<;>simp<;>omega
 have ek:(n.keys[l]?).getD empS=n.keys[l]:=by rw[gI hl];rfl
 unfold BZ
 rw[ek]
 dsimp only
 by_cases hone:Au a/\Au b/\Au (Aq a n.keys[l] b)/\(Aq a n.keys[l] b).keys.length<=8
 ·rw[if_pos hone]
  have hok:NdOK (Aq a n.keys[l] b) false:=⟨hone.2.2.1,hone.2.2.2,.inr (by omega)⟩
  rcases CD he hr (E1 hok) with⟨a1,a2,_⟩|⟨a1,a2,a3,a4,a5,a6⟩
  ·exact .inl ⟨a1,by omega⟩
  ·have fr:∀(x:Int) (r:Bool) (m:Nd),Aj e.w x r=some m->Aj (Ag e (Aq a n.keys[l] b)).2.w x r=some m:=λx r m hm=>a3.hold (by simp) hm
   generalize (Ag e (Aq a n.keys[l] b)).1=s at a3 a5 a6 |-
   generalize (Ag e (Aq a n.keys[l] b)).2=e' at a1 a2 a3 a4 a6 fr |-
   have hs:s∉B1++((Ba++Bb)++B3):=λhx=>by rw[hheld _ hx]at a5;cases a5
   have hT:=Ix (hj.frame λx _ r m hm=>fr x r m hm) (List.ne_nil_of_length_pos (by omega)) (a6 false hok)
   have hk:=OJ (S:=λc lo hi P B=>Tr (Aj e'.w) (j+1) c false lo hi P B) (m:=[]) (cm:=[s]) (BD (λc lo hi P B' _ hx=>Tr.frame (λx _=>fr x) hx) hseg) hT (htl.mono (λc lo hi P B' _ hx=>Tr.frame (λx _=>fr x) hx))
   refine .inr ⟨a1,a2,by omega,nl,?_,?_,_,_,a3,?_,λx=>?_,λk hk=>?_,kok_iff.2 ⟨Xl kr,λk hk=>?_⟩,.inr ⟨nl,nv,hk⟩⟩
   ·simp[PI];omega
   ·simp[PI];omega
   ·exact(List.perm_middle.nodup_iff).2 (List.nodup_cons.2 ⟨hs,hu⟩)
   ·simp only[List.mem_append,List.mem_cons,List.not_mem_nil,or_false]
    constructor
    ·rintro(h|(h|h|h)|h)<;>simp[h]
    ·rintro(h|h|(h|h)|h)<;>simp[h]
   ·rcases List.mem_append.1 hk with h|h
    ·exact nw k (List.mem_of_mem_take h)
    ·exact nw k (List.mem_of_mem_drop h)
   ·rcases List.mem_append.1 hk with h|h
    ·exact kz k (List.mem_of_mem_take h)
    ·exact kz k (List.mem_of_mem_drop h)
 ·rw[if_neg hone]
  have sa:Au a:=ha.stands hr (by omega) (.inr (by omega))
  have sb:Au b:=hb.stands hr (by omega) (.inr (by omega))
  have h9:9<=(Aq a n.keys[l] b).keys.length:=Classical.byContradiction λhc=>hone ⟨sa,sb,hj.stands hr (by omega) (.inr (by omega)),by omega⟩
  have hc1:4<=AM a b/\AM a b<=8/\AM a b<(Aq a n.keys[l] b).keys.length:=by unfold AM;split at hlenj<;>split<;>omega
  have hc2:4<=(Aq a n.keys[l] b).keys.length-(if (Aq a n.keys[l] b).leaf then AM a b else AM a b+1)/\(Aq a n.keys[l] b).keys.length-(if (Aq a n.keys[l] b).leaf then AM a b else AM a b+1)<=8:=by rw[hjl];unfold AM;cases hal:a.leaf<;>rw[hal]at hlenj<;>simp only[if_true,if_false,Bool.false_eq_true]at hlenj |-<;>split<;>omega
  obtain⟨k1,k2,k3,k4,k5,k6,k7,k8,k9,k10,Pl,Bl,Pr,Br,c1,c2,hP,hB⟩:=qO hj hc1.2.2 (by omega)
  generalize Aq a n.keys[l] b=jn at *
  generalize AM a b=c at *
  have ll:(CC jn c).keys.length=c:=by rw[k9,List.length_take];omega
  have lr:(Dc jn c).keys.length=jn.keys.length-(if jn.leaf then c else c+1):=by rw[k10,List.length_drop]
  have okl:NdOK (CC jn c) false:=⟨c1.stands hr (by omega) (.inr (by omega)),by omega,.inr (by omega)⟩
  have okr:NdOK (Dc jn c) false:=⟨c2.stands hr (by omega) (.inr (by omega)),by omega,.inr (by omega)⟩
  rcases CD he hr (E1 okl) with⟨a1,a2,_⟩|⟨a1,a2,a3,a4,a5,a6⟩
  ·rw[Hz (e:=(Ag e (CC jn c)).2) (n:=Dc jn c) (by rw[a1];decide)]
   exact .inl ⟨a1,by omega⟩
  ·rcases CD a1 a2 (E1 okr) with⟨b1,b2,_⟩|⟨b1,b2,b3,b4,b5,b6⟩
   ·exact .inl ⟨b1,by omega⟩
   ·generalize (Ag e (CC jn c)).1=s at a3 a5 a6 |-
    generalize (Ag e (CC jn c)).2=e1 at a1 a2 a3 a4 a6 b1 b2 b3 b4 b5 b6 |-
    have hs1:tr e1.w.now s.toNat=true:=BF (a6 _ okl)
    have hh1:∀x∈B1++((Ba++Bb)++B3),tr e1.w.now x.toNat=true:=λx hx=>by
     have h0:∃r m,Aj e.w x r=some m:=by
      rcases List.mem_append.1 hx with hx|hx;·exact GM (λc lo hi P B hc=>Tr.held hc) hseg x hx
      ·rcases List.mem_append.1 hx with hx|hx;·exact hj.held x hx
       ·exact IY (λc lo hi P B hc=>Tr.held hc) htl x hx
     obtain⟨r,m,hm⟩:=h0;exact BF (a3.hold (by simp) hm)
    generalize (Ag e1 (Dc jn c)).1=t at b3 b5 b6 |-
    generalize (Ag e1 (Dc jn c)).2=e2 at b1 b2 b3 b4 b6 |-
    have fr:∀(x:Int) (r:Bool) (m:Nd),Aj e.w x r=some m->Aj e2.w x r=some m:=λx r m hm=>b3.hold (by simp) (a3.hold (by simp) hm)
    have hs:s∉B1++((Ba++Bb)++B3):=λhx=>by rw[hheld _ hx]at a5;cases a5
    have ht:t∉B1++((Ba++Bb)++B3):=λhx=>by rw[hh1 _ hx]at b5;cases b5
    have hst:s≠t:=λh=>by rw[h]at hs1;rw[hs1]at b5;cases b5
    have hT1:=Ix (c1.frame λx _ r m hm=>fr x r m hm) (List.ne_nil_of_length_pos (by omega)) (b3.hold (by simp) (a6 false okl))
    have hT2:=Ix (c2.frame λx _ r m hm=>fr x r m hm) (List.ne_nil_of_length_pos (by omega)) (b6 false okr)
    obtain⟨g1,g2⟩:=htail _ k1
    have hk:=OJ (S:=λc lo hi P B=>Tr (Aj e2.w) (j+1) c false lo hi P B) (m:=[Gt jn c]) (cm:=[s,t]) (BD (λc lo hi P B' _ hx=>Tr.frame (λx _=>fr x) hx) hseg)
      (show KTr (λc lo hi P B=>Tr (Aj e2.w) (j+1) c false lo hi P B) mid hi' [Gt jn c] [s,t] (Pl++Pr) ((s::Bl)++(t::Br)) from⟨_,_,_,_,hT1,hT2,rfl,rfl⟩) (htl.mono (λc lo hi P B' _ hx=>Tr.frame (λx _=>fr x) hx))
    rw[hB]at hu hs ht
    rw[hP,hB]
    refine .inr ⟨b1,b2,by omega,nl,?_,?_,_,_,a3.trans b3 (by simp),?_,λx=>?_,λk hk=>?_,kok_iff.2 ⟨YR kr (λk hk=>Pf (hm1 k hk) k2) g1,λk hk=>?_⟩,.inr ⟨nl,nv,hk⟩⟩
    ·simp[MX];omega
    ·simp[MX];omega
    ·have e1:B1++(((s::Bl)++(t::Br))++B3)=B1++s::(Bl++t::(Br++B3)):=by simp
     have e2:B1++(Bl++t::(Br++B3))=(B1++Bl)++t::(Br++B3):=by simp
     have e3:(B1++Bl)++(Br++B3)=B1++((Bl++Br)++B3):=by simp
     rw[e1]
     refine(List.perm_middle.nodup_iff).2 (List.nodup_cons.2 ⟨λhx=>?_,?_⟩)
     ·have hx:s∈B1\/s∈Bl\/s=t\/s∈Br\/s∈B3:=by simpa using hx
      refine hs ?_
      rcases hx with h|h|h|h|h
      ·simp[h]
      ·simp[h]
      ·exact absurd h hst
      ·simp[h]
      ·simp[h]
     ·rw[e2]
      refine(List.perm_middle.nodup_iff).2 (List.nodup_cons.2 ⟨?_,?_⟩)
      ·rw[e3];exact ht
      ·rw[e3];exact hu
    ·simp only[List.mem_append,List.mem_cons,List.not_mem_nil,or_false]
     constructor
     ·rintro(h|((h|h)|(h|h))|h)<;>simp[h]
     ·rintro((h|h)|h|(h|h)|h)<;>simp[h]
    ·rcases List.mem_append.1 hk with h|h
     ·exact nw k (List.mem_of_mem_take h)
     ·rcases List.mem_cons.1 h with rfl|h
      ·exact g2
      ·exact nw k (List.mem_of_mem_drop h)
    ·rcases List.mem_append.1 hk with h|h
     ·exact kz k (List.mem_of_mem_take h)
     ·rcases List.mem_cons.1 h with rfl|h
      ·exact⟨k3,k4⟩
      ·exact kz k (List.mem_of_mem_drop h)
noncomputable def K4 (e:Ed):Ed:=if e.bad=0 then { e with bad:=81 } else e
noncomputable def EW (e:Ed)(n:Nd)(i:Nat)(kid:Nd)(d:Int):Nd×Ed:=
 let l:=i-1
 let o:=if l=i then i+1 else l
 let r:=AI e ((n.kids[o]?).getD 0) (d+1)
 if r.2.bad≠0\/r.1.leaf≠kid.leaf then (Gu,K4 r.2) else
 let e2:=B7 r.2 ((n.kids[o]?).getD 0)
 if l=i then BZ e2 n l kid r.1 else BZ e2 n l r.1 kid
noncomputable def B8 (e:Ed)(n:Nd)(i:Nat)(kid:Nd)(d:Int):Nd×Ed:=
 if 4<=kid.keys.length then (⟨n.leaf,n.keys,n.vals,n.kids.set i (Ag e kid).1⟩,(Ag e kid).2) else EW e n i kid d
def QL (n:Nd)(i:Nat):Nd:=⟨n.leaf,De n.keys i,De n.vals i,n.kids⟩
noncomputable def Fb (key:bA):Nat->Ed->Int->Int->Nd×Ed
 | 0,e,_,_=>(Gu,{ e with bad:=81 })
 | f+1,e,b,d=>
   let n:=(AI e b d).1
   let e1:=(AI e b d).2
   if e1.bad≠0 then (Gu,e1) else
   let e2:=B7 e1 b
   if n.leaf then (if Dd n.keys key then (QL n (AL n.keys key),e2) else (Gu,{ e2 with bad:=80 })) else
   let i:=Ax n.keys key
   let r:=Fb key f e2 ((n.kids[i]?).getD 0) (d+1)
   if r.2.bad≠0 then (Gu,r.2) else B8 r.2 n i r.1 d
theorem Dp {H:Hd}{j:Nat}{lo hi:bA}{n:Nd}{P:List Pr}{B:List Int}(h:CR H j lo hi n P B):n.leaf=decide (j=0):=by
 obtain⟨_,_,⟨a1,a2,_⟩|⟨a1,_,a3⟩⟩:=h;·rw[a1,decide_eq_true a2]
 ·rw[a1]
  cases j with
  | succ j=>simp
  | zero=>
   have:∀ {ks:List bA} {cs:List Int} {lo hi:bA} {P:List Pr} {B:List Int},KTr (λc lo hi P B=>Tr H 0 c false lo hi P B) lo hi ks cs P B->False:=λ{ks cs lo hi P B} hk=>by
    have hl:=El hk
    cases cs with
    | nil=>simp at hl
    | cons c cs=>exact OP (Q:=λ_=>False) (λc lo hi P B ht=>ht.elim) hk c (by simp)
   exact(this a3).elim
theorem Xd {α:Type}{l:List α}{i:Nat}{c s:α}(h:l[i+1]?=some c):l.set i s=l.take i++s::c::l.drop (i+2):=by obtain⟨hi,rfl⟩:=List.getElem?_eq_some_iff.1 h;rw[CI (by omega),List.drop_eq_getElem_cons hi]
theorem Ng {α:Type}{l:List α}{i:Nat}{c s:α}(h:l[i]?=some c)(hi:i+1<l.length):l.set (i+1) s=l.take i++c::s::l.drop (i+2):=by obtain⟨h0,rfl⟩:=List.getElem?_eq_some_iff.1 h;rw[CI hi,A3 h0,List.append_assoc];rfl
theorem Rn {α:Type}{l:List α}{i:Nat}(h:i<l.length):l=l.take i++l[i]::l.drop (i+1):=by rw[<-List.drop_eq_getElem_cons h,List.take_append_drop]
theorem gS {e:Ed}{n kid:Nd}{i j:Nat}{lo hi klo khi:bA}{Pk P':List Pr}{Bk B1 B3:List Int}(he:e.bad=0)(hr:WRight e.w)(nv:n.vals=[])(nl:n.leaf=false)(nk:NC n.keys)(nw:∀k∈n.keys,within k lo hi=true)
   (hk:CR (Aj e.w) j klo khi kid Pk Bk) (h4:4<=kid.keys.length) (h8:kid.keys.length<=8) (hu:(B1++(Bk++B3)).Nodup) (hh:∀x∈B1++(Bk++B3),tr e.w.now x.toNat=true)
   (mk:∀(G:Hd) (s:Int),(∀x r m,Aj e.w x r=some m->G x r=some m)->Tr G (j+1) s false klo khi Pk (s::Bk)->KTr (λc lo hi P B=>Tr G (j+1) c false lo hi P B) lo hi n.keys (n.kids.set i s) P' (B1++((s::Bk)++B3))):
   ((Ag e kid).2.bad=60/\D6 e.w<2)\/((Ag e kid).2.bad=0/\WRight (Ag e kid).2.w/\D6 e.w<=D6 (Ag e kid).2.w+2 /\
     ∃X B',Fr e.w (Ag e kid).2.w [] X X/\B'.Nodup/\(∀x,x∈B' ↔ x∈X\/x∈B1++(Bk++B3))/\CR (Aj (Ag e kid).2.w) (j+1) lo hi ⟨n.leaf,n.keys,n.vals,n.kids.set i (Ag e kid).1⟩ P' B'):=by
 have hok:NdOK kid false:=⟨hk.stands hr (by omega) (.inr (by omega)),h8,.inr h4⟩
 rcases CD he hr (E1 hok) with⟨a1,a2,_⟩|⟨a1,a2,a3,a4,a5,a6⟩
 ·exact .inl ⟨a1,by omega⟩
 ·have fr:∀(x:Int) (r:Bool) (m:Nd),Aj e.w x r=some m->Aj (Ag e kid).2.w x r=some m:=λx r m hm=>a3.hold (by simp) hm
  generalize (Ag e kid).1=s at a3 a5 a6 |-
  generalize (Ag e kid).2=e' at a1 a2 a3 a4 a6 fr |-
  have hs:s∉B1++(Bk++B3):=λhx=>by rw[hh _ hx]at a5;cases a5
  have hT:=Ix (hk.frame λx _ r m hm=>fr x r m hm) (List.ne_nil_of_length_pos (by omega)) (a6 false hok)
  refine .inr ⟨a1,a2,by omega,_,_,a3,?_,λx=>?_,nw,nk,.inr ⟨nl,nv,mk _ s fr hT⟩⟩
  ·exact(List.perm_middle.nodup_iff).2 (List.nodup_cons.2 ⟨hs,hu⟩)
  ·simp only[List.mem_append,List.mem_cons,List.not_mem_nil,or_false]
   constructor
   ·rintro(h|(h|h)|h)<;>simp[h]
   ·rintro(h|h|h|h)<;>simp[h]
set_option maxHeartbeats 1000000 in
theorem AFG {e:Ed}{n kid:Nd}{j:Nat}{d c2:Int}{lo mid hi' hi:bA}{P1 Pa Pb P3:List Pr}{B1 Ba Bb B3:List Int}(he:e.bad=0)(hr:WRight e.w)
   (hl:0<n.keys.length) (nv:n.vals=[]) (nl:n.leaf=false) (nk:NC n.keys) (nw:∀k∈n.keys,within k lo hi=true)
   (hseg:Gy (λc lo hi P B=>Tr (Aj e.w) (j+1) c false lo hi P B) lo mid (n.keys.take 0) (n.kids.take 0) P1 B1)
   (htl:Tail (λc lo hi P B=>Tr (Aj e.w) (j+1) c false lo hi P B) hi' hi (n.keys.drop (0+1)) (n.kids.drop (0+2)) P3 B3)
   (hkw:within n.keys[0] mid hi'=true) (ha:CR (Aj e.w) j mid n.keys[0] kid Pa Ba) (hc2:n.kids[0+1]?=some c2) (hb:Tr (Aj e.w) (j+1) c2 false n.keys[0] hi' Pb Bb)
   (h3:3<=kid.keys.length) (h8:kid.keys.length<=8) (hd1:1<=d) (hd:d+1<=8) (hu:(B1++((Ba++Bb)++B3)).Nodup):
   ((B8 e n 0 kid d).2.bad=60/\D6 e.w<2)\/((B8 e n 0 kid d).2.bad=0/\WRight (B8 e n 0 kid d).2.w/\D6 e.w<=D6 (B8 e n 0 kid d).2.w+2/\(B8 e n 0 kid d).1.leaf=false/\n.keys.length<=(B8 e n 0 kid d).1.keys.length+1/\(B8 e n 0 kid d).1.keys.length<=n.keys.length /\
     ∃D S X B',(∀x,x∈Bb ↔ x∈D\/x∈S)/\(∀x∈S,x∉D)/\Fr e.w (B8 e n 0 kid d).2.w D X X/\B'.Nodup/\(∀x,x∈B' ↔ x∈X\/x∈B1++((Ba++S)++B3))/\CR (Aj (B8 e n 0 kid d).2.w) (j+1) lo hi (B8 e n 0 kid d).1 (P1++((Pa++Pb)++P3)) B'):=by
 have hheld:∀x∈B1++((Ba++Bb)++B3),∃r m,Aj e.w x r=some m:=λx hx=>by
  rcases List.mem_append.1 hx with hx|hx;·exact GM (λc lo hi P B hc=>Tr.held hc) hseg x hx
  ·rcases List.mem_append.1 hx with hx|hx
   ·rcases List.mem_append.1 hx with hx|hx;·exact ha.held x hx
    ·exact hb.held x hx
   ·exact IY (λc lo hi P B hc=>Tr.held hc) htl x hx
 unfold B8
 by_cases h4:4<=kid.keys.length
 ·rw[if_pos h4]
  have e1:B1++((Ba++Bb)++B3)=B1++(Ba++(Bb++B3)):=by simp
  have hst:=gS (i:=0) (n:=n) (lo:=lo) (hi:=hi) (P':=P1++((Pa++Pb)++P3)) (B1:=B1) (B3:=Bb++B3) he hr nv nl nk nw ha h4 h8 (by rw[<-e1];exact hu) (λx hx=>by
   obtain⟨r,m,hm⟩:=hheld x (by rw[e1];exact hx);exact BF hm) (λG s fr hT=>by
    have hk:=OJ (S:=λc lo hi P B=>Tr G (j+1) c false lo hi P B) (m:=[n.keys[0]]) (cm:=[s,c2]) (BD (λc lo hi P B' _ hx=>Tr.frame (λx _=>fr x) hx) hseg)
      (show KTr (λc lo hi P B=>Tr G (j+1) c false lo hi P B) mid hi' [n.keys[0]] [s,c2] (Pa++Pb) ((s::Ba)++Bb) from⟨_,_,_,_,hT,Tr.frame (λx _=>fr x) hb,rfl,rfl⟩) (htl.mono (λc lo hi P B' _ hx=>Tr.frame (λx _=>fr x) hx))
    have e2:n.keys.take 0++([n.keys[0]]++n.keys.drop (0+1))=n.keys:=(Rn hl).symm;have e3:n.kids.take 0++([s,c2]++n.kids.drop (0+2))=n.kids.set 0 s:=(Xd hc2).symm;have e4:B1++(((s::Ba)++Bb)++B3)=B1++((s::Ba)++(Bb++B3)):=by simp
    rw[e2,e3,e4]at hk;exact hk)
  rcases hst with hst|⟨a1,a2,a3,X,B',a4,a5,a6,a7⟩
  ·exact .inl hst
  ·exact .inr ⟨a1,a2,a3,nl,by dsimp only;omega,Nat.le_refl _,[],Bb,X,B',λx=>by simp,λx _=>by simp,a4,a5,λx=>by rw[a6,e1],a7⟩
 ·rw[if_neg h4]
  obtain⟨m,Bo,hm,hcm,rfl⟩:=Gf hb
  have hmok:=Cr hm
  unfold EW
  dsimp only
  rw[show(0-1:Nat)=0 from rfl,if_pos rfl,if_pos rfl,hc2]
  simp only[Option.getD_some]
  have e2:(d+1==1)=false:=by simp;omega
  rw[KE he (by rw[e2];exact hm) hd]
  dsimp only
  have hb':=hcm.cr hmok.1
  rw[if_neg (by rw[Dp ha,Dp hb',he];simp)]
  obtain⟨d1,d2,d3,d4⟩:=IK he hr hm
  have hne:∀x,x∈B1++((Ba++Bo)++B3)->x≠c2:=λx hx e=>by
   subst e;have hp:(B1++((Ba++x::Bo)++B3)).Perm (x::(B1++((Ba++Bo)++B3))):=by
    have h1:B1++((Ba++x::Bo)++B3)=(B1++Ba)++x::(Bo++B3):=by simp
    have h2:B1++((Ba++Bo)++B3)=(B1++Ba)++(Bo++B3):=by simp
    rw[h1,h2];exact List.perm_middle
   exact(List.nodup_cons.1 (hp.nodup_iff.1 hu)).1 hx
  have fr:∀(x:Int),x∈B1++((Ba++Bo)++B3)->∀(r:Bool) (m:Nd),Aj e.w x r=some m->Aj (B7 e c2).w x r=some m:=λx hx r m hm=>d3.hold (by simpa using hne x hx) hm
  have hu':(B1++((Ba++Bo)++B3)).Nodup:=by
   have h1:B1++((Ba++c2::Bo)++B3)=(B1++Ba)++c2::(Bo++B3):=by simp
   have h2:B1++((Ba++Bo)++B3)=(B1++Ba)++(Bo++B3):=by simp
   rw[h1]at hu;rw[h2];exact(List.nodup_cons.1 (List.perm_middle.nodup_iff.1 hu)).2
  generalize B7 e c2=e2 at d1 d2 d3 d4 fr |-
  have hcore:=TF (l:=0) (a:=kid) (b:=m) d1 d2 hl nv nl nk nw
    (BD (λc lo hi P B' hB hx=>Tr.frame (λx hx'=>fr x (by simp[hB x hx'])) hx) hseg) (htl.mono (λc lo hi P B' hB hx=>Tr.frame (λx hx'=>fr x (by simp[hB x hx'])) hx)) hkw
    (ha.frame λx hx=>fr x (by simp[hx])) (hb'.frame λx hx=>fr x (by simp[hx])) (by rw[Dp ha,Dp hb'])
    (.inl ⟨by omega,hmok.2.2.resolve_left (by simp),hmok.2.1⟩) hu'
  rcases hcore with⟨a1,a2⟩|⟨a1,a2,a3,a4,a5,a6,X,B',a7,a8,a9,a10⟩
  ·exact .inl ⟨a1,by omega⟩
  ·refine .inr ⟨a1,a2,by omega,a4,a5,a6,[c2],Bo,X,B',λx=>by simp,λx hx=>?_,?_,a8,a9,a10⟩
   ·have:=hne x (by simp[hx])
    simpa using this
   ·have:=d3.trans a7 (by simp)
    simpa using this
set_option maxHeartbeats 1000000 in
theorem AEz {e:Ed}{n kid:Nd}{l j:Nat}{d c1:Int}{lo mid hi' hi:bA}{P1 Pa Pb P3:List Pr}{B1 Ba Bb B3:List Int}(he:e.bad=0)(hr:WRight e.w)
   (hl:l<n.keys.length) (hll:n.kids.length=n.keys.length+1) (nv:n.vals=[]) (nl:n.leaf=false) (nk:NC n.keys) (nw:∀k∈n.keys,within k lo hi=true)
   (hseg:Gy (λc lo hi P B=>Tr (Aj e.w) (j+1) c false lo hi P B) lo mid (n.keys.take l) (n.kids.take l) P1 B1)
   (htl:Tail (λc lo hi P B=>Tr (Aj e.w) (j+1) c false lo hi P B) hi' hi (n.keys.drop (l+1)) (n.kids.drop (l+2)) P3 B3)
   (hkw:within n.keys[l] mid hi'=true) (hb:Tr (Aj e.w) (j+1) c1 false mid n.keys[l] Pa Ba) (hc1:n.kids[l]?=some c1) (ha:CR (Aj e.w) j n.keys[l] hi' kid Pb Bb)
   (h3:3<=kid.keys.length) (h8:kid.keys.length<=8) (hd1:1<=d) (hd:d+1<=8) (hu:(B1++((Ba++Bb)++B3)).Nodup):
   ((B8 e n (l+1) kid d).2.bad=60/\D6 e.w<2)\/((B8 e n (l+1) kid d).2.bad=0/\WRight (B8 e n (l+1) kid d).2.w/\D6 e.w<=D6 (B8 e n (l+1) kid d).2.w+2/\(B8 e n (l+1) kid d).1.leaf=false/\n.keys.length<=(B8 e n (l+1) kid d).1.keys.length+1/\(B8 e n (l+1) kid d).1.keys.length<=n.keys.length /\
     ∃D S X B',(∀x,x∈Ba ↔ x∈D\/x∈S)/\(∀x∈S,x∉D)/\Fr e.w (B8 e n (l+1) kid d).2.w D X X/\B'.Nodup/\(∀x,x∈B' ↔ x∈X\/x∈B1++((S++Bb)++B3))/\CR (Aj (B8 e n (l+1) kid d).2.w) (j+1) lo hi (B8 e n (l+1) kid d).1 (P1++((Pa++Pb)++P3)) B'):=by
 have hheld:∀x∈B1++((Ba++Bb)++B3),∃r m,Aj e.w x r=some m:=λx hx=>by
  rcases List.mem_append.1 hx with hx|hx;·exact GM (λc lo hi P B hc=>Tr.held hc) hseg x hx
  ·rcases List.mem_append.1 hx with hx|hx
   ·rcases List.mem_append.1 hx with hx|hx;·exact hb.held x hx
    ·exact ha.held x hx
   ·exact IY (λc lo hi P B hc=>Tr.held hc) htl x hx
 unfold B8
 by_cases h4:4<=kid.keys.length
 ·rw[if_pos h4]
  have e1:B1++((Ba++Bb)++B3)=(B1++Ba)++(Bb++B3):=by simp
  have hst:=gS (i:=l+1) (n:=n) (lo:=lo) (hi:=hi) (P':=P1++((Pa++Pb)++P3)) (B1:=B1++Ba) (B3:=B3) he hr nv nl nk nw ha h4 h8 (by rw[<-e1];exact hu) (λx hx=>by
   obtain⟨r,m,hm⟩:=hheld x (by rw[e1];exact hx);exact BF hm) (λG s fr hT=>by
    have hk:=OJ (S:=λc lo hi P B=>Tr G (j+1) c false lo hi P B) (m:=[n.keys[l]]) (cm:=[c1,s]) (BD (λc lo hi P B' _ hx=>Tr.frame (λx _=>fr x) hx) hseg)
      (show KTr (λc lo hi P B=>Tr G (j+1) c false lo hi P B) mid hi' [n.keys[l]] [c1,s] (Pa++Pb) (Ba++(s::Bb)) from⟨_,_,_,_,Tr.frame (λx _=>fr x) hb,hT,rfl,rfl⟩) (htl.mono (λc lo hi P B' _ hx=>Tr.frame (λx _=>fr x) hx))
    have e2:n.keys.take l++([n.keys[l]]++n.keys.drop (l+1))=n.keys:=(Rn hl).symm;have e3:n.kids.take l++([c1,s]++n.kids.drop (l+2))=n.kids.set (l+1) s:=(Ng hc1 (by omega)).symm;have e4:B1++((Ba++(s::Bb))++B3)=(B1++Ba)++((s::Bb)++B3):=by simp
    rw[e2,e3,e4]at hk;exact hk)
  rcases hst with hst|⟨a1,a2,a3,X,B',a4,a5,a6,a7⟩
  ·exact .inl hst
  ·exact .inr ⟨a1,a2,a3,nl,by dsimp only;omega,Nat.le_refl _,[],Ba,X,B',λx=>by simp,λx _=>by simp,a4,a5,λx=>by rw[a6,e1],a7⟩
 ·rw[if_neg h4]
  obtain⟨m,Bo,hm,hcm,rfl⟩:=Gf hb
  have hmok:=Cr hm
  unfold EW
  dsimp only
  rw[show(l+1-1:Nat)=l from rfl,if_neg (show ¬l=l+1 by omega),if_neg (show ¬l=l+1 by omega),hc1]
  simp only[Option.getD_some]
  have e2:(d+1==1)=false:=by simp;omega
  rw[KE he (by rw[e2];exact hm) hd]
  dsimp only
  have hb':=hcm.cr hmok.1
  rw[if_neg (by rw[Dp ha,Dp hb',he];simp)]
  obtain⟨d1,d2,d3,d4⟩:=IK he hr hm
  have hne:∀x,x∈B1++((Bo++Bb)++B3)->x≠c1:=λx hx e=>by
   subst e;have hp:(B1++((x::Bo++Bb)++B3)).Perm (x::(B1++((Bo++Bb)++B3))):=by
    have h1:B1++((x::Bo++Bb)++B3)=B1++x::((Bo++Bb)++B3):=by simp
    have h2:B1++((Bo++Bb)++B3)=B1++((Bo++Bb)++B3):=rfl;rw[h1];exact List.perm_middle
   exact(List.nodup_cons.1 (hp.nodup_iff.1 hu)).1 hx
  have fr:∀(x:Int),x∈B1++((Bo++Bb)++B3)->∀(r:Bool) (m:Nd),Aj e.w x r=some m->Aj (B7 e c1).w x r=some m:=λx hx r m hm=>d3.hold (by simpa using hne x hx) hm
  have hu':(B1++((Bo++Bb)++B3)).Nodup:=by
   have h1:B1++((c1::Bo++Bb)++B3)=B1++c1::((Bo++Bb)++B3):=by simp
   have h2:B1++((Bo++Bb)++B3)=B1++((Bo++Bb)++B3):=rfl;rw[h1]at hu;exact(List.nodup_cons.1 (List.perm_middle.nodup_iff.1 hu)).2
  generalize B7 e c1=e2 at d1 d2 d3 d4 fr |-
  have hcore:=TF (l:=l) (a:=m) (b:=kid) d1 d2 hl nv nl nk nw
    (BD (λc lo hi P B' hB hx=>Tr.frame (λx hx'=>fr x (by simp[hB x hx'])) hx) hseg) (htl.mono (λc lo hi P B' hB hx=>Tr.frame (λx hx'=>fr x (by simp[hB x hx'])) hx)) hkw
    (hb'.frame λx hx=>fr x (by simp[hx])) (ha.frame λx hx=>fr x (by simp[hx])) (by rw[Dp ha,Dp hb'])
    (.inr ⟨by omega,hmok.2.2.resolve_left (by simp),hmok.2.1⟩) hu'
  rcases hcore with⟨a1,a2⟩|⟨a1,a2,a3,a4,a5,a6,X,B',a7,a8,a9,a10⟩
  ·exact .inl ⟨a1,by omega⟩
  ·refine .inr ⟨a1,a2,by omega,a4,a5,a6,[c1],Bo,X,B',λx=>by simp,λx hx=>?_,?_,a8,a9,a10⟩
   ·have:=hne x (by simp[hx])
    simpa using this
   ·have:=d3.trans a7 (by simp)
    simpa using this
theorem S4 {w w1 w3 w4:Wd}{b:Int}{B0 B1 Bk Bk' Bo B3 D S X W B':List Int}(d3:Fr w w1 [b] [] [])(a4:Fr w1 w3 Bk Bk' W)(g:Fr w3 w4 D X X)(hheld:∀x∈b::B0,tr w.now x.toNat=true/\10<=x)(hub:b∉B0)
   (hB0:∀x,x∈B0 ↔ x∈B1\/x∈Bk\/x∈Bo\/x∈B3) (hdk:∀x∈Bk,x∉B1/\x∉Bo/\x∉B3) (hdo:∀x∈Bo,x∉B1/\x∉B3) (hdk':∀x∈Bk',x∉Bo) (hDS:∀x,x∈Bo ↔ x∈D\/x∈S) (hS:∀x∈S,x∉D)
   (hB':∀x,x∈B' ↔ x∈X\/x∈Bk'\/x∈B1\/x∈S\/x∈B3):∃W',Fr w w4 (b::B0) B' W':=by
 have h1:=(d3.trans a4 (by simp)).trans g (λx hx hD=>by
  have hx:x∈Bk':=by simpa using hx
  exact hdk' x hx ((hDS x).2 (.inl hD)))
 have h2:=h1.keep (B1++(S++B3)) (λx hx=>by
  have hx:x∈B1\/x∈S\/x∈B3:=by simpa using hx
  have hm:x∈B0:=(hB0 x).2 (by
   rcases hx with h|h|h;·exact .inl h
   ·exact .inr (.inr (.inl ((hDS x).2 (.inr h))))
   ·exact .inr (.inr (.inr h)))
  refine⟨(hheld x (by simp[hm])).1,λhxo=>?_,by have:=(hheld x (by simp[hm])).2;omega⟩;have hxb:x≠b:=λe=>hub (e▸hm);have hxo:x∈Bk\/x∈D:=by simpa[hxb] using hxo
  rcases hxo with h|h
  ·obtain⟨u1,u2,u3⟩:=hdk x h;rcases hx with h|h|h;·exact u1 h
   ·exact u2 ((hDS x).2 (.inr h))
   ·exact u3 h
  ·obtain⟨u1,u2⟩:=hdo x ((hDS x).2 (.inl h));rcases hx with h5|h5|h5;·exact u1 h5
   ·exact hS x h5 h
   ·exact u2 h5)
 refine⟨_,h2.congr (λx=>?_) (λx=>?_)⟩
 ·simp only[List.mem_append,List.mem_cons,List.not_mem_nil,or_false,hB0,hDS]
  constructor
  ·rintro(((h|h)|h)|(h|h|h))<;>simp[h]
  ·rintro(h|h|h|(h|h)|h)<;>simp[h]
 ·rw[hB']
  simp only[List.mem_append,List.nil_append]
  constructor
  ·rintro((h|h)|(h|h|h))<;>simp[h]
  ·rintro(h|h|h|h|h)<;>simp[h]
theorem Ug {R:TR}(mw:∀c lo hi P B,R c lo hi P B->∀p∈P,within p.1 lo hi=true){key hi' hi lo:bA}{kr:List bA}{cr:List Int}{P:List Pr}{B:List Int}(h:Tail R hi' hi kr cr P B)(hr:Cp kr)(he:∀k∈kr,k≠empS)(hw:∀k∈kr,within k lo hi=true)(hk:∀k∈kr,lt key k=true):∀p∈P,lt key p.1=true:=by
 rcases h with⟨_,_,_,rfl,_⟩|⟨kr',rfl,h2⟩
 ·intro p hp;cases hp
 ·obtain⟨r1,r2⟩:=List.pairwise_cons.1 hr;have hin:∀x∈kr',within x hi' hi=true:=λx hx=>within_iff.2 ⟨BT (r1 x hx),(within_iff.1 (hw x (by simp[hx]))).2⟩;intro p hp;have:=KTr.within mw r2 (λx hx=>he x (by simp[hx])) hin h2 p hp;exact GZ (hk hi' (by simp)) (within_iff.1 this).1
theorem Of {R:TR}{x lo hi' hi:bA}{kr:List bA}{cr:List Int}{P:List Pr}{B:List Int}(h:Tail R hi' hi kr cr P B)(hk:∀k∈kr,lt x k=true)(hw:within x lo hi=true):hi'=empS\/lt x hi'=true:=by
 rcases h with⟨_,_,rfl,_,_⟩|⟨kr',rfl,_⟩
 ·exact(within_iff.1 hw).2
 ·exact .inr (hk hi' (by simp))
theorem oH {ks vs:List bA}{k:bA}(h:k∈ks)(hl:vs.length=ks.length):∃p∈ks.zip vs,p.1=k:=by obtain⟨i,hi,rfl⟩:=List.getElem_of_mem h;exact⟨(ks[i],vs[i]'(by omega)),List.mem_iff_getElem.2 ⟨i,by simp;omega,by simp⟩,rfl⟩
theorem kC {ks:List bA}{key:bA}(hr:Cp ks)(h:Dd ks key=false):key∉ks:=λhk=>by
 rw[<-List.take_append_drop (AL ks key) ks]at hk;rcases List.mem_append.1 hk with hk|hk;·have:=Fz _ hk;rw[Cq]at this;cases this
 ·have:=Jo hr h _ hk;rw[Cq]at this;cases this
def TB (key:bA)(h:Nat)(e:Ed)(b d:Int)(lo hi:bA)(P:List Pr)(B:List Int)(r:Nd×Ed):Prop:=
 (∀p∈P,p.1≠key)/\r.2.bad=80\/(∃p∈P,p.1=key)/\(r.2.bad=60/\D6 e.w<2*h\/r.2.bad=0/\WRight r.2.w/\D6 e.w<=D6 r.2.w+2*h/\(∃n,Aj e.w b (d==1)=some n/\r.1.leaf=n.leaf/\n.keys.length<=r.1.keys.length+1)/\r.1.keys.length<=8 /\
   ∃B' W,Fr e.w r.2.w B B' W/\B'.Nodup/\CR (Aj r.2.w) h lo hi r.1 (E9 key P) B')
theorem Zy {key:bA}{h:Nat}{e e1:Ed}{b d:Int}{lo hi:bA}{n:Nd}{P:List Pr}{B0:List Int}(hn:Aj e.w b (d==1)=some n)(hok:NdOK n (d==1))(hl:n.leaf=true)(d1:e1.bad=0)(d2:WRight e1.w)(d3:Fr e.w e1.w [b] [] [])(d4:D6 e.w<=D6 e1.w)(hc:CR (Aj e1.w) h lo hi n P B0):
   TB key h e b d lo hi P (b::B0) (if Dd n.keys key then (QL n (AL n.keys key),e1) else (Gu,{ e1 with bad:=80 })):=by
 obtain⟨c1,c2,⟨_,c3,c4,c5,c6,rfl,rfl⟩|⟨hx,_⟩⟩:=hc
 ·obtain⟨kr,kz⟩:=kok_iff.1 c2
  cases ha:Dd n.keys key with
  | true=>
   rw[if_pos rfl]
   obtain⟨hi',he⟩:=TL ha
   have hlen:=NQ hi'
   have hlv:=NQ (l:=n.vals) (i:=AL n.keys key) (by omega)
   refine .inr ⟨oH (he▸List.getElem_mem hi') c5,.inr ⟨d1,d2,by dsimp only;omega,⟨n,hn,rfl,by simp only[QL];omega⟩,by simp only[QL];have:=hok.2.1;omega,[],[],d3,List.nodup_nil,λk hk=>c1 k (Ju hk),kok_iff.2 ⟨XM _ kr,λk hk=>kz k (Ju hk)⟩,.inl ⟨hl,c3,c4,?_,λv hv=>c6 v (Ju hv),(Xm kr c5 ha).symm,rfl⟩⟩⟩
   simp only[QL];omega
  | false=>
   rw[if_neg (by simp)]
   exact .inl ⟨λp hp e=>kC kr ha (e▸Gb hp),rfl⟩
 ·rw[hl]at hx;cases hx
theorem aW (a b c d e:Prop):(a\/b\/(c\/d)\/e) ↔ (a\/c\/b\/d\/e):=by
 constructor;·rintro(h|h|(h|h)|h)<;>simp[h]
 ·rintro(h|h|h|h|h)<;>simp[h]
theorem Wg (b c d e:Prop):(b\/(c\/d)\/e) ↔ (b\/d\/c\/e):=by
 constructor;·rintro(h|(h|h)|h)<;>simp[h]
 ·rintro(h|h|h|h)<;>simp[h]
theorem Wu (a b c d e:Prop):(a\/b\/(c\/d)\/e) ↔ (a\/d\/b\/c\/e):=by
 constructor;·rintro(h|h|(h|h)|h)<;>simp[h]
 ·rintro(h|h|h|h|h)<;>simp[h]
theorem Rk {key:bA}{i j:Nat}{e e1:Ed}{b c d:Int}{lo hi klo khi:bA}{n:Nd}{P1 Pk P3:List Pr}{B0 Bk:List Int}{r:Nd×Ed}(hn:Aj e.w b (d==1)=some n)(hok:NdOK n (d==1))(hl:n.leaf=false)(hd:(d+1==1)=false)(d4:D6 e.w<=D6 e1.w)
   (hp1:∀p∈P1,lt p.1 key=true) (hp3:∀p∈P3,lt key p.1=true) (ih:TB key j e1 c (d+1) klo khi Pk Bk r)
   (aft:r.2.bad=0->WRight r.2.w->3<=r.1.keys.length->r.1.keys.length<=8->∀Bk' W,Fr e1.w r.2.w Bk Bk' W->Bk'.Nodup->CR (Aj r.2.w) j klo khi r.1 (E9 key Pk) Bk' ->
     ((B8 r.2 n i r.1 d).2.bad=60/\D6 r.2.w<2)\/((B8 r.2 n i r.1 d).2.bad=0/\WRight (B8 r.2 n i r.1 d).2.w/\D6 r.2.w<=D6 (B8 r.2 n i r.1 d).2.w+2/\(B8 r.2 n i r.1 d).1.leaf=false/\n.keys.length<=(B8 r.2 n i r.1 d).1.keys.length+1/\(B8 r.2 n i r.1 d).1.keys.length<=n.keys.length /\
       ∃B' W,Fr e.w (B8 r.2 n i r.1 d).2.w (b::B0) B' W/\B'.Nodup/\CR (Aj (B8 r.2 n i r.1 d).2.w) (j+1) lo hi (B8 r.2 n i r.1 d).1 (P1++(E9 key Pk++P3)) B')):
   TB key (j+1) e b d lo hi (P1++(Pk++P3)) (b::B0) (if r.2.bad≠0 then (Gu,r.2) else B8 r.2 n i r.1 d):=by
 rcases ih with⟨a1,a2⟩|⟨⟨p,hp,hpk⟩,a2⟩
 ·rw[if_pos (by rw[a2];decide)]
  refine .inl ⟨λp hp=>?_,a2⟩
  rcases List.mem_append.1 hp with hp|hp
  ·exact QP (hp1 p hp)
  ·rcases List.mem_append.1 hp with hp|hp
   ·exact a1 p hp
   ·exact(QP (hp3 p hp)).symm
 ·have hthere:∃p∈P1++(Pk++P3),p.1=key:=⟨p,by simp[hp],hpk⟩
  rcases a2 with⟨a1,a2⟩|⟨a1,a2,a3,⟨m,a4,_,a5⟩,a6,Bk',W,a7,a8,a9⟩
  ·rw[if_pos (by rw[a1];decide)]
   exact .inr ⟨hthere,.inl ⟨a1,by omega⟩⟩
  ·rw[if_neg (by rw[a1];simp)]
   rw[hd]at a4
   have h4:=(Cr a4).2.2.resolve_left (by simp)
   rcases aft a1 a2 (by omega) a6 Bk' W a7 a8 a9 with⟨g1,g2⟩|⟨g1,g2,g3,g4,g5,g6,B',W',g7,g8,g9⟩
   ·exact .inr ⟨hthere,.inl ⟨g1,by omega⟩⟩
   ·exact .inr ⟨hthere,.inr ⟨g1,g2,by omega,⟨n,hn,by rw[g4,hl],g5⟩,by have:=hok.2.1;omega,B',W',g7,g8,by rw[WZ hp1 hp3];exact g9⟩⟩
set_option maxHeartbeats 2000000 in
theorem Se {key:bA}:∀(f h:Nat) (e:Ed) (b d:Int) (lo hi:bA) (P:List Pr) (B:List Int),e.bad=0->WRight e.w->Tr (Aj e.w) (h+1) b (d==1) lo hi P B->B.Nodup->within key lo hi=true->1<=d->d+h<=8->h+1<=f->TB key h e b d lo hi P B (Fb key f e b d)
 | 0,h,e,b,d,lo,hi,P,B,_,_,_,_,_,_,_,hf=>by omega
 | f+1,h,e,b,d,lo,hi,P,B,he,hr,ht,hu,hw,hd,h8,hf=>by
  have hnow:=CK hr;have hheld:=TM ht hnow;have hth:=ht.held;obtain⟨n,B0,hn,hc,rfl⟩:=Gf ht;have hok:=Cr hn;obtain⟨ub,u0⟩:=List.nodup_cons.1 hu;have hcr:=hc.cr hok.1;unfold Fb;rw[KE he hn (by omega)];dsimp only;rw[if_neg (by rw[he];simp)];obtain⟨d1,d2,d3,d4⟩:=IK he hr hn;generalize B7 e b=e1 at d1 d2 d3 d4 |-;have hb0:∀x∈B0,x∉[b]:=λx hx hxb=>by
   obtain rfl:x=b:=by simpa using hxb
   exact ub hx
  have hc1:CR (Aj e1.w) h lo hi n P B0:=hcr.frame λx hx r m hm=>d3.hold (hb0 x hx) hm
  cases hl:n.leaf with
  | true=> rw[if_pos rfl];exact Zy hn hok hl d1 d2 d3 d4 hc1
  | false=>
   rw[if_neg (by simp)];have hlev:=Dp hc1;obtain⟨c1,ck,⟨hx,_⟩|⟨_,nv,c2⟩⟩:=hc1;·rw[hl]at hx;cases hx
   obtain⟨j,rfl⟩:∃j,h=j+1:=by
    cases h with
    | zero=>rw[hl]at hlev;simp at hlev
    | succ j=>exact⟨j,rfl⟩
   obtain⟨kr,kz⟩:=kok_iff.1 ck;have hke:∀k∈n.keys,k≠empS:=λk hk e=>by have:=(kz k hk).1;rw[e]at this;exact absurd this (by decide)
   have hk1:1<=n.keys.length:=by
    rcases hok.1.2.2 with⟨hx,_⟩|⟨_,_,h,_⟩
    ·rw[hl]at hx;cases hx
    ·exact h
   have hkl:=El c2;have e2:(d+1==1)=false:=by simp;omega
   have mw:∀c lo hi P B,Tr (Aj e1.w) (j+1) c false lo hi P B->∀p∈P,within p.1 lo hi=true:=λc lo hi P B hc=>hc.within (EJ _);have hkt:=LW (l:=n.keys) (x:=key);have hkd:=KV (x:=key) kr;have hle:=FF n.keys key
   cases hi0:Ax n.keys key with
   | zero=>
    rw[hi0]at hkd;obtain⟨mid,hi',cA,cB,P1,Pa,Pb,P3,B1,Ba,Bb,B3,q1,q2,q3,q4,rfl,rfl,q7,q8⟩:=TK (l:=0) c2 (by omega);have q7':lo=mid/\P1=[]/\B1=[]:=by simpa[Gy] using q7
    have h0d:n.keys[0]∈n.keys.drop 0:=by rw[List.drop_zero];exact List.getElem_mem _
    have hkey0:lt key n.keys[0]=true:=hkd _ h0d;have hwk:within key mid n.keys[0]=true:=within_iff.2 ⟨q7'.1▸(within_iff.1 hw).1,.inr hkey0⟩;have hdr:∀k∈n.keys.drop (0+1),lt n.keys[0] k=true:=λk hk=>by obtain⟨i,hi,hil,rfl⟩:=Et hk;exact List.pairwise_iff_getElem.1 kr 0 i _ hi (by omega)
    have hkw:within n.keys[0] mid hi'=true:=within_iff.2 ⟨q7'.1▸(within_iff.1 (c1 _ (List.getElem_mem _))).1,Of q8 hdr (c1 _ (List.getElem_mem _))⟩;have hp3:∀p∈Pb++P3,lt key p.1=true:=λp hp=>by
     rcases List.mem_append.1 hp with hp|hp;·exact GZ hkey0 (within_iff.1 (mw _ _ _ _ _ q4 p hp)).1
     ·exact Ug mw q8 (DF _ kr) (λk hk=>hke k (List.mem_of_mem_drop hk)) (λk hk=>c1 k (List.mem_of_mem_drop hk)) (λk hk=>AS hkey0 (hdr k hk)) p hp
    have hp1:∀p∈P1,lt p.1 key=true:=λp hp=>by rw[q7'.2.1]at hp;cases hp
    rw[q1];simp only[Option.getD_some];obtain⟨n1,n2,n3⟩:=List.nodup_append.1 u0;obtain⟨n4,n5,n6⟩:=List.nodup_append.1 n2;obtain⟨n7,n8,n9⟩:=List.nodup_append.1 n4;have ih:=Se f j e1 cA (d+1) mid n.keys[0] Pa Ba d1 d2 (by rw[e2];exact q3) n7 hwk (by omega) (by omega) (by omega);generalize Fb key f e1 cA (d+1)=r at ih |-;have eP:P1++((Pa++Pb)++P3)=P1++(Pa++(Pb++P3)):=by simp
    rw[eP];refine Rk hn hok hl e2 d4 hp1 hp3 ih λa1 a2 a3 a4 Ba' W a5 a6 a7=>?_;have hda:∀x∈Ba,x∉B1/\x∉Bb/\x∉B3:=λx hx=>⟨λh=>n3 x h x (by simp[hx]) rfl,λh=>n9 x hx x h rfl,λh=>n6 x (by simp[hx]) x h rfl⟩
    have hdb:∀x∈Bb,x∉B1/\x∉B3:=λx hx=>⟨λh=>n3 x h x (by simp[hx]) rfl,λh=>n6 x (by simp[hx]) x h rfl⟩
    have fr:∀(x:Int),x∉Ba->∀(r0:Bool) (m:Nd),Aj e1.w x r0=some m->Aj r.2.w x r0=some m:=λx hx r0 m hm=>a5.hold hx hm;have hnew:∀x∈Ba',x∉B1/\x∉Bb/\x∉B3:=λx hx=>by
     have key2:x∉Ba->x∈B1++((Ba++Bb)++B3)->False:=λhxa hm=>by have h2:=a5.fresh hx hxa;obtain⟨r0,m,hm2⟩:=hth x (by simp only[List.mem_cons];exact .inr hm);rw[BF (d3.hold (hb0 x hm) hm2)]at h2;cases h2
     refine⟨λh=>key2 (λh'=>(hda x h').1 h) (by simp[h]),λh=>key2 (λh'=>(hda x h').2.1 h) (by simp[h]),λh=>key2 (λh'=>(hda x h').2.2 h) (by simp[h])⟩
    have hu':(B1++((Ba'++Bb)++B3)).Nodup:=by
     refine List.nodup_append.2 ⟨n1,List.nodup_append.2 ⟨List.nodup_append.2 ⟨a6,n8,λx hx y hy e=>?_⟩,n5,λx hx y hy e=>?_⟩,λx hx y hy e=>?_⟩;·subst e;exact(hnew x hx).2.1 hy
     ·subst e;rcases List.mem_append.1 hx with hx|hx;·exact(hnew x hx).2.2 hy
      ·exact(hdb x hx).2 hy
     ·subst e;have hy:x∈Ba'\/x∈Bb\/x∈B3:=by simpa using hy
      rcases hy with hy|hy|hy;·exact(hnew x hy).1 hx
      ·exact(hdb x hy).1 hx
      ·exact n3 x hx x (by simp[hy]) rfl
    have haft:=AFG (e:=r.2) (d:=d) a1 a2 (by omega) nv hl ck c1
      (BD (λc lo hi P B' hB hx=>Tr.frame (λx hx'=>fr x (λh=>(hda x h).1 (hB x hx'))) hx) q7)
      (q8.mono (λc lo hi P B' hB hx=>Tr.frame (λx hx'=>fr x (λh=>(hda x h).2.2 (hB x hx'))) hx)) hkw a7 q2
      (Tr.frame (λx hx'=>fr x (λh=>(hda x h).2.1 hx')) q4) a3 a4 hd (by omega) hu'
    rcases haft with g|⟨g1,g2,g3,g4,g5,g6,D,S,X,B',g7,g8,g9,g10,g11,g12⟩
    ·exact .inl g
    ·have eP2:P1++((E9 key Pa++Pb)++P3)=P1++(E9 key Pa++(Pb++P3)):=by simp
     rw[eP2]at g12;obtain⟨W',hW⟩:=S4 (B1:=B1) (B3:=B3) d3 a5 g9 hheld ub (λx=>by simp[or_assoc]) hda hdb (λx hx=>(hnew x hx).2.1) g7 g8 (λx=>by rw[g11];simp only[List.mem_append];exact aW _ _ _ _ _);exact .inr ⟨g1,g2,g3,g4,g5,g6,B',W',hW,g10,g12⟩
   | succ l=>
    rw[hi0]at hkd hkt hle;have hl0:l<n.keys.length:=by omega
    obtain⟨mid,hi',cA,cB,P1,Pa,Pb,P3,B1,Ba,Bb,B3,q1,q2,q3,q4,rfl,rfl,q7,q8⟩:=TK (l:=l) c2 hl0;have h0d:n.keys[l]∈n.keys.take (l+1):=by rw[A3 hl0];exact List.mem_append_right _ (List.mem_singleton_self _)
    have hkey0:lt key n.keys[l]=false:=hkt _ h0d;have hwk:within key n.keys[l] hi'=true:=within_iff.2 ⟨hkey0,Of q8 hkd hw⟩;have hdr:∀k∈n.keys.drop (l+1),lt n.keys[l] k=true:=λk hk=>by obtain⟨i,hi,hil,rfl⟩:=Et hk;exact List.pairwise_iff_getElem.1 kr l i _ hi (by omega)
    have hmid:lt mid n.keys[l]=true:=by obtain⟨p,hp⟩:=List.exists_mem_of_ne_nil _ (YB (EJ _) _ _ _ _ _ _ q3);obtain⟨g1,g2⟩:=within_iff.1 (mw _ _ _ _ _ q3 p hp);exact Pf g1 (g2.resolve_left (hke _ (List.getElem_mem _)))
    have hkw:within n.keys[l] mid hi'=true:=within_iff.2 ⟨BT hmid,Of q8 hdr (c1 _ (List.getElem_mem _))⟩;have hp3:∀p∈P3,lt key p.1=true:=λp hp=>
     Ug mw q8 (DF _ kr) (λk hk=>hke k (List.mem_of_mem_drop hk)) (λk hk=>c1 k (List.mem_of_mem_drop hk)) hkd p hp
    have hp1:∀p∈P1++Pa,lt p.1 key=true:=λp hp=>by
     rcases List.mem_append.1 hp with hp|hp;·exact GZ (AS (K9 mw (Em _ kr) (λk hk=>hke k (List.mem_of_mem_take hk)) q7 p hp) hmid) hkey0
     ·exact GZ ((within_iff.1 (mw _ _ _ _ _ q3 p hp)).2.resolve_left (hke _ (List.getElem_mem _))) hkey0
    rw[q2];simp only[Option.getD_some];obtain⟨n1,n2,n3⟩:=List.nodup_append.1 u0;obtain⟨n4,n5,n6⟩:=List.nodup_append.1 n2;obtain⟨n7,n8,n9⟩:=List.nodup_append.1 n4;have ih:=Se f j e1 cB (d+1) n.keys[l] hi' Pb Bb d1 d2 (by rw[e2];exact q4) n8 hwk (by omega) (by omega) (by omega);generalize Fb key f e1 cB (d+1)=r at ih |-;have eP:P1++((Pa++Pb)++P3)=(P1++Pa)++(Pb++P3):=by simp
    rw[eP];refine Rk hn hok hl e2 d4 hp1 hp3 ih λa1 a2 a3 a4 Bb' W a5 a6 a7=>?_;have hda:∀x∈Bb,x∉B1/\x∉Ba/\x∉B3:=λx hx=>⟨λh=>n3 x h x (by simp[hx]) rfl,λh=>n9 x h x hx rfl,λh=>n6 x (by simp[hx]) x h rfl⟩
    have hdb:∀x∈Ba,x∉B1/\x∉B3:=λx hx=>⟨λh=>n3 x h x (by simp[hx]) rfl,λh=>n6 x (by simp[hx]) x h rfl⟩
    have fr:∀(x:Int),x∉Bb->∀(r0:Bool) (m:Nd),Aj e1.w x r0=some m->Aj r.2.w x r0=some m:=λx hx r0 m hm=>a5.hold hx hm;have hnew:∀x∈Bb',x∉B1/\x∉Ba/\x∉B3:=λx hx=>by
     have key2:x∉Bb->x∈B1++((Ba++Bb)++B3)->False:=λhxa hm=>by have h2:=a5.fresh hx hxa;obtain⟨r0,m,hm2⟩:=hth x (by simp only[List.mem_cons];exact .inr hm);rw[BF (d3.hold (hb0 x hm) hm2)]at h2;cases h2
     refine⟨λh=>key2 (λh'=>(hda x h').1 h) (by simp[h]),λh=>key2 (λh'=>(hda x h').2.1 h) (by simp[h]),λh=>key2 (λh'=>(hda x h').2.2 h) (by simp[h])⟩
    have hu':(B1++((Ba++Bb')++B3)).Nodup:=by
     refine List.nodup_append.2 ⟨n1,List.nodup_append.2 ⟨List.nodup_append.2 ⟨n7,a6,λx hx y hy e=>?_⟩,n5,λx hx y hy e=>?_⟩,λx hx y hy e=>?_⟩;·subst e;exact(hnew x hy).2.1 hx
     ·subst e;rcases List.mem_append.1 hx with hx|hx;·exact(hdb x hx).2 hy
      ·exact(hnew x hx).2.2 hy
     ·subst e;have hy:x∈Ba\/x∈Bb'\/x∈B3:=by simpa using hy
      rcases hy with hy|hy|hy;·exact(hdb x hy).1 hx
      ·exact(hnew x hy).1 hx
      ·exact n3 x hx x (by simp[hy]) rfl
    have haft:=AEz (e:=r.2) (d:=d) a1 a2 hl0 hkl nv hl ck c1
      (BD (λc lo hi P B' hB hx=>Tr.frame (λx hx'=>fr x (λh=>(hda x h).1 (hB x hx'))) hx) q7)
      (q8.mono (λc lo hi P B' hB hx=>Tr.frame (λx hx'=>fr x (λh=>(hda x h).2.2 (hB x hx'))) hx)) hkw
      (Tr.frame (λx hx'=>fr x (λh=>(hda x h).2.1 hx')) q3) q1 a7 a3 a4 hd (by omega) hu'
    rcases haft with g|⟨g1,g2,g3,g4,g5,g6,D,S,X,B',g7,g8,g9,g10,g11,g12⟩
    ·exact .inl g
    ·have eP2:P1++((Pa++E9 key Pb)++P3)=(P1++Pa)++(E9 key Pb++P3):=by simp
     rw[eP2]at g12;obtain⟨W',hW⟩:=S4 (B1:=B1) (B3:=B3) d3 a5 g9 hheld ub (λx=>by simp only[List.mem_append];exact Wg _ _ _ _) hda hdb (λx hx=>(hnew x hx).2.1) g7 g8 (λx=>by rw[g11];simp only[List.mem_append];exact Wu _ _ _ _ _);exact .inr ⟨g1,g2,g3,g4,g5,g6,B',W',hW,g10,g12⟩
def isKeyP (key:bA):Prop:=1<=key.size/\key.size<=32
instance (key:bA):Decidable (isKeyP key):=by unfold isKeyP;infer_instance
noncomputable def FC (w:Wd)(key:bA):Int×Ed:=
 let r:=Fb key 9 ⟨w,0⟩ w.root 1
 if r.2.bad≠0 then (0,r.2) else if r.1.keys≠[] then Ag r.2 r.1 else if r.1.leaf then (0,r.2) else ((r.1.kids[0]?).getD 0,r.2)
noncomputable def D1 (w:Wd)(key:bA):Wd×Int:=
 if ¬(WRight w/\isKeyP key) then (O2,1) else if w.root=0 then (O2,80) else MY (BO (FC w key))
theorem bB {w:Wd}{b:Int}{n:Nd}(h:Aj w b false=some n):Aj w b true=some n:=by
 unfold Aj at h |-;split at h;·cases h
 ·rename_i h1;rw[if_neg h1];rcases A7 (pgAt w b) with⟨e,he,h'⟩|⟨k,g,s,h',_⟩
  ·rw[h',FJ he]at h;cases h
  ·rw[h',FA]at h |-;split at h;·cases h
   rename_i h2;rw[if_neg h2];split at h;·cases h
   rename_i h3;rw[if_neg h3];split at h;·rename_i hk;rw[if_pos (E1 hk)];exact h
   ·cases h
theorem yN {w:Wd}{h:Nat}{b:Int}{lo hi:bA}{P:List Pr}{B:List Int}(ht:Tr (Aj w) h b false lo hi P B):Tr (Aj w) h b true lo hi P B:=by
 cases h with
 | zero=>exact ht.elim
 | succ h=> obtain⟨n,B0,h1,h2,rfl⟩:=Gf ht;exact Md (bB h1) h2
theorem VP {w:Wd}{key:bA}{h:Nat}{P:List Pr}{B:List Int}(hr:WRight w)(h0:w.root≠0)(hT:Tr (Aj w) (h+1) w.root true empS empS P B)(hu:B.Nodup)(h8:h+1<=8):
   ((∀p∈P,p.1≠key)/\(FC w key).2.bad=80)\/((∃p∈P,p.1=key)/\(((FC w key).2.bad=60/\D6 w<2*h+1)\/((FC w key).2.bad=0/\WRight (FC w key).2.w/\D6 w<=D6 (FC w key).2.w+(2*h+1) /\
     ∃h' B' W,Fr w (FC w key).2.w B B' W/\h'<=h+1/\B'.Nodup/\(((FC w key).1=0/\h'=0/\E9 key P=[]/\B'=[])\/(1<=h'/\Tr (Aj (FC w key).2.w) h' (FC w key).1 true empS empS (E9 key P) B'))))):=by
 have hrem:=Se (key:=key) 9 h ⟨w,0⟩ w.root 1 empS empS P B rfl hr hT hu (ET key) (by omega) (by omega) (by omega)
 unfold FC
 dsimp only
 generalize Fb key 9 ⟨w,0⟩ w.root 1=r at hrem |-
 rcases hrem with⟨a1,a2⟩|⟨hthere,⟨a1,a2⟩|⟨a1,a2,a3,a4,a5,B',W,a6,a7,a8⟩⟩
 ·rw[if_pos (by rw[a2];decide)]
  exact .inl ⟨a1,a2⟩
 ·rw[if_pos (by rw[a1];decide)]
  simp only at a2
  exact .inr ⟨hthere,.inl ⟨a1,by omega⟩⟩
 ·rw[if_neg (by rw[a1];simp)]
  simp only at a3 a6
  refine .inr ⟨hthere,?_⟩
  by_cases hk:r.1.keys=[]
  ·rw[if_neg (by simpa using hk)]
   obtain⟨c1,c2,⟨x1,x2,x3,x4,x5,x6,x7⟩|⟨x1,x2,x3⟩⟩:=a8
   ·rw[if_pos x1]
    subst x7
    refine .inr ⟨a1,a2,by dsimp only;omega,0,[],W,a6,by omega,List.nodup_nil,.inl ⟨rfl,rfl,?_,rfl⟩⟩
    rw[x6,hk];rfl
   ·rw[if_neg (by rw[x1];simp)]
    rw[hk]at x3
    have hl:=El x3
    cases hkids:r.1.kids with
    | nil=>rw[hkids]at hl;simp at hl
    | cons c cs=>
     rw[hkids]at hl x3
     have:cs=[]:=by
      cases cs with
      | nil=>rfl
      | cons=>simp at hl
     subst this
     have hTc:Tr (Aj r.2.w) h c false empS empS (E9 key P) B':=x3
     have hh:1<=h:=by
      cases h with
      | zero=>exact hTc.elim
      | succ=>omega
     exact .inr ⟨a1,a2,by dsimp only;omega,h,B',W,a6,by omega,a7,.inr ⟨hh,yN hTc⟩⟩
  ·rw[if_pos hk]
   have hlen:=List.length_pos_iff.2 hk
   have hok:NdOK r.1 true:=⟨a8.stands a2 (by omega) (.inr (by omega)),a5,.inl rfl⟩
   rcases CD a1 a2 hok with⟨b1,b2,_⟩|⟨b1,b2,b3,b4,b5,b6⟩
   ·exact .inl ⟨b1,by omega⟩
   ·have hs:(Ag r.2 r.1).1∉B':=λhx=>by obtain⟨r0,m,hm⟩:=a8.held _ hx;rw[BF hm]at b5;cases b5
    refine .inr ⟨b1,b2,by omega,h+1,_,_,(a6.trans b3 (by simp)).congr (O':=B) (N':=(Ag r.2 r.1).1::B') (λx=>by simp) (λx=>by simp[or_comm]),by omega,List.nodup_cons.2 ⟨hs,a7⟩,.inr ⟨by omega,Ix (a8.frame λx hx r m hm=>b3.hold (by simp) hm) hk (b6 _ hok)⟩⟩
theorem U6 {w:Wd}{key:bA}{h:Nat}{P:List Pr}{B:List Int}(hr:WRight w)(hp:isKeyP key)(ht:IsTree w h P B):
   ((∀p∈P,p.1≠key)/\D1 w key=(O2,80))\/((∃p∈P,p.1=key)/\((D1 w key=(O2,60)/\D6 w<2*h+1)\/∃x,D1 w key=(x,0)/\WRight x/\D6 w<=D6 x+(2*h+1)/\∃h' B' W,Fq w x B B' W/\h'<=h/\IsTree x h' (E9 key P) B')):=by
 unfold D1
 rw[if_neg (by simp;exact⟨hr,hp⟩)]
 rcases id ht with⟨h0,rfl,rfl,rfl⟩|⟨h0,h1,h8,hT,hu⟩
 ·rw[if_pos h0]
  exact .inl ⟨λp hp=>(by cases hp),rfl⟩
 ·rw[if_neg h0]
  obtain⟨j,rfl⟩:∃j,h=j+1:=⟨h-1,by omega⟩
  have hx:=VP (key:=key) hr h0 hT hu h8
  generalize FC w key=r at hx |-
  rcases hx with⟨a1,a2⟩|⟨hthere,⟨a1,a2⟩|⟨a1,a2,a3,h',B',W,a4,a5,a6,a7⟩⟩
  ·exact .inl ⟨a1,by rw[DU (by rw[a2];decide),a2]⟩
  ·exact .inr ⟨hthere,.inl ⟨by rw[DU (by rw[a1];decide),a1],by omega⟩⟩
  ·refine .inr ⟨hthere,.inr ⟨_,Kv a1,EV a2 ?_,(QV r.2.w r.1)▸(by omega),h',B',W,a4.q _,a5,?_⟩⟩
   ·rcases a7 with⟨b1,_⟩|⟨b1,b2⟩
    ·exact .inl b1
    ·obtain⟨r0,m,hm⟩:=b2.held _ b2.root_mem
     have:=CW (CK a2) hm
     exact .inr ⟨this.1,this.2.1⟩
   ·rcases a7 with⟨b1,b2,b3,b4⟩|⟨b1,b2⟩
    ·exact .inl ⟨b1,b2,b3,b4⟩
    ·obtain⟨r0,m,hm⟩:=b2.held _ b2.root_mem
     have:=CW (CK a2) hm
     refine .inr ⟨?_,b1,by omega,b2,a6⟩
     show r.1≠0
     omega
def KB (w:Wd)(n:Nd):Prop:=n.leaf=false->n.keys=[]->dD w ((n.kids[0]?).getD 0)
theorem PA {w:Wd}{e:Ed}{n a b:Nd}{l:Nat}(h:Inv w e)(hk:n.keys≠[]):Inv w (BZ e n l a b).2/\((BZ e n l a b).2.bad=0->KB w (BZ e n l a b).1):=by
 unfold BZ;dsimp only;split
 ·obtain⟨a1,a2⟩:=BE (n:=Aq a ((n.keys[l]?).getD empS) b) h;refine⟨a1,λhb _ he=>?_⟩;have hl:l=0:=by
   have he:n.keys.take l++n.keys.drop (l+1)=[]:=he;have:=(List.append_eq_nil_iff.1 he).1;rcases List.take_eq_nil_iff.1 this with h|h;·exact h
   ·exact absurd h hk
  subst hl;exact(a2 hb).2
 ·obtain⟨a1,a2⟩:=BE (n:=CC (Aq a ((n.keys[l]?).getD empS) b) (AM a b)) h;obtain⟨b1,b2⟩:=BE (n:=Dc (Aq a ((n.keys[l]?).getD empS) b) (AM a b)) a1;refine⟨b1,λhb _ he=>?_⟩;have he:n.keys.take l++_::n.keys.drop (l+1)=[]:=he;simp at he
theorem Qf {w:Wd}{e:Ed}(h:Inv w e):Inv w (K4 e)/\(K4 e).bad≠0:=by
 unfold K4;by_cases hb:e.bad=0;·rw[if_pos hb];exact⟨h.tree,by simp⟩
 ·rw[if_neg hb];exact⟨h,hb⟩
theorem eD {w:Wd}{e:Ed}{n kid:Nd}{i:Nat}{d:Int}(h:Inv w e)(hk:n.keys≠[]):Inv w (B8 e n i kid d).2/\((B8 e n i kid d).2.bad=0->KB w (B8 e n i kid d).1):=by
 unfold B8;by_cases h4:4<=kid.keys.length;·rw[if_pos h4];exact⟨(BE h).1,λ_ _ he=>absurd he hk⟩
 ·rw[if_neg h4];unfold EW;dsimp only;generalize (n.kids[if i-1=i then i+1 else i-1]?).getD 0=o;obtain⟨a1,a2⟩:=DT (b:=o) (d:=d+1) h;by_cases hb:(AI e o (d+1)).2.bad≠0\/(AI e o (d+1)).1.leaf≠kid.leaf;·rw[if_pos hb];have:=Qf a1;exact⟨this.1,λh=>absurd h this.2⟩
  ·rw[if_neg hb];have hb0:(AI e o (d+1)).2.bad=0:=Classical.byContradiction λhc=>hb (.inl hc);obtain⟨c1,c2,c3,c4⟩:=a2 hb0;rw[c2];obtain⟨d1,d2⟩:=Ev h c1 c3;by_cases hi:i-1=i;·rw[if_pos hi];exact PA d1 hk
   ·rw[if_neg hi];exact PA d1 hk
theorem KD {w:Wd}{key:bA}:∀(f:Nat) (e:Ed) (b d:Int),Inv w e->(Fb key f e b d).2.bad=80\/(Inv w (Fb key f e b d).2/\((Fb key f e b d).2.bad=0->KB w (Fb key f e b d).1))
 | 0,e,b,d,h => .inr ⟨h.tree,λhb=>by cases hb⟩
 | f+1,e,b,d,h=>by
  unfold Fb;dsimp only;obtain⟨a1,a2⟩:=DT (b:=b) (d:=d) h;by_cases hb:(AI e b d).2.bad=0
  ·rw[if_neg (by rw[hb];simp)];obtain⟨c1,c2,c3,c4⟩:=a2 hb;rw[c2];generalize (AI e b d).1=n at c3 |-;obtain⟨d1,d2⟩:=Ev h c1 c3;have hok:=Cr c3;by_cases hl:n.leaf=true
   ·rw[if_pos hl];by_cases ha:Dd n.keys key=true;·rw[if_pos ha];exact .inr ⟨d1,λ_ hf=>by have hf:n.leaf=false:=hf;rw[hl]at hf;cases hf⟩
    ·rw[if_neg ha];exact .inl rfl
   ·rw[if_neg hl];have hk:n.keys≠[]:=by
     rcases hok.1.2.2 with⟨hx,_⟩|⟨_,_,hx,_⟩
     ·exact absurd hx hl
     ·exact List.ne_nil_of_length_pos hx
    have ih:=KD (key:=key) f (B7 e b) ((n.kids[Ax n.keys key]?).getD 0) (d+1) d1;by_cases hr:(Fb key f (B7 e b) ((n.kids[Ax n.keys key]?).getD 0) (d+1)).2.bad=0
    ·rw[if_neg (by rw[hr];simp)];rcases ih with ih|ih;·rw[hr]at ih;cases ih
     ·exact .inr (eD ih.1 hk)
    ·rw[if_pos hr];rcases ih with ih|ih;·exact .inl ih
     ·exact .inr ⟨ih.1,λh=>absurd h hr⟩
  ·rw[if_pos hb];exact .inr ⟨a1,λh=>absurd h hb⟩
theorem Yw {w:Wd}{key:bA}(hr:WRight w)(hp:isKeyP key):
   (D1 w key=(O2,60)\/D1 w key=(O2,80)\/D1 w key=(O2,81))\/∃x,D1 w key=(x,0)/\WRight x/\x.base=w.base/\x.gen=w.gen/\x.now.length=w.now.length/\x.pages.length=w.pages.length/\∀b:Int,0<=b->tr w.base b.toNat=true->pgAt x b=pgAt w b:=by
 unfold D1
 rw[if_neg (by simp;exact⟨hr,hp⟩)]
 by_cases h0:w.root=0
 ·rw[if_pos h0];exact .inl (.inr (.inl rfl))
 rw[if_neg h0]
 have hx:(FC w key).2.bad=80\/(Inv w (FC w key).2/\((FC w key).2.bad=0->(FC w key).1=0\/dD w (FC w key).1)):=by
  unfold FC;dsimp only;have hrem:=KD (key:=key) 9 ⟨w,0⟩ w.root 1 (Inv.start hr);generalize Fb key 9 ⟨w,0⟩ w.root 1=r at hrem |-;by_cases hb:r.2.bad=0
  ·rw[if_neg (by rw[hb];simp)];rcases hrem with hrem|⟨a1,a2⟩
   ·rw[hb]at hrem;cases hrem
   by_cases hk:r.1.keys=[]
   ·rw[if_neg (by simpa using hk)];by_cases hl:r.1.leaf=true;·rw[if_pos hl];exact .inr ⟨a1,λ_ => .inl rfl⟩
    ·rw[if_neg hl];exact .inr ⟨a1,λ_ => .inr (a2 hb (by simpa using hl) hk)⟩
   ·rw[if_pos hk];obtain⟨b1,b2⟩:=BE (n:=r.1) a1;exact .inr ⟨b1,λhb => .inr (b2 hb).2⟩
  ·rw[if_pos hb];rcases hrem with hrem|⟨a1,a2⟩
   ·exact .inl hrem
   ·exact .inr ⟨a1,λh=>absurd h hb⟩
 generalize FC w key=r at hx |-
 rcases hx with e|⟨hi,hb⟩
 ·exact .inl (.inr (.inl (by rw[DU (by rw[e];decide),e])))
 rcases hi.bad with e|e|e
 ·refine .inr ⟨_,Kv e,EV hi.right ?_,hi.base,hi.gen,hi.nlen,?_,hi.page⟩
  ·rcases hb e with h|h
   ·exact .inl h
   ·rw[hi.nlen];exact .inr h
  ·have h1:=hi.right.2.1
   have h2:=hr.2.1
   have h3:=hi.nlen
   show r.2.w.pages.length=_
   omega
 ·exact .inl (.inl (by rw[DU (by rw[e];decide),e]))
 ·exact .inl (.inr (.inr (by rw[DU (by rw[e];decide),e])))
theorem XV {key:bA}{P:List Pr}{p:Pr}:p∈E9 key P ↔ (p∈P/\p.1≠key):=by
 unfold E9;rw[List.mem_append,List.mem_filter,List.mem_filter];constructor
 ·rintro(⟨h1,h2⟩|⟨h1,h2⟩);·exact⟨h1,QP h2⟩
  ·exact⟨h1,(QP h2).symm⟩
 ·rintro⟨h1,h2⟩;by_cases h3:lt p.1 key=true;·exact .inl ⟨h1,h3⟩
  ·rcases nlt_iff.1 (by simpa using h3) with e|e;·exact absurd e h2
   ·exact .inr ⟨h1,e⟩
theorem Zm {key:bA}{P:List Pr}(h:VM P):VM (E9 key P):=
 List.pairwise_append.2 ⟨h.filter _,h.filter _,λp hp q hq=>AS (List.mem_filter.1 hp).2 (List.mem_filter.1 hq).2⟩
theorem Ub:∀ {P Q:List Pr},VM P->VM Q->(∀p,p∈P ↔ p∈Q)->P=Q
 | [],[],_,_,_=>rfl
 | [],q::Q,_,_,h=>by have:=(h q).2 (by simp);cases this
 | p::P,[],_,_,h=>by have:=(h p).1 (by simp);cases this
 | p::P,q::Q,hP,hQ,h=>by
  obtain⟨a1,a2⟩:=List.pairwise_cons.1 hP;obtain⟨b1,b2⟩:=List.pairwise_cons.1 hQ;have e:p=q:=by
   rcases List.mem_cons.1 ((h p).1 (by simp)) with e|e;·exact e
   ·rcases List.mem_cons.1 ((h q).2 (by simp)) with e2|e2;·exact e2.symm
    ·exact absurd (AS (a1 q e2) (b1 p e)) (by rw[Cq];simp)
  subst e;rw[Ub a2 b2 λx=>⟨λhx=>?_,λhx=>?_⟩]
  ·rcases List.mem_cons.1 ((h x).1 (by simp[hx])) with e|e;·exact absurd (a1 x hx) (by rw[e,Cq];simp)
   ·exact e
  ·rcases List.mem_cons.1 ((h x).2 (by simp[hx])) with e|e;·exact absurd (b1 x hx) (by rw[e,Cq];simp)
   ·exact e
def Cu {α:Type}(step:Wd->α->Wd×Int):Wd->List α->Wd×Int
 | w,[]=>(w,0)
 | w,c::cs=>if (step w c).2≠0 then (O2,(step w c).2) else Cu step (step w c).1 cs
noncomputable def HB {α:Type}(step:Wd->α->Wd×Int)(w:Wd)(l:List α):Wd×Int:=if ¬WRight w then (O2,1) else Cu step w l
structure Chg where
 gone:Bool
 key:bA
 val:bA
def Chg.ok (c:Chg):Prop:=1<=c.key.size/\c.key.size<=32/\c.val.size<=200/\(c.gone=true->c.val=empS)
noncomputable instance (c:Chg):Decidable c.ok:=Classical.propDecidable _
noncomputable def E3 (w:Wd)(c:Chg):Wd×Int:=
 if c.gone=false then Ea w c.key c.val
 else if ¬isKeyP c.key\/c.val≠empS then (w,1)
 else if (D1 w c.key).2=80 then (w,0) else D1 w c.key
def chP (P:List Pr)(c:Chg):List Pr:=if c.gone then E9 c.key P else EP c.key c.val P
def TreeOf (w:Wd)(P:List Pr):Prop:=WRight w/\∃h B,IsTree w h P B
theorem Kb {w:Wd}{h:Nat}{P:List Pr}{B:List Int}(ht:IsTree w h P B):VM P:=by
 rcases ht with⟨_,_,rfl,_⟩|⟨_,_,_,hT,_⟩
 ·exact List.Pairwise.nil
 ·exact hT.inc (EJ _)
theorem TreeOf.inc {w:Wd}{P:List Pr}(h:TreeOf w P):VM P:=by obtain⟨_,_,_,ht⟩:=h;exact Kb ht
theorem UL {key:bA}{P:List Pr}(h:VM P)(hn:∀p∈P,p.1≠key):E9 key P=P:=
 Ub (Zm h) h λp=>by rw[XV];exact⟨λh=>h.1,λhp=>⟨hp,hn p hp⟩⟩
theorem Hi (k g:Int)(b:bA):TrimS (C6 k g b)=C6 k g b:=by have h:=SX k g b 0;have e:Li (C6 k g b) 0=C6 k g b:=AQ (by rw[Dw];simp);rwa [e]at h
structure Nw (w x:Wd) (O N:List Int):Prop where
 base:x.base=w.base
 gen:x.gen=w.gen
 nlen:x.now.length=w.now.length
 plen:x.pages.length=w.pages.length
 now:∀i:Nat,i<w.now.length->tr x.now i=((tr w.now i && !decide ((i:Int)∈O))||decide ((i:Int)∈N))
 page:∀b:Int,0<=b->tr w.base b.toNat=true->pgAt x b=pgAt w b
 kept:∀i:Nat,i<w.now.length->(i:Int)∈N->(i:Int)∈O\/tr w.now i=false
 tidy:(∀s∈w.pages,TrimS s=s)->∀s∈x.pages,TrimS s=s
theorem Nw.refl (w:Wd)(B:List Int)(h:∀b∈B,tr w.now b.toNat=true):Nw w w B B:=⟨rfl,rfl,rfl,rfl,λi hi=>by
 by_cases hb:(i:Int)∈B;·have:=h _ hb;simp at this;simp[hb,this]
 ·simp[hb],λ_ _ _=>rfl,λi _ h => .inl h,λh=>h⟩
theorem Fq.nw {w x:Wd}{O N W:List Int}(h:Fq w x O N W):Nw w x O N where
 base:=h.base
 gen:=h.gen
 nlen:=h.nlen
 plen:=h.plen
 now:=h.now
 page b hb ht:=h.page b hb λhw=>by have:=(h.wr b hw).2.2.2.1;rw[ht]at this;cases this
 kept i hi hb:=by
  rcases h.kept _ hb with e|e;·have:=(h.wr _ e).2.2.2.2.1;simpa using this
  ·exact .inl e
 tidy ht s hs:=by
  obtain⟨i,hi,rfl⟩:=List.getElem_of_mem hs;have hpl:i<w.pages.length:=by have:=h.plen;have e:({ x with root:=w.root }:Wd).pages.length=x.pages.length:=rfl;omega
  have e1:pgAt ({ x with root:=w.root }:Wd) (i:Int)=x.pages[i]:=by unfold pgAt;rw[Int.toNat_natCast,gI hi];rfl
  have e2:pgAt w (i:Int)=w.pages[i]:=by unfold pgAt;rw[Int.toNat_natCast,gI hpl];rfl
  rw[<-e1];by_cases hw:(i:Int)∈W;·obtain⟨n,_,hp⟩:=(h.wr _ hw).2.2.2.2.2;rw[hp];exact Hi _ _ _
  ·rw[h.page i (by omega) hw,e2];exact ht _ (List.getElem_mem hpl)
theorem Nw.trans {w x y:Wd}{O N M:List Int}(h:Nw w x O N)(g:Nw x y N M):Nw w y O M where
 base:=g.base.trans h.base
 gen:=g.gen.trans h.gen
 nlen:=g.nlen.trans h.nlen
 plen:=g.plen.trans h.plen
 page b hb ht:=by rw[g.page b hb (by rw[h.base];exact ht),h.page b hb ht]
 tidy ht:=g.tidy (h.tidy ht)
 now i hi:=by
  rw[g.now i (by rw[h.nlen];exact hi),h.now i hi];have hk:=h.kept i hi;by_cases h1:(i:Int)∈N
  ·rcases hk h1 with e|e;·simp[h1,e]
   ·simp[h1,e]
  ·simp[h1]
 kept i hi hm:=by
  rcases g.kept i (by rw[h.nlen];exact hi) hm with e|e;·exact h.kept i hi e
  ·rw[h.now i hi]at e;simp only[Bool.or_eq_false_iff,Bool.and_eq_false_iff,Bool.not_eq_false',decide_eq_true_eq]at e;rcases e.1 with e|e;·exact .inr e
   ·exact .inl e
def From (w:Wd)(B:List Int)(x:Wd)(P':List Pr):Prop:=WRight x/\∃h' B',IsTree x h' P' B'/\Nw w x B B'
theorem Oa {w:Wd}{h:Nat}{P:List Pr}{B:List Int}(ht:IsTree w h P B):∀b∈B,tr w.now b.toNat=true:=λb hb=>by obtain⟨r,m,hm⟩:=JX ht b hb;exact BF hm
theorem From.start {w:Wd}{h:Nat}{P:List Pr}{B:List Int}(hr:WRight w)(ht:IsTree w h P B):From w B w P:=⟨hr,h,B,ht,Nw.refl w B (Oa ht)⟩
theorem Yg {w0 w:Wd}{B0:List Int}{P:List Pr}{key val:bA}(h:From w0 B0 w P):(¬isPair key val/\Ea w key val=(O2,1))\/(isPair key val/\(Ea w key val=(O2,60)\/((Ea w key val).2=0/\From w0 B0 (Ea w key val).1 (EP key val P)))):=by
 obtain⟨hr,h',B,ht,hn⟩:=h;by_cases hp:isPair key val
 ·rcases VF hr hp ht with⟨a1,a2⟩|⟨x,a1,a2,a3,h'',B',W,a4,a5,a6⟩
  ·exact .inr ⟨hp,.inl a1⟩
  ·exact .inr ⟨hp,.inr ⟨by rw[a1],by rw[a1];exact⟨a2,h'',B',a6,hn.trans a4.nw⟩⟩⟩
 ·refine .inl ⟨hp,?_⟩;unfold Ea;rw[if_pos (by rintro⟨_,h⟩;exact hp h)]
theorem Xb {w0 w:Wd}{B0:List Int}{P:List Pr}{c:Chg}(h:From w0 B0 w P):(¬c.ok/\(E3 w c).2=1)\/(c.ok/\((E3 w c).2=60\/((E3 w c).2=0/\From w0 B0 (E3 w c).1 (chP P c)))):=by
 unfold E3 chP;by_cases hg:c.gone=false
 ·rw[if_pos hg];have e:isPair c.key c.val ↔ c.ok:=⟨λh=>⟨h.1,h.2.1,h.2.2,λh=>by rw[hg]at h;cases h⟩,λh=>⟨h.1,h.2.1,h.2.2.1⟩⟩
  rcases Yg (key:=c.key) (val:=c.val) h with⟨a1,a2⟩|⟨a1,a2|⟨a2,a3⟩⟩
  ·exact .inl ⟨λh=>a1 (e.2 h),by rw[a2]⟩
  ·exact .inr ⟨e.1 a1,.inl (by rw[a2])⟩
  ·exact .inr ⟨e.1 a1,.inr ⟨a2,by rw[hg];exact a3⟩⟩
 ·have hg:c.gone=true:=by simpa using hg
  rw[if_neg (by rw[hg];simp)];by_cases hb:¬isKeyP c.key\/c.val≠empS
  ·rw[if_pos hb];refine .inl ⟨λh=>?_,rfl⟩;rcases hb with hb|hb;·exact hb ⟨h.1,h.2.1⟩
   ·exact hb (h.2.2.2 hg)
  ·rw[if_neg hb];have hk:isKeyP c.key:=Classical.byContradiction λhc=>hb (.inl hc);have hv:c.val=empS:=Classical.byContradiction λhc=>hb (.inr hc);have hok:c.ok:=⟨hk.1,hk.2,by rw[hv];exact Nat.zero_le _,λ_=>hv⟩
   refine .inr ⟨hok,?_⟩;have hh:=h;obtain⟨hr,h',B,ht,hn⟩:=h;rw[hg,if_pos rfl];rcases U6 hr hk ht with⟨a1,a2⟩|⟨a0,⟨a1,a2⟩|⟨x,a1,a2,a3,h'',B',W,a4,a5,a6⟩⟩
   ·rw[a2,if_pos rfl];exact .inr ⟨rfl,by rw[UL (Kb ht) a1];exact hh⟩
   ·rw[a1,if_neg (by decide)];exact .inl rfl
   ·rw[a1,if_neg (show ¬(0:Int)=80 by decide)];exact .inr ⟨rfl,a2,h'',B',a6,hn.trans a4.nw⟩
theorem O5 {w0 w:Wd}{B0:List Int}{P:List Pr}{l:List Chg}(h:From w0 B0 w P):((Cu E3 w l).2=60\/((Cu E3 w l).2=1/\∃c∈l,¬c.ok))\/((Cu E3 w l).2=0/\(∀c∈l,c.ok)/\From w0 B0 (Cu E3 w l).1 (l.foldl chP P)):=by
 induction l generalizing w P with
 | nil=>exact .inr ⟨rfl,λc hc=>(by cases hc),h⟩
 | cons c cs ih=>
  rw[Cu,List.foldl_cons];rcases Xb (c:=c) h with⟨a1,a2⟩|⟨a1,a2|⟨a2,a3⟩⟩
  ·rw[if_pos (by rw[a2];decide)];exact .inl (.inr ⟨a2,c,by simp,a1⟩)
  ·rw[if_pos (by rw[a2];decide)];exact .inl (.inl a2)
  ·rw[if_neg (by simpa using a2)];rcases ih a3 with b|⟨b1,b2,b3⟩
   ·rcases b with b|⟨b1,x,b2,b3⟩
    ·exact .inl (.inl b)
    ·exact .inl (.inr ⟨b1,x,by simp[b2],b3⟩)
   ·refine .inr ⟨b1,λx hx=>?_,b3⟩;rcases List.mem_cons.1 hx with rfl|hx;·exact a1
    ·exact b2 x hx
theorem Zl {w:Wd}{b g:Int}{r:Bool}{n:Nd}{l:List Bool}(hg:w.gen<=g)(h:Aj w b r=some n):Aj ⟨l,w.now,w.pages,w.root,g⟩ b r=some n:=by
 unfold Aj at h |-;dsimp only;split at h;·cases h
 ·rename_i h1;rw[if_neg h1];have hp:pgAt ⟨l,w.now,w.pages,w.root,g⟩ b=pgAt w b:=rfl;rw[hp];rcases A7 (pgAt w b) with⟨e,he,h'⟩|⟨k,g',s,h',_⟩
  ·rw[h',FJ he]at h;cases h
  ·rw[h',FA]at h |-;split at h;·cases h
   rw[if_neg (by omega)];exact h
theorem IP {w:Wd}{h:Nat}{P:List Pr}{B:List Int}(hr:WRight w)(ht:IsTree w h P B):B.Nodup/\∀b∈B,10<=b/\b<w.now.length:=by
 refine⟨?_,λb hb=>?_⟩
 ·rcases ht with⟨_,_,_,rfl⟩|⟨_,_,_,_,hu⟩
  ·exact List.nodup_nil
  ·exact hu
 ·obtain⟨r,m,hm⟩:=JX ht b hb;have:=CW (CK hr) hm;omega
def newRow (n:Nat):List Bool:=(List.range n).map λi=>decide (i<10)
def Kr (n:Nat):Wd:=⟨newRow n,newRow n,List.replicate n empS,0,1⟩
theorem Jl {n i:Nat}(h:i<n):tr (newRow n) i=decide (i<10):=by simp[tr,newRow,h]
end Go.Proofs.YtegndijbpiccgaaGreatDoor.M
