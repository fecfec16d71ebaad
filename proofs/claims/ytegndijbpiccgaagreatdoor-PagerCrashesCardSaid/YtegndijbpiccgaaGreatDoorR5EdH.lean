import Derived.Test.YtegndijbpiccgaaGreatDoorR5EdB
namespace Go.Proofs.YtegndijbpiccgaaGreatDoor.M
set_option linter.unusedVariables false
set_option linter.unusedSimpArgs false
open Go Go.Mir
theorem CI {α:Type}{l:List α}{i:Nat}(h:i<l.length)(x:α):l.set i x=l.take i++x::l.drop (i+1):=by rw[List.set_eq_take_append_cons_drop,if_pos h]
theorem Th {α:Type}{l:List α}{i:Nat}(h:i<l.length)(x y:α):BH (l.set i x) (i+1) y=l.take i++x::y::l.drop (i+1):=by
 have hl:(l.take i++[x]).length=i+1:=by rw[List.length_append,List.length_take];simp;omega
 have e:l.set i x=(l.take i++[x])++l.drop (i+1):=by rw[CI h];simp
 rw[BH,e,List.take_left' hl,List.drop_left' hl];simp
theorem Ln {R:TR}{k:bA}:∀ {ks:List bA} {cs:List Int} {lo hi:bA} {P:List Pr} {B:List Int},Gy R lo hi (ks++[k]) cs P B->hi=k/\KTr R lo k ks cs P B
 | [],[],_,_,_,_,h=>h.elim
 | [],[c],lo,hi,P,B,h=>by obtain⟨P1,B1,P2,B2,h1,⟨rfl,rfl,rfl⟩,rfl,rfl⟩:=h;exact⟨rfl,by simpa[KTr] using h1⟩
 | [],c::d::cs,lo,hi,P,B,h=>by obtain⟨P1,B1,P2,B2,h1,h2,_⟩:=h;exact h2.elim
 | y::ks,[],_,_,_,_,h=>h.elim
 | y::ks,c::cs,lo,hi,P,B,h=>by obtain⟨P1,B1,P2,B2,h1,h2,rfl,rfl⟩:=h;obtain⟨e,h3⟩:=Ln (ks:=ks) h2;exact⟨e,P1,B1,P2,B2,h1,h3,rfl,rfl⟩
theorem qW {R:TR}{key:bA}(mw:∀c lo hi P B,R c lo hi P B->∀p∈P,within p.1 lo hi=true){ks:List bA}{cs:List Int}{lo hi:bA}{P:List Pr}{B:List Int}(h:KTr R lo hi ks cs P B)
   (hr:Cp ks) (he:∀k∈ks,k≠empS) (hw:∀k∈ks,within k lo hi=true) (hk:within key lo hi=true):
   ∃c lo' hi' P1 P2 P3 B1 B2 B3,cs[Ax ks key]?=some c/\R c lo' hi' P2 B2/\within key lo' hi'=true/\P=P1++(P2++P3)/\B=B1++(B2++B3)/\(∀p∈P1,lt p.1 key=true)/\(∀p∈P3,lt key p.1=true) /\
     (∀s,lt lo' s=true->within s lo' hi'=true->(∀k∈ks.take (Ax ks key),lt k s=true)/\(∀k∈ks.drop (Ax ks key),lt s k=true)/\within s lo hi=true) /\
     ∀S:TR,(∀c lo hi P B',(∀x∈B',x∈B1\/x∈B3)->R c lo hi P B'->S c lo hi P B') ->
       (∀c' P' B',S c' lo' hi' P' B'->KTr S lo hi ks (cs.set (Ax ks key) c') (P1++(P'++P3)) (B1++(B'++B3))) /\
       (∀l r s Pl Bl Pr Br,S l lo' s Pl Bl->S r s hi' Pr Br->KTr S lo hi (BH ks (Ax ks key) s) (BH (cs.set (Ax ks key) l) (Ax ks key+1) r) (P1++((Pl++Pr)++P3)) (B1++((Bl++Br)++B3))):=by
 have hlen:=El h
 have hle:=FF ks key
 obtain⟨mid,P1,B1,PP,BB,s1,s2,rfl,rfl⟩:=Ft h hle
 have hend:=I5 s1
 have hic:Ax ks key<cs.length:=by omega
 have ht:=LW (l:=ks) (x:=key)
 have hd:=KV (x:=key) hr
 have hrs:Cp (ks.take (Ax ks key)++ks.drop (Ax ks key)):=by rw[List.take_append_drop];exact hr
 obtain⟨ra,rb,rc⟩:=List.pairwise_append.1 hrs
 have hmid:lt key mid=false:=by
  rw[hend]
  cases hx:(ks.take (Ax ks key)).getLast? with
  | none=>exact(within_iff.1 hk).1
  | some z=>exact ht z (List.mem_of_getLast? hx)
 have hlow:lt mid lo=false:=by
  rw[hend]
  cases hx:(ks.take (Ax ks key)).getLast? with
  | none=>exact Cq lo
  | some z=>exact(within_iff.1 (hw z (List.mem_of_mem_take (List.mem_of_getLast? hx)))).1
 have hp1:∀p∈P1,lt p.1 key=true:=λp hp=>GZ (K9 mw ra (λk hk=>he k (List.mem_of_mem_take hk)) s1 p hp) hmid
 have htk:∀s,lt mid s=true->∀k∈ks.take (Ax ks key),lt k s=true:=λs hs k hkm=>by
  cases hx:(ks.take (Ax ks key)).getLast? with
  | none=>rw[List.getLast?_eq_none_iff.1 hx]at hkm;cases hkm
  | some z=>
   rw[hx]at hend;obtain⟨l',hl'⟩:=List.getLast?_eq_some_iff.1 hx;have hz:mid=z:=hend;rw[hl']at hkm ra;rcases List.mem_append.1 hkm with h2|h2;·exact AS ((List.pairwise_append.1 ra).2.2 k h2 z (by simp)) (hz▸hs)
   ·obtain rfl:k=z:=by simpa using h2
    exact hz▸hs
 have hget:cs[Ax ks key]?=some cs[Ax ks key]:=gI hic
 have hcd:cs.drop (Ax ks key)=cs[Ax ks key]::cs.drop (Ax ks key+1):=List.drop_eq_getElem_cons hic
 rw[hcd]at s2
 cases hkd:ks.drop (Ax ks key) with
 | nil=>
  rw[hkd]at s2
  have hcl:cs.drop (Ax ks key+1)=[]:=by
   have:(ks.drop (Ax ks key)).length=0:=by rw[hkd];rfl
   rw[List.length_drop]at this;exact List.drop_of_length_le (by omega)
  rw[hcl]at s2
  have s2:R cs[Ax ks key] mid hi PP BB:=s2
  have hks:ks.take (Ax ks key)=ks:=by have:=List.take_append_drop (Ax ks key) ks;rw[hkd,List.append_nil]at this;exact this
  refine⟨_,mid,hi,P1,PP,[],B1,BB,[],hget,s2,within_iff.2 ⟨hmid,(within_iff.1 hk).2⟩,by simp,by simp,hp1,by simp,λs hs hws=>⟨htk s hs,by simp,DB hws hlow⟩,λS m=>⟨λc' P' B' hc=>?_,λl r s Pl Bl Pr Br hl hr'=>?_⟩⟩
  ·have s1':=BD (S:=S) (λc lo hi P B' hB hx=>m c lo hi P B' (λx hx' => .inl (hB x hx')) hx) s1
   have:=FL (ks2:=[]) (cs2:=[c']) s1' (show KTr S mid hi [] [c'] P' B' from hc)
   rw[CI hic,hcl]
   rw[hks,List.append_nil]at this
   simpa using this
  ·have s1':=BD (S:=S) (λc lo hi P B' hB hx=>m c lo hi P B' (λx hx' => .inl (hB x hx')) hx) s1
   have:=FL (ks2:=[s]) (cs2:=[l,r]) s1' (show KTr S mid hi [s] [l,r] (Pl++Pr) (Bl++Br) from⟨Pl,Bl,Pr,Br,hl,hr',rfl,rfl⟩)
   rw[Th hic,hcl,BH,hkd]
   simpa using this
 | cons k ks3=>
  rw[hkd]at s2 rc rb hd
  obtain⟨P2,B2,P3,B3,t1,t2,rfl,rfl⟩:=s2
  have hkin:k∈ks:=List.mem_of_mem_drop (i:=Ax ks key) (by rw[hkd];simp)
  have hkk:lt key k=true:=hd k (by simp)
  have hkrest:=(List.pairwise_cons.1 rb)
  have hwk:=hw k hkin
  have hin:∀x∈ks3,within x k hi=true:=λx hx=>within_iff.2 ⟨BT (hkrest.1 x hx),(within_iff.1 (hw x (List.mem_of_mem_drop (i:=Ax ks key) (by rw[hkd];simp[hx])))).2⟩
  have hp3:∀p∈P3,lt key p.1=true:=λp hp=>by have:=KTr.within mw hkrest.2 (λx hx=>he x (List.mem_of_mem_drop (i:=Ax ks key) (by rw[hkd];simp[hx]))) hin t2 p hp;exact GZ hkk (within_iff.1 this).1
  refine⟨_,mid,k,P1,P2,P3,B1,B2,B3,hget,t1,within_iff.2 ⟨hmid,.inr hkk⟩,rfl,rfl,hp1,hp3,λs hs hws=>⟨htk s hs,λx hx=>?_,?_⟩,λS m=>⟨λc' P' B' hc=>?_,λl r s Pl Bl Pr Br hl hr'=>?_⟩⟩
  ·have hsk:lt s k=true:=by
    rcases(within_iff.1 hws).2 with e|e;·exact absurd e (he k hkin)
    ·exact e
   rcases List.mem_cons.1 hx with rfl|hx
   ·exact hsk
   ·exact AS hsk (hkrest.1 x hx)
  ·exact EX (DB hws hlow) (he k hkin) hwk
  ·have s1':=BD (S:=S) (λc lo hi P B' hB hx=>m c lo hi P B' (λx hx' => .inl (hB x hx')) hx) s1
   have t2':=KTr.mono (S:=S) (λc lo hi P B' hB hx=>m c lo hi P B' (λx hx' => .inr (hB x hx')) hx) t2
   have:=FL (ks2:=k::ks3) (cs2:=c'::cs.drop (Ax ks key+1)) s1' (show KTr S mid hi (k::ks3) (c'::cs.drop (Ax ks key+1)) (P'++P3) (B'++B3) from⟨P',B',P3,B3,hc,t2',rfl,rfl⟩)
   rw[CI hic]
   rw[<-hkd,List.take_append_drop]at this
   exact this
  ·have s1':=BD (S:=S) (λc lo hi P B' hB hx=>m c lo hi P B' (λx hx' => .inl (hB x hx')) hx) s1
   have t2':=KTr.mono (S:=S) (λc lo hi P B' hB hx=>m c lo hi P B' (λx hx' => .inr (hB x hx')) hx) t2
   have:=FL (ks2:=s::k::ks3) (cs2:=l::r::cs.drop (Ax ks key+1)) s1' (show KTr S mid hi (s::k::ks3) (l::r::cs.drop (Ax ks key+1)) ((Pl++Pr)++P3) ((Bl++Br)++B3) from⟨Pl,Bl,Pr++P3,Br++B3,hl,⟨Pr,Br,P3,B3,hr',t2',rfl,rfl⟩,by simp,by simp⟩)
   rw[Th hic,BH,hkd]
   exact this
def Cont (H:Hd)(h:Nat)(lo hi:bA)(n:Nd)(P:List Pr)(B:List Int):Prop:=
 (∀k∈n.keys,within k lo hi=true)/\(n.leaf=true/\h=0/\n.keys≠[]/\P=n.keys.zip n.vals/\B=[]\/n.leaf=false/\KTr (λc lo hi P B=>Tr H h c false lo hi P B) lo hi n.keys n.kids P B)
theorem Md {H:Hd}{h:Nat}{b:Int}{root:Bool}{lo hi:bA}{n:Nd}{P:List Pr}{B:List Int}(h1:H b root=some n)(h2:Cont H h lo hi n P B):Tr H (h+1) b root lo hi P (b::B):=by
 obtain⟨hw,⟨a1,a2,a3,a4,rfl⟩|⟨a1,a2⟩⟩:=h2;·exact⟨n,h1,hw,.inl ⟨a1,a2,a3,a4,rfl⟩⟩
 ·exact⟨n,h1,hw,.inr ⟨a1,B,rfl,a2⟩⟩
theorem Gf {H:Hd}{h:Nat}{b:Int}{root:Bool}{lo hi:bA}{P:List Pr}{B:List Int}(ht:Tr H (h+1) b root lo hi P B):∃n B0,H b root=some n/\Cont H h lo hi n P B0/\B=b::B0:=by
 obtain⟨n,hn,hw,⟨a1,a2,a3,a4,rfl⟩|⟨a1,B',rfl,a2⟩⟩:=ht;·exact⟨n,[],hn,⟨hw,.inl ⟨a1,a2,a3,a4,rfl⟩⟩,rfl⟩
 ·exact⟨n,B',hn,⟨hw,.inr ⟨a1,a2⟩⟩,rfl⟩
theorem Cont.frame {H G:Hd}{h:Nat}{lo hi:bA}{n:Nd}{P:List Pr}{B:List Int}(hc:Cont H h lo hi n P B)(f:∀x∈B,∀r n,H x r=some n->G x r=some n):Cont G h lo hi n P B:=by
 obtain⟨hw,a|⟨a1,a2⟩⟩:=hc;·exact⟨hw,.inl a⟩
 ·exact⟨hw,.inr ⟨a1,KTr.mono (λc lo hi P B' hB hx=>Tr.frame (λx hx'=>f x (hB x hx')) hx) a2⟩⟩
theorem Cont.held {H:Hd}{h:Nat}{lo hi:bA}{n:Nd}{P:List Pr}{B:List Int}(hc:Cont H h lo hi n P B):∀x∈B,∃r n,H x r=some n:=by
 obtain⟨_,⟨_,_,_,_,rfl⟩|⟨_,a2⟩⟩:=hc;·intro x hx;cases hx
 ·exact KTr.mem (Q:=λx=>∃r n,H x r=some n) (λc lo hi P B hc=>Tr.held hc) a2
structure Spl where
 left:Int
 right:Int
 key:bA
 two:Bool
def Z0:Spl:=⟨0,0,empS,false⟩
def EO (n:Nd):Nd:=if n.leaf then ⟨true,n.keys.take 4,n.vals.take 4,[]⟩ else ⟨false,n.keys.take 4,[],n.kids.take 5⟩
def Gv (n:Nd):Nd:=if n.leaf then ⟨true,n.keys.drop 4,n.vals.drop 4,[]⟩ else ⟨false,n.keys.drop 5,[],n.kids.drop 5⟩
def Kh (n:Nd):bA:=(n.keys[4]?).getD empS
theorem Em {l:List bA}(i:Nat)(h:Cp l):Cp (l.take i):=h.take
theorem DF {l:List bA}(i:Nat)(h:Cp l):Cp (l.drop i):=h.drop
theorem mU {H:Hd}{h:Nat}{lo hi:bA}{n:Nd}{P:List Pr}{B:List Int}(hs:Au n)(h9:n.keys.length=9)(hc:Cont H h lo hi n P B):
   NdOK (EO n) false/\NdOK (Gv n) false/\within (Kh n) lo hi=true/\lt lo (Kh n)=true/\1<=(Kh n).size/\(Kh n).size<=32 /\
     ∃Pl Bl Pr Br,Cont H h lo (Kh n) (EO n) Pl Bl/\Cont H h (Kh n) hi (Gv n) Pr Br/\P=Pl++Pr/\B=Bl++Br:=by
 obtain⟨hw,hc⟩:=hc
 obtain⟨_,hkk,hsv⟩:=hs
 obtain⟨hr,hsz⟩:=kok_iff.1 hkk
 have i4:4<n.keys.length:=by omega
 have i3:3<n.keys.length:=by omega
 have ek:Kh n=n.keys[4]:=by rw[Kh,gI i4];rfl
 have hk4:=hsz _ (List.getElem_mem i4)
 have hlt:lt lo n.keys[4]=true:=by have h3:=(within_iff.1 (hw _ (List.getElem_mem i3))).1;exact Pf h3 (List.pairwise_iff_getElem.1 hr 3 4 i3 i4 (by omega))
 have htake:∀k∈n.keys.take 4,within k lo n.keys[4]=true:=λk hk=>by obtain⟨j,hj,hjs,rfl⟩:=G0 hk;exact within_iff.2 ⟨(within_iff.1 (hw _ (List.getElem_mem hj))).1,.inr (List.pairwise_iff_getElem.1 hr j 4 hj i4 hjs)⟩
 have hdrop:∀i,4<=i->∀k∈n.keys.drop i,within k n.keys[4] hi=true:=λi hi4 k hk=>by
  obtain⟨j,hj,hjs,rfl⟩:=Et hk;refine within_iff.2 ⟨?_,(within_iff.1 (hw _ (List.getElem_mem hj))).2⟩;by_cases e:j=4;·subst e;exact Cq _
  ·exact BT (List.pairwise_iff_getElem.1 hr 4 j i4 hj (by omega))
 have kokT:∀i,NC (n.keys.take i):=λi=>kok_iff.2 ⟨Em i hr,λk hk=>hsz k (List.mem_of_mem_take hk)⟩
 have kokD:∀i,NC (n.keys.drop i):=λi=>kok_iff.2 ⟨DF i hr,λk hk=>hsz k (List.mem_of_mem_drop hk)⟩
 rw[ek]
 cases hl:n.leaf with
 | true=>
  rcases hsv with⟨_,v1,v2,v3⟩|⟨h,_⟩
  ·have eL:EO n=⟨true,n.keys.take 4,n.vals.take 4,[]⟩:=by rw[EO,if_pos hl]
   have eR:Gv n=⟨true,n.keys.drop 4,n.vals.drop 4,[]⟩:=by rw[Gv,if_pos hl]
   rcases hc with⟨_,c2,c3,c4,c5⟩|⟨h,_⟩
   ·rw[eL,eR]
    refine⟨⟨⟨by simp;omega,kokT 4,.inl ⟨rfl,rfl,by simp;omega,λv hv=>v3 v (List.mem_of_mem_take hv)⟩⟩,by simp;omega,.inr (by simp;omega)⟩,⟨⟨by simp;omega,kokD 4,.inl ⟨rfl,rfl,by simp;omega,λv hv=>v3 v (List.mem_of_mem_drop hv)⟩⟩,by simp;omega,.inr (by simp;omega)⟩,hw _ (List.getElem_mem i4),hlt,hk4.1,hk4.2,_,[],_,[],
      ⟨htake,.inl ⟨rfl,c2,λe=>?_,rfl,rfl⟩⟩,⟨hdrop 4 (by omega),.inl ⟨rfl,c2,λe=>?_,rfl,rfl⟩⟩,?_,by simpa using c5⟩
    ·have:=congrArg List.length e
     rw[List.length_take,h9]at this;simp at this
    ·have:=congrArg List.length e
     rw[List.length_drop,h9]at this;simp at this
    ·rw[c4];exact Ep 4 v2
   ·rw[hl]at h;cases h
  ·rw[hl]at h;cases h
 | false=>
  rcases hsv with⟨h,_⟩|⟨_,v1,v2,v3,v4⟩
  ·rw[hl]at h;cases h
  ·have eL:EO n=⟨false,n.keys.take 4,[],n.kids.take 5⟩:=by rw[EO,if_neg (by rw[hl];simp)]
   have eR:Gv n=⟨false,n.keys.drop 5,[],n.kids.drop 5⟩:=by rw[Gv,if_neg (by rw[hl];simp)]
   rcases hc with⟨h,_⟩|⟨_,c2⟩
   ·rw[hl]at h;cases h
   ·rw[eL,eR]
    obtain⟨mid,P1,B1,P2,B2,s1,s2,rfl,rfl⟩:=Ft (i:=5) c2 (by omega)
    have e5:n.keys.take 5=n.keys.take 4++[n.keys[4]]:=A3 i4
    rw[e5]at s1
    obtain⟨rfl,s3⟩:=Ln s1
    exact⟨⟨⟨by simp;omega,kokT 4,.inr ⟨rfl,rfl,by simp;omega,by simp;omega,λb hb=>v4 b (List.mem_of_mem_take hb)⟩⟩,by simp;omega,.inr (by simp;omega)⟩,⟨⟨by simp;omega,kokD 5,.inr ⟨rfl,rfl,by simp;omega,by simp;omega,λb hb=>v4 b (List.mem_of_mem_drop hb)⟩⟩,by simp;omega,.inr (by simp;omega)⟩,hw _ (List.getElem_mem i4),hlt,hk4.1,hk4.2,P1,B1,P2,B2,
      ⟨htake,.inr ⟨rfl,s3⟩⟩,⟨hdrop 5 (by omega),.inr ⟨rfl,s2⟩⟩,rfl,rfl⟩
noncomputable def C8 (e:Ed)(n:Nd):Spl×Ed:=
 if n.keys.length<=8 then (⟨(Ag e n).1,0,empS,false⟩,(Ag e n).2)
 else if ¬(Au n/\n.keys.length=9) then (Z0,{ e with bad:=81 })
 else (⟨(Ag e (EO n)).1,(Ag (Ag e (EO n)).2 (Gv n)).1,Kh n,true⟩,(Ag (Ag e (EO n)).2 (Gv n)).2)
def WK (H:Hd)(h:Nat)(root:Bool)(lo hi:bA)(s:Spl)(P:List Pr)(B:List Int):Prop:=
 s.two=false/\Tr H h s.left root lo hi P B \/
 s.two=true/\within s.key lo hi=true/\lt lo s.key=true/\1<=s.key.size/\s.key.size<=32/\∃Pl Bl Pr Br,Tr H h s.left false lo s.key Pl Bl/\Tr H h s.right false s.key hi Pr Br/\P=Pl++Pr/\B=Bl++Br
theorem Hz {e:Ed}{n:Nd}(he:e.bad≠0):Ag e n=(0,e):=by rw[Ag,if_pos he]
theorem E1 {n:Nd}{r:Bool}(h:NdOK n r):NdOK n true:=⟨h.1,h.2.1,.inl rfl⟩
theorem Fr.new {w x:Wd}{N W:List Int}(h:Fr w x [] N W){b:Int}(hb:b∈W):tr w.now b.toNat=false:=by
 rcases(h.wr b hb).2.2.2.2.1 with e|e;·cases e
 ·exact e
theorem TC {e:Ed}{n:Nd}{h:Nat}{root:Bool}{lo hi:bA}{P:List Pr}{B0:List Int}(he:e.bad=0)(hr:WRight e.w)(hs:Au n)(h9:n.keys.length<=9)(h4:root=true\/4<=n.keys.length)
   (hc:Cont (Aj e.w) h lo hi n P B0) (hu:B0.Nodup):
   ((C8 e n).2.bad=60/\D6 e.w<2)\/((C8 e n).2.bad=0/\WRight (C8 e n).2.w/\D6 e.w<=D6 (C8 e n).2.w+2/\∃B X,Fr e.w (C8 e n).2.w [] X X/\B.Nodup/\(∀b,b∈B ↔ b∈X\/b∈B0)/\WK (Aj (C8 e n).2.w) (h+1) root lo hi (C8 e n).1 P B):=by
 have hB0:∀x∈B0,tr e.w.now x.toNat=true:=λx hx=>by obtain⟨r,m,hm⟩:=hc.held x hx;exact BF hm
 unfold C8
 by_cases h8:n.keys.length<=8
 ·rw[if_pos h8]
  have hok:NdOK n root:=⟨hs,h8,h4⟩
  rcases CD he hr (E1 hok) with⟨a1,a2,_⟩|⟨a1,a2,a3,a4,a5,a6⟩
  ·exact .inl ⟨a1,by omega⟩
  ·refine .inr ⟨a1,a2,by dsimp only;omega,(Ag e n).1::B0,[(Ag e n).1],a3,List.nodup_cons.2 ⟨λhx=>?_,hu⟩,λb=>by simp,.inl ⟨rfl,Md (a6 _ hok) (hc.frame λx hx r m hm=>a3.hold (by simp) hm)⟩⟩
   rw[hB0 _ hx]at a5;cases a5
 ·rw[if_neg h8,if_neg (by simp;exact⟨hs,by omega⟩)]
  obtain⟨k1,k2,k3,k4,k5,k6,Pl,Bl,Pr,Br,c1,c2,rfl,rfl⟩:=mU hs (by omega) hc
  rcases CD he hr (E1 k1) with⟨a1,a2,_⟩|⟨a1,a2,a3,a4,a5,a6⟩
  ·rw[Hz (e:=(Ag e (EO n)).2) (n:=Gv n) (by rw[a1];decide)]
   exact .inl ⟨a1,by omega⟩
  ·rcases CD a1 a2 (E1 k2) with⟨b1,b2,_⟩|⟨b1,b2,b3,b4,b5,b6⟩
   ·exact .inl ⟨b1,by omega⟩
   ·generalize (Ag e (EO n)).1=l at a3 a5 a6 |-
    have hl1:tr (Ag e (EO n)).2.w.now l.toNat=true:=BF (a6 _ k1)
    have hB1:∀x∈Bl++Br,tr (Ag e (EO n)).2.w.now x.toNat=true:=λx hx=>by obtain⟨r,m,hm⟩:=hc.held x hx;exact BF (a3.hold (by simp) hm)
    generalize (Ag e (EO n)).2=e1 at a1 a2 a3 a4 a6 b1 b2 b3 b4 b5 b6 hl1 hB1 |-
    generalize (Ag e1 (Gv n)).1=r at b3 b5 b6 |-
    generalize (Ag e1 (Gv n)).2=e2 at b1 b2 b3 b4 b6 |-
    have hfr:=a3.trans b3 (by simp)
    have hlr:l≠r:=λh=>by rw[h]at hl1;rw[hl1]at b5;cases b5
    have hlB:l∉Bl++Br:=λhx=>by rw[hB0 _ hx]at a5;cases a5
    have hrB:r∉Bl++Br:=λhx=>by rw[hB1 _ hx]at b5;cases b5
    refine .inr ⟨b1,b2,by omega,(l::Bl)++(r::Br),_,hfr,?_,λb=>?_,.inr ⟨rfl,k3,k4,k5,k6,Pl,l::Bl,Pr,r::Br,Md (b3.hold (by simp) (a6 _ k1)) (c1.frame λx hx r m hm=>b3.hold (by simp) (a3.hold (by simp) hm)),Md (b6 _ k2) (c2.frame λx hx r m hm=>b3.hold (by simp) (a3.hold (by simp) hm)),rfl,rfl⟩⟩
    ·obtain⟨u1,u2,u3⟩:=List.nodup_append.1 hu
     simp only[List.mem_append,not_or]at hlB hrB
     refine List.nodup_append.2 ⟨List.nodup_cons.2 ⟨hlB.1,u1⟩,List.nodup_cons.2 ⟨hrB.2,u2⟩,λx hx y hy=>?_⟩
     rcases List.mem_cons.1 hx with rfl|hx<;>rcases List.mem_cons.1 hy with rfl|hy
     ·exact hlr
     ·rintro rfl;exact hlB.2 hy
     ·rintro rfl;exact hrB.1 hx
     ·exact u3 x hx y hy
    ·simp only[List.mem_append,List.mem_cons,List.not_mem_nil,or_false]
     constructor
     ·rintro((h|h)|(h|h))<;>simp[h]
     ·rintro((h|h)|(h|h))<;>simp[h]
noncomputable def Cs (n:Nd)(key val:bA):Nd:=
 if Dd n.keys key then ⟨n.leaf,n.keys,n.vals.set (AL n.keys key) val,n.kids⟩ else ⟨n.leaf,BH n.keys (AL n.keys key) key,BH n.vals (AL n.keys key) val,n.kids⟩
def BP (n:Nd)(i:Nat)(s:Spl):Nd:=
 if s.two then ⟨n.leaf,BH n.keys i s.key,n.vals,BH (n.kids.set i s.left) (i+1) s.right⟩ else ⟨n.leaf,n.keys,n.vals,n.kids.set i s.left⟩
noncomputable def Dn (key val:bA):Nat->Ed->Int->Int->Spl×Ed
 | 0,e,_,_=>(Z0,{ e with bad:=81 })
 | f+1,e,b,d=>
   let n:=(AI e b d).1
   let e1:=(AI e b d).2
   if e1.bad≠0 then (Z0,e1) else
   let e2:=B7 e1 b
   if n.leaf then C8 e2 (Cs n key val) else
   let i:=Ax n.keys key
   let r:=Dn key val f e2 ((n.kids[i]?).getD 0) (d+1)
   if r.2.bad≠0 then (Z0,r.2) else C8 r.2 (BP n i r.1)
theorem SQ {H:Hd}{h:Nat}{lo hi key val:bA}{n:Nd}{P:List Pr}{B:List Int}(hk:1<=key.size/\key.size<=32)(hv:val.size<=200)(hs:Au n)(h8:n.keys.length<=8)(hl:n.leaf=true)(hw:within key lo hi=true)(hc:Cont H h lo hi n P B):
   Au (Cs n key val)/\(Cs n key val).keys.length<=9/\n.keys.length<=(Cs n key val).keys.length/\Cont H h lo hi (Cs n key val) (EP key val P) B:=by
 have hr:=(kok_iff.1 hs.2.1).1
 have hz:=(kok_iff.1 hs.2.1).2
 obtain⟨s1,s2,⟨_,v1,v2,v3⟩|⟨hx,_⟩⟩:=hs
 ·obtain⟨c1,⟨_,c3,c4,rfl,rfl⟩|⟨hx,_⟩⟩:=hc
  ·unfold Cs
   cases ha:Dd n.keys key with
   | true=>
    rw[if_pos rfl]
    refine⟨⟨s1,s2,.inl ⟨hl,v1,by simpa using v2,λv hx=>?_⟩⟩,s1,Nat.le_refl _,c1,.inl ⟨hl,c3,c4,(XS hr v2 ha).symm,rfl⟩⟩
    rcases List.mem_or_eq_of_mem_set hx with h|rfl
    ·exact v3 v h
    ·exact hv
   | false=>
    rw[if_neg (by simp)]
    have hi:=EU n.keys key
    have hlen:=C5 key hi
    have hlenv:=C5 (l:=n.vals) (i:=AL n.keys key) val (by omega)
    have hri:=PR hr (λk hk=>Fz k hk) (Jo hr ha)
    refine⟨⟨by dsimp only;omega,kok_iff.2 ⟨hri,λk hx=>?_⟩,.inl ⟨hl,v1,by dsimp only;omega,λv hx=>?_⟩⟩,by dsimp only;omega,by dsimp only;omega,λk hx=>?_,.inl ⟨hl,c3,λe=>?_,(YN hr v2 ha).symm,rfl⟩⟩
    ·rcases insAt_mem.1 hx with rfl|h
     ·exact hk
     ·exact hz k h
    ·rcases insAt_mem.1 hx with rfl|h
     ·exact hv
     ·exact v3 v h
    ·rcases insAt_mem.1 hx with rfl|h
     ·exact hw
     ·exact c1 k h
    ·have:=congrArg List.length e
     dsimp only at this
     rw[hlen]at this;simp at this
  ·rw[hl]at hx;cases hx
 ·rw[hl]at hx;cases hx
theorem Qs {G:Hd}{h i:Nat}{lo hi lo' hi':bA}{n:Nd}{s:Spl}{P1 P2 P3:List Pr}{B1 B2 B3:List Int}(hs:Au n)(h8:n.keys.length<=8)(hl:n.leaf=false)(hw:∀k∈n.keys,within k lo hi=true)(hic:i<=n.keys.length)
   (hsp:WK G h false lo' hi' s P2 B2)
   (hsep:∀s,lt lo' s=true->within s lo' hi'=true->(∀k∈n.keys.take i,lt k s=true)/\(∀k∈n.keys.drop i,lt s k=true)/\within s lo hi=true)
   (hS1:∀c' P' B',Tr G h c' false lo' hi' P' B'->KTr (λc lo hi P B=>Tr G h c false lo hi P B) lo hi n.keys (n.kids.set i c') (P1++(P'++P3)) (B1++(B'++B3)))
   (hS2:∀l r s Pl Bl Pr Br,Tr G h l false lo' s Pl Bl->Tr G h r false s hi' Pr Br->KTr (λc lo hi P B=>Tr G h c false lo hi P B) lo hi (BH n.keys i s) (BH (n.kids.set i l) (i+1) r) (P1++((Pl++Pr)++P3)) (B1++((Bl++Br)++B3)))
   (hrg:∀c lo hi P B,Tr G h c false lo hi P B->10<=c/\c<2048):
   Au (BP n i s)/\(BP n i s).keys.length<=9/\n.keys.length<=(BP n i s).keys.length/\Cont G h lo hi (BP n i s) (P1++(P2++P3)) (B1++(B2++B3)):=by
 have hr:=(kok_iff.1 hs.2.1).1
 have hz:=(kok_iff.1 hs.2.1).2
 obtain⟨s1,s2,⟨hx,_⟩|⟨_,v1,v2,v3,v4⟩⟩:=hs
 ·rw[hl]at hx;cases hx
 unfold BP
 rcases hsp with⟨ht,hT⟩|⟨ht,k1,k2,k3,k4,Pl,Bl,Pr,Br,t1,t2,rfl,rfl⟩
 ·rw[ht,if_neg (by simp)]
  refine⟨⟨s1,s2,.inr ⟨hl,v1,v2,by simpa using v3,λb hb=>?_⟩⟩,s1,Nat.le_refl _,hw,.inr ⟨hl,hS1 _ _ _ hT⟩⟩
  rcases List.mem_or_eq_of_mem_set hb with h|rfl
  ·exact v4 b h
  ·exact hrg _ _ _ _ _ hT
 ·rw[ht,if_pos rfl]
  obtain⟨g1,g2,g3⟩:=hsep _ k2 k1
  have hlen:=C5 s.key hic
  have hlk:=C5 (l:=n.kids.set i s.left) (i:=i+1) s.right (by simp;omega)
  rw[List.length_set]at hlk
  refine⟨⟨by dsimp only;omega,kok_iff.2 ⟨PR hr g1 g2,λk hx=>?_⟩,.inr ⟨hl,v1,by dsimp only;omega,by dsimp only;omega,λb hb=>?_⟩⟩,by dsimp only;omega,by dsimp only;omega,λk hx=>?_,.inr ⟨hl,hS2 _ _ _ _ _ _ _ t1 t2⟩⟩
  ·rcases insAt_mem.1 hx with rfl|h
   ·exact⟨k3,k4⟩
   ·exact hz k h
  ·rcases insAt_mem.1 hb with rfl|h
   ·exact hrg _ _ _ _ _ t2
   ·rcases List.mem_or_eq_of_mem_set h with h|rfl
    ·exact v4 b h
    ·exact hrg _ _ _ _ _ t1
  ·rcases insAt_mem.1 hx with rfl|h
   ·exact g3
   ·exact hw k h
theorem SY {w:Wd}(hn:w.now.length<=2048){h:Nat}{c:Int}{r:Bool}{lo hi:bA}{P:List Pr}{B:List Int}(ht:Tr (Aj w) h c r lo hi P B):10<=c/\c<2048:=by
 cases h with
 | zero=>exact ht.elim
 | succ h=> obtain⟨n,B0,h1,_,_⟩:=Gf ht;have:=CW hn h1;omega
theorem KE {e:Ed}{b d:Int}{n:Nd}(he:e.bad=0)(hn:Aj e.w b (d==1)=some n)(hd:d<=8):AI e b d=(n,e):=by unfold AI;rw[if_neg (by rw[he];simp),hn];dsimp only;rw[if_neg (by omega)]
theorem TM {w:Wd}{h:Nat}{c:Int}{r:Bool}{lo hi:bA}{P:List Pr}{B:List Int}(ht:Tr (Aj w) h c r lo hi P B)(hn:w.now.length<=2048):∀x∈B,tr w.now x.toNat=true/\10<=x:=λx hx=>by obtain⟨r,m,hm⟩:=ht.held x hx;exact⟨BF hm,(CW hn hm).1⟩
theorem Fr.fresh {w x:Wd}{O N W:List Int}(h:Fr w x O N W){b:Int}(hb:b∈N)(hO:b∉O):tr w.now b.toNat=false:=by
 rcases h.kept b hb with e|e;·exact((h.wr b e).2.2.2.2.1).resolve_left hO
 ·exact absurd e hO
set_option maxHeartbeats 1000000 in
theorem Xe {key val:bA}(hk:1<=key.size/\key.size<=32)(hv:val.size<=200):∀(f h:Nat) (e:Ed) (b d:Int) (lo hi:bA) (P:List Pr) (B:List Int),e.bad=0->WRight e.w->Tr (Aj e.w) h b (d==1) lo hi P B->B.Nodup->within key lo hi=true->1<=d->d-1+h<=8->h<=f ->
   ((Dn key val f e b d).2.bad=60/\D6 e.w<2*h)\/((Dn key val f e b d).2.bad=0/\WRight (Dn key val f e b d).2.w/\D6 e.w<=D6 (Dn key val f e b d).2.w+2*h/\∃B' W,Fr e.w (Dn key val f e b d).2.w B B' W/\B'.Nodup/\WK (Aj (Dn key val f e b d).2.w) h (d==1) lo hi (Dn key val f e b d).1 (EP key val P) B')
 | f,0,e,b,d,lo,hi,P,B,_,_,ht,_,_,_,_,_=>ht.elim
 | 0,h+1,e,b,d,lo,hi,P,B,_,_,ht,_,_,_,_,hf=>by omega
 | f+1,h+1,e,b,d,lo,hi,P,B,he,hr,ht,hu,hw,hd,h8,hf=>by
  have hnow:=CK hr;have hheld:=TM ht hnow;obtain⟨n,B0,hn,hc,rfl⟩:=Gf ht;have hok:=Cr hn;obtain⟨ub,u0⟩:=List.nodup_cons.1 hu;unfold Dn;rw[KE he hn (by omega)];dsimp only;rw[if_neg (by rw[he];simp)];obtain⟨d1,d2,d3,d4⟩:=IK he hr hn;generalize B7 e b=e1 at d1 d2 d3 d4 |-;have hc1:Cont (Aj e1.w) h lo hi n P B0:=hc.frame λx hx r m hm=>d3.hold (by
   intro hxb;obtain rfl:x=b:=by simpa using hxb
   exact ub hx) hm
  cases hl:n.leaf with
  | true=>
   rw[if_pos rfl];obtain⟨p1,p2,p3,p4⟩:=SQ hk hv hok.1 hok.2.1 hl hw hc1;rcases TC (root:=d==1) d1 d2 p1 p2 (hok.2.2.imp id λh=>by omega) p4 u0 with⟨a1,a2⟩|⟨a1,a2,a3,B',X,a4,a5,a6,a7⟩
   ·exact .inl ⟨a1,by omega⟩
   ·have hfr:=(d3.trans a4 (by simp)).keep B0 (λx hx=>⟨(hheld x (by simp[hx])).1,λhxb=>by
     obtain rfl:x=b:=by simpa using hxb
     exact ub hx,by have:=(hheld x (by simp[hx])).2;omega⟩)
    exact .inr ⟨a1,a2,by omega,B',_,hfr.congr (λx=>by simp) (λx=>by rw[a6];simp),a5,a7⟩
  | false=>
   rw[if_neg (by simp)];obtain⟨c1,⟨hx,_⟩|⟨_,c2⟩⟩:=hc1;·rw[hl]at hx;cases hx
   obtain⟨kr,kz⟩:=kok_iff.1 hok.1.2.1;obtain⟨c,lo',hi',P1,P2,P3,B1,B2,B3,q1,q2,q3,rfl,rfl,q6,q7,q8,q9⟩:=qW (key:=key) (λc lo hi P B hc=>hc.within (EJ _)) c2 kr (λk hk e=>by have:=(kz k hk).1;rw[e]at this;exact absurd this (by decide)) c1 hw;rw[q1];simp only[Option.getD_some];have e2:(d+1==1)=false:=by simp;omega
   have ih:=Xe hk hv f h e1 c (d+1) lo' hi' P2 B2 d1 d2 (by rw[e2];exact q2) (by exact(List.nodup_append.1 (List.nodup_append.1 u0).2.1).1) q3 (by omega) (by omega) (by omega);rw[e2]at ih;generalize Dn key val f e1 c (d+1)=r at ih |-;rcases ih with⟨a1,a2⟩|⟨a1,a2,a3,B',W,a4,a5,a6⟩
   ·rw[if_pos (by rw[a1];decide)];exact .inl ⟨a1,by omega⟩
   ·rw[if_neg (by rw[a1];simp)];have hd13:∀x,x∈B1\/x∈B3->x∉B2:=λx hx hx2=>by
     obtain⟨n1,n2,n3⟩:=List.nodup_append.1 u0;obtain⟨n4,n5,n6⟩:=List.nodup_append.1 n2;rcases hx with hx|hx;·exact n3 x hx x (by simp[hx2]) rfl
     ·exact n6 x hx2 x hx rfl
    obtain⟨hS1,hS2⟩:=q9 (λc lo hi P B=>Tr (Aj r.2.w) h c false lo hi P B) (λc lo hi P B' hB hT=>Tr.frame (λx hx r m hm=>a4.hold (hd13 x (hB x hx)) hm) hT);have hnow3:=CK a2;obtain⟨p1,p2,p3,p4⟩:=Qs hok.1 hok.2.1 hl c1 (FF _ _) a6 q8 hS1 hS2 (λc lo hi P B hT=>SY hnow3 hT);have hsib:∀x,x∈B1\/x∈B3->x∉B':=λx hx hx2=>by
     have h1:=(hheld x (by rcases hx with h|h<;>simp[h])).1;have h2:=(a4.fresh hx2 (hd13 x hx))
     have hxb:x≠b:=λe=>by subst e;exact ub (by rcases hx with h|h<;>simp[h])
     have hx10:=(hheld x (by rcases hx with h|h<;>simp[h])).2;obtain⟨r0,m,hm⟩:=ht.held x (by rcases hx with h|h<;>simp[h]);have h3:=BF (d3.hold (by simpa using hxb) hm);rw[h3]at h2;cases h2
    have hnd:(B1++(B'++B3)).Nodup:=by
     obtain⟨n1,n2,n3⟩:=List.nodup_append.1 u0;obtain⟨n4,n5,n6⟩:=List.nodup_append.1 n2;refine List.nodup_append.2 ⟨n1,List.nodup_append.2 ⟨a5,n5,λx hx y hy e=>?_⟩,λx hx y hy e=>?_⟩;·subst e;exact hsib x (.inr hy) hx
     ·subst e;rcases List.mem_append.1 hy with hy|hy;·exact hsib x (.inl hx) hy
      ·exact n3 x hx x (by simp[hy]) rfl
    rcases TC (root:=d==1) a1 a2 p1 p2 (hok.2.2.imp id λh=>by omega) p4 hnd with⟨g1,g2⟩|⟨g1,g2,g3,B'',X,g4,g5,g6,g7⟩
    ·exact .inl ⟨g1,by omega⟩
    ·have hfr:=((d3.trans a4 (by simp)).trans g4 (by simp)).keep (B1++B3) (λx hx=>by
      have hx:=List.mem_append.1 hx;have hm:x∈b::(B1++(B2++B3)):=by rcases hx with h|h<;>simp[h]
      refine⟨(hheld x hm).1,λhxo=>?_,by have:=(hheld x hm).2;omega⟩;have hxb:x≠b:=λe=>by subst e;exact ub (by rcases hx with h|h<;>simp[h])
      have:x∈B2:=by simpa[hxb] using hxo
      exact hd13 x hx this)
     refine .inr ⟨g1,g2,by omega,B'',_,hfr.congr (λx=>?_) (λx=>?_),g5,?_⟩
     ·simp only[List.mem_append,List.mem_cons,List.not_mem_nil,or_false];constructor;·rintro((h|h)|(h|h))<;>simp[h]
      ·rintro(h|h|h|h)<;>simp[h]
     ·rw[g6];simp only[List.mem_append,List.nil_append];constructor;·rintro((h|h)|(h|h))<;>simp[h]
      ·rintro(h|h|h|h)<;>simp[h]
     ·rw[VC q6 q7];exact g7
structure Inv (w:Wd) (e:Ed):Prop where
 right:WRight e.w
 base:e.w.base=w.base
 gen:e.w.gen=w.gen
 root:e.w.root=w.root
 nlen:e.w.now.length=w.now.length
 page:∀b:Int,0<=b->tr w.base b.toNat=true->pgAt e.w b=pgAt w b
 bad:e.bad=0\/e.bad=60\/e.bad=81
theorem Inv.start {w:Wd}(h:WRight w):Inv w ⟨w,0⟩:=⟨h,rfl,rfl,rfl,rfl,λ_ _ _=>rfl,.inl rfl⟩
theorem Inv.tree {w:Wd}{e:Ed}(h:Inv w e):Inv w { e with bad:=81 }:=⟨h.right,h.base,h.gen,h.root,h.nlen,h.page,.inr (.inr rfl)⟩
theorem Inv.step {w:Wd}{e e':Ed}{O N W:List Int}(h:Inv w e)(f:Fr e.w e'.w O N W)(hr:WRight e'.w)(hb:e'.bad=0\/e'.bad=60\/e'.bad=81):Inv w e' where
 right:=hr
 base:=f.base.trans h.base
 gen:=f.gen.trans h.gen
 root:=f.root.trans h.root
 nlen:=f.nlen.trans h.nlen
 page b hb ht:=by rw[f.page b hb λhw=>?_,h.page b hb ht];have:=(f.wr b hw).2.2.2.1;rw[h.base,ht]at this;cases this
 bad:=hb
def dD (w:Wd)(b:Int):Prop:=10<=b/\b<w.now.length
theorem BE {w:Wd}{e:Ed}{n:Nd}(h:Inv w e):Inv w (Ag e n).2/\((Ag e n).2.bad=0->e.bad=0/\dD w (Ag e n).1):=by
 by_cases he:e.bad=0
 ·by_cases hok:NdOK n true
  ·rcases CD he h.right hok with⟨a1,a2,a3⟩|⟨a1,a2,a3,a4,a5,a6⟩
   ·refine⟨⟨by rw[a3];exact h.right,by rw[a3];exact h.base,by rw[a3];exact h.gen,by rw[a3];exact h.root,by rw[a3];exact h.nlen,by rw[a3];exact h.page,.inr (.inl a1)⟩,λhb=>?_⟩;rw[a1]at hb;cases hb
   ·refine⟨h.step a3 a2 (.inl a1),λ_=>⟨he,?_⟩⟩;have:=a3.wr (Ag e n).1 (by simp);rw[h.nlen]at this;exact⟨this.2.1,this.2.2.1⟩
  ·unfold Ag;rw[if_neg (by rw[he];simp),if_pos hok];exact⟨h.tree,λhb=>by cases hb⟩
 ·rw[Hz he];exact⟨h,λhb=>absurd hb he⟩
theorem DT {w:Wd}{e:Ed}{b d:Int}(h:Inv w e):Inv w (AI e b d).2/\((AI e b d).2.bad=0->e.bad=0/\(AI e b d).2=e/\Aj e.w b (d==1)=some (AI e b d).1/\d<=8):=by
 unfold AI;by_cases he:e.bad=0
 ·rw[if_neg (by rw[he];simp)]
  cases hh:Aj e.w b (d==1) with
  | none=>exact⟨h.tree,λhb=>by cases hb⟩
  | some n=>
   dsimp only;by_cases hd:d > 8;·rw[if_pos hd];exact⟨h.tree,λhb=>by cases hb⟩
   ·rw[if_neg hd];exact⟨h,λ_=>⟨he,rfl,rfl,by omega⟩⟩
 ·rw[if_pos he];exact⟨h,λhb=>absurd hb he⟩
theorem Ev {w:Wd}{e:Ed}{b:Int}{r:Bool}{n:Nd}(h:Inv w e)(he:e.bad=0)(hh:Aj e.w b r=some n):Inv w (B7 e b)/\(B7 e b).bad=0:=by obtain⟨a1,a2,a3,a4⟩:=IK he h.right hh;exact⟨h.step a3 a2 (.inl a1),a1⟩
theorem PM {w:Wd}{e:Ed}{n:Nd}(h:Inv w e):Inv w (C8 e n).2/\((C8 e n).2.bad=0->dD w (C8 e n).1.left/\((C8 e n).1.two=true->dD w (C8 e n).1.right)):=by
 unfold C8;by_cases h8:n.keys.length<=8;·rw[if_pos h8];obtain⟨a1,a2⟩:=BE (n:=n) h;exact⟨a1,λhb=>⟨(a2 hb).2,λh=>by cases h⟩⟩
 ·rw[if_neg h8];by_cases hs:Au n/\n.keys.length=9;·rw[if_neg (by simpa using hs)];obtain⟨a1,a2⟩:=BE (n:=EO n) h;obtain⟨b1,b2⟩:=BE (n:=Gv n) a1;exact⟨b1,λhb=>⟨(a2 (b2 hb).1).2,λ_=>(b2 hb).2⟩⟩
  ·rw[if_pos hs];exact⟨h.tree,λhb=>by cases hb⟩
theorem KH {w:Wd}{key val:bA}:∀(f:Nat) (e:Ed) (b d:Int),Inv w e ->
   Inv w (Dn key val f e b d).2/\((Dn key val f e b d).2.bad=0->dD w (Dn key val f e b d).1.left/\((Dn key val f e b d).1.two=true->dD w (Dn key val f e b d).1.right))
 | 0,e,b,d,h=>⟨h.tree,λhb=>by cases hb⟩
 | f+1,e,b,d,h=>by
  unfold Dn;dsimp only;obtain⟨a1,a2⟩:=DT (b:=b) (d:=d) h;by_cases hb:(AI e b d).2.bad=0
  ·rw[if_neg (by rw[hb];simp)];obtain⟨c1,c2,c3,c4⟩:=a2 hb;rw[c2];generalize (AI e b d).1=n at c3 |-;obtain⟨d1,d2⟩:=Ev h c1 c3;by_cases hl:n.leaf=true;·rw[if_pos hl];exact PM d1
   ·rw[if_neg hl];have ih:=KH (key:=key) (val:=val) f (B7 e b) ((n.kids[Ax n.keys key]?).getD 0) (d+1) d1;by_cases hr:(Dn key val f (B7 e b) ((n.kids[Ax n.keys key]?).getD 0) (d+1)).2.bad=0;·rw[if_neg (by rw[hr];simp)];exact PM ih.1
    ·rw[if_pos hr];exact⟨ih.1,λhb=>absurd hb hr⟩
  ·rw[if_pos hb];exact⟨a1,λh=>absurd h hb⟩
def O2:Wd:=⟨[],[],[],0,0⟩
noncomputable def MY (e:Ed):Wd×Int:=if e.bad≠0 then (O2,e.bad) else (e.w,0)
noncomputable def BO (r:Int×Ed):Ed := { r.2 with w := { r.2.w with root:=r.1 } }
def isPair (key val:bA):Prop:=1<=key.size/\key.size<=32/\val.size<=200
instance (key val:bA):Decidable (isPair key val):=by unfold isPair;infer_instance
noncomputable def GS (w:Wd)(key val:bA):Int×Ed:=
 if w.root=0 then Ag ⟨w,0⟩ ⟨true,[key],[val],[]⟩ else
 let r:=Dn key val 9 ⟨w,0⟩ w.root 1
 if r.1.two=true then Ag r.2 ⟨false,[r.1.key],[],[r.1.left,r.1.right]⟩ else (r.1.left,r.2)
noncomputable def Ea (w:Wd)(key val:bA):Wd×Int:=
 if ¬(WRight w/\isPair key val) then (O2,1) else MY (BO (GS w key val))
def Fq (w x:Wd)(O N W:List Int):Prop:=Fr w { x with root:=w.root } O N W
theorem Fr.q {w x:Wd}{O N W:List Int}(h:Fr w x O N W)(r:Int):Fq w { x with root:=r } O N W:=by
 unfold Fq;have e:({ { x with root:=r } with root:=w.root }:Wd)=x:=by obtain⟨b,n,p,r0,g⟩:=x;have:=h.root;simp only at this;simp[this]
 rw[e];exact h
theorem EV {w:Wd}{r:Int}(h:WRight w)(hr:r=0\/(10<=r/\r<w.now.length)):WRight { w with root:=r }:=by obtain⟨a1,a2,a3,a4,a5,a6⟩:=h;exact⟨a1,a2,a3,a4,hr,a6⟩
theorem ET (key:bA):within key empS empS=true:=within_iff.2 ⟨pO key,.inl rfl⟩
def Sq:Nat->Nat
 | 0=>1
 | n+1=>5*Sq n
theorem H7 {R:TR}{m:Nat}(h:∀c lo hi P B,R c lo hi P B->m<=B.length):∀ {ks:List bA} {cs:List Int} {lo hi:bA} {P:List Pr} {B:List Int},KTr R lo hi ks cs P B->m*cs.length<=B.length
 | [],[],_,_,_,_,hk=>hk.elim
 | [],[c],_,_,_,_,hk=>by have:=h _ _ _ _ _ hk;simpa using this
 | [],_::_::_,_,_,_,_,hk=>hk.elim
 | _::_,[],_,_,_,_,hk=>hk.elim
 | k::ks,c::cs,lo,hi,P,B,hk=>by obtain⟨P1,B1,P2,B2,h1,h2,rfl,rfl⟩:=hk;have g1:=h _ _ _ _ _ h1;have g2:=H7 h h2;rw[List.length_append,List.length_cons,Nat.mul_add];omega
theorem NM {H:Hd}(ho:gK H):∀(h:Nat) (b:Int) (lo hi:bA) (P:List Pr) (B:List Int),Tr H (h+1) b false lo hi P B->Sq h<=B.length
 | 0,b,lo,hi,P,B,ht=>by have:=List.length_pos_of_mem ht.root_mem;simp only[Sq];omega
 | h+1,b,lo,hi,P,B,ht=>by
  obtain⟨n,B0,hn,⟨_,⟨_,hx,_⟩|⟨hl,hk⟩⟩,rfl⟩:=Gf ht;·omega
  ·have:=H7 (m:=Sq h) (λc lo hi P B hc=>NM ho h c lo hi P B hc) hk;have hlen:=El hk;have h4:=(ho _ _ _ hn).2.2;have h4:4<=n.keys.length:=h4.resolve_left (by simp);have:Sq h*5<=Sq h*n.kids.length:=Nat.mul_le_mul_left _ (by omega);simp only[Sq,List.length_cons];omega
theorem Qg {H:Hd}(ho:gK H){h:Nat}{b:Int}{lo hi:bA}{P:List Pr}{B:List Int}(ht:Tr H (h+2) b true lo hi P B):2*Sq h<B.length:=by
 obtain⟨n,B0,hn,⟨_,⟨_,hx,_⟩|⟨hl,hk⟩⟩,rfl⟩:=Gf ht;·omega
 ·have:=H7 (m:=Sq h) (λc lo hi P B hc=>NM ho h c lo hi P B hc) hk;have hlen:=El hk;have h1:1<=n.keys.length:=by
   rcases(ho _ _ _ hn).1.2.2 with⟨h,_⟩|⟨_,_,h,_⟩
   ·rw[hl]at h;cases h
   ·exact h
  have:Sq h*2<=Sq h*n.kids.length:=Nat.mul_le_mul_left _ (by omega);rw[List.length_cons];omega
theorem nR {i j:Nat}(h:i<=j):Sq i<=Sq j:=by
 induction h with
 | refl=>exact Nat.le_refl _
 | step _ ih=>simp only[Sq];omega
theorem Nt:∀ {n:Nat} {B:List Int},B.Nodup->(∀x∈B,0<=x/\x<n)->B.length<=n
 | 0,[],_,_=>Nat.le_refl _
 | 0,x::B,_,h=>by have:=h x (by simp);omega
 | n+1,B,hu,h=>by
  have h1:=Nt (n:=n) (hu.erase (n:Int)) λx hx=>by
   have hm:=h x (List.mem_of_mem_erase hx);have hne:x≠n:=λe=>by subst e;exact(List.Nodup.not_mem_erase hu) hx
   omega
  have h2:=List.length_erase (a:=(n:Int)) (l:=B);split at h2<;>omega
theorem Mb {w:Wd}(hr:WRight w){h:Nat}{P:List Pr}{B:List Int}(ht:IsTree w h P B):h<=6:=by
 rcases ht with⟨_,rfl,_⟩|⟨_,_,_,ht,hu⟩
 ·omega
 ·refine Classical.byContradiction λhc=>?_;obtain⟨j,rfl⟩:∃j,h=j+2:=⟨h-2,by omega⟩
  have h1:=Qg (EJ w) ht;have hn:=CK hr;have h2:=Nt hu (n:=2048) λx hx=>by obtain⟨r,m,hm⟩:=ht.held x hx;have:=CW hn hm;omega
  have h3:=nR (show 5<=j by omega);have h4:Sq 5=3125:=by decide
  omega
theorem QV (w:Wd)(r:Int):D6 { w with root:=r } = D6 w:=by
 have h:∀i,DZ { w with root:=r } i=DZ w i:=λi=>by
  induction i with
  | zero=>rfl
  | succ i ih=>rw[DZ,DZ,ih];rfl
 exact h _
theorem DU {r:Int×Ed}(h:r.2.bad≠0):MY (BO r)=(O2,r.2.bad):=by unfold MY BO;rw[if_pos (by exact h)]
theorem Kv {r:Int×Ed}(h:r.2.bad=0):MY (BO r)=({ r.2.w with root:=r.1 },0):=by unfold MY BO;rw[if_neg (by simpa using h)]
theorem S8 {k:bA}(h:1<=k.size/\k.size<=32):NC [k]:=kok_iff.2 ⟨List.pairwise_singleton _ _,λx hx=>by
 obtain rfl:x=k:=by simpa using hx
 exact h⟩
theorem QH {key val:bA}(hp:isPair key val):NdOK ⟨true,[key],[val],[]⟩ true:=by
 refine⟨⟨by simp,S8 ⟨hp.1,hp.2.1⟩,.inl ⟨rfl,rfl,rfl,λv hv=>?_⟩⟩,by simp,.inl rfl⟩;obtain rfl:v=val:=by simpa using hv
 exact hp.2.2
theorem Vl {w:Wd}{key val:bA}{h:Nat}{P:List Pr}{B:List Int}(hr:WRight w)(hp:isPair key val)(ht:IsTree w h P B):
   ((GS w key val).2.bad=60/\D6 w<2*h+1)\/((GS w key val).2.bad=0/\WRight (GS w key val).2.w/\D6 w<=D6 (GS w key val).2.w+(2*h+1) /\
     ∃h' B' W,Fr w (GS w key val).2.w B B' W/\1<=h'/\h'<=h+1/\Tr (Aj (GS w key val).2.w) h' (GS w key val).1 true empS empS (EP key val P) B'/\B'.Nodup):=by
 unfold GS
 rcases id ht with⟨h0,rfl,rfl,rfl⟩|⟨h0,h1,h8,hT,hu⟩
 ·rw[if_pos h0]
  rcases CD (e:=⟨w,0⟩) rfl hr (QH hp) with⟨a1,a2,_⟩|⟨a1,a2,a3,a4,a5,a6⟩
  ·exact .inl ⟨a1,by simp only at a2;omega⟩
  ·refine .inr ⟨a1,a2,by simp only at a4;omega,1,_,_,a3,by omega,by omega,Md (a6 _ (QH hp)) ⟨λk _=>ET k,.inl ⟨rfl,rfl,by simp,rfl,rfl⟩⟩,by simp⟩
 ·rw[if_neg h0]
  have hlow:=Mb hr ht
  dsimp only
  have hput:=Xe ⟨hp.1,hp.2.1⟩ hp.2.2 9 h ⟨w,0⟩ w.root 1 empS empS P B rfl hr hT hu (ET key) (by omega) (by omega) (by omega)
  generalize Dn key val 9 ⟨w,0⟩ w.root 1=r at hput |-
  rcases hput with⟨a1,a2⟩|⟨a1,a2,a3,B',W,a4,a5,a6⟩
  ·refine .inl ⟨?_,by simp only at a2;omega⟩
   by_cases ht2:r.1.two=true
   ·rw[if_pos ht2,Hz (by rw[a1];decide)];exact a1
   ·rw[if_neg ht2];exact a1
  ·simp only at a3 a4
   rcases a6 with⟨b1,b2⟩|⟨b1,b2,b3,b4,b5,Pl,Bl,Pr,Br,b6,b7,b8,b9⟩
   ·rw[if_neg (by rw[b1];simp)]
    exact .inr ⟨a1,a2,by dsimp only;omega,h,B',W,a4,h1,by omega,b2,a5⟩
   ·rw[if_pos b1]
    have hnow:=CK a2
    have hok:NdOK ⟨false,[r.1.key],[],[r.1.left,r.1.right]⟩ true:=by
     refine⟨⟨by simp,S8 ⟨b4,b5⟩,.inr ⟨rfl,rfl,by simp,by simp,λb hb=>?_⟩⟩,by simp,.inl rfl⟩;rcases List.mem_cons.1 hb with rfl|hb;·exact SY hnow b6
     ·obtain rfl:b=r.1.right:=by simpa using hb
      exact SY hnow b7
    rcases CD a1 a2 hok with⟨c1,c2,_⟩|⟨c1,c2,c3,c4,c5,c6⟩
    ·exact .inl ⟨c1,by omega⟩
    ·have hc:Cont (Aj r.2.w) h empS empS ⟨false,[r.1.key],[],[r.1.left,r.1.right]⟩ (EP key val P) B':=⟨λk _=>ET k,.inr ⟨rfl,Pl,Bl,Pr,Br,b6,b7,b8,b9⟩⟩
     refine .inr ⟨c1,c2,by omega,h+1,_,_,(a4.trans c3 (by simp)).congr (O':=B) (N':=(Ag r.2 ⟨false,[r.1.key],[],[r.1.left,r.1.right]⟩).1::B') (λx=>by simp) (λx=>by simp[or_comm]),by omega,by omega,
       Md (c6 _ hok) (hc.frame λx hx r m hm=>c3.hold (by simp) hm),List.nodup_cons.2 ⟨λhx=>?_,a5⟩⟩
     obtain⟨r0,m,hm⟩:=hc.held _ hx
     have:=BF hm
     rw[c5]at this;cases this
theorem VF {w:Wd}{key val:bA}{h:Nat}{P:List Pr}{B:List Int}(hr:WRight w)(hp:isPair key val)(ht:IsTree w h P B):
   (Ea w key val=(O2,60)/\D6 w<2*h+1)\/∃x,Ea w key val=(x,0)/\WRight x/\D6 w<=D6 x+(2*h+1)/\∃h' B' W,Fq w x B B' W/\h'<=h+1/\IsTree x h' (EP key val P) B':=by
 unfold Ea
 rw[if_neg (by simp;exact⟨hr,hp⟩)]
 have hx:=Vl hr hp ht
 generalize GS w key val=r at hx |-
 rcases hx with⟨a1,a2⟩|⟨a1,a2,a3,h',B',W,a4,a5,a6,a7,a8⟩
 ·exact .inl ⟨by rw[DU (by rw[a1];decide),a1],a2⟩
 ·have hlow:=Mb hr ht
  have hb:10<=r.1/\r.1<r.2.w.now.length:=by obtain⟨r0,m,hm⟩:=a7.held _ a7.root_mem;have:=CW (CK a2) hm;omega
  refine .inr ⟨_,Kv a1,EV a2 (.inr hb),(QV r.2.w r.1)▸a3,h',B',W,a4.q _,a6,.inr ⟨by show r.1≠0;omega,a5,by omega,a7,a8⟩⟩
theorem YZ {w:Wd}{key val:bA}(hr:WRight w)(hp:isPair key val):
   (Ea w key val=(O2,60)\/Ea w key val=(O2,81))\/∃x,Ea w key val=(x,0)/\WRight x/\x.base=w.base/\x.gen=w.gen/\x.now.length=w.now.length/\x.pages.length=w.pages.length/\∀b:Int,0<=b->tr w.base b.toNat=true->pgAt x b=pgAt w b:=by
 unfold Ea
 rw[if_neg (by simp;exact⟨hr,hp⟩)]
 have hx:Inv w (GS w key val).2/\((GS w key val).2.bad=0->dD w (GS w key val).1):=by
  unfold GS;by_cases h0:w.root=0;·rw[if_pos h0];obtain⟨a1,a2⟩:=BE (n:=⟨true,[key],[val],[]⟩) (Inv.start hr);exact⟨a1,λhb=>(a2 hb).2⟩
  ·rw[if_neg h0];dsimp only;obtain⟨a1,a2⟩:=KH (key:=key) (val:=val) 9 ⟨w,0⟩ w.root 1 (Inv.start hr);by_cases ht:(Dn key val 9 ⟨w,0⟩ w.root 1).1.two=true;·rw[if_pos ht];obtain⟨b1,b2⟩:=BE (n:=⟨false,[(Dn key val 9 ⟨w,0⟩ w.root 1).1.key],[],[(Dn key val 9 ⟨w,0⟩ w.root 1).1.left,(Dn key val 9 ⟨w,0⟩ w.root 1).1.right]⟩) a1;exact⟨b1,λhb=>(b2 hb).2⟩
   ·rw[if_neg ht];exact⟨a1,λhb=>(a2 hb).1⟩
 generalize GS w key val=r at hx |-
 obtain⟨hi,hb⟩:=hx
 rcases hi.bad with e|e|e
 ·refine .inr ⟨_,Kv e,EV hi.right (.inr ?_),hi.base,hi.gen,hi.nlen,?_,hi.page⟩
  ·have:=hb e
   rw[hi.nlen];exact this
  ·have h1:=hi.right.2.1
   have h2:=hr.2.1
   have h3:=hi.nlen
   show r.2.w.pages.length=_
   omega
 ·exact .inl (.inl (by rw[DU (by rw[e];decide),e]))
 ·exact .inl (.inr (by rw[DU (by rw[e];decide),e]))
theorem OS {R:TR}{k hi:bA}{ks2:List bA}{cs2:List Int}{P2:List Pr}{B2:List Int}(h2:KTr R k hi ks2 cs2 P2 B2):∀ {ks1:List bA} {cs1:List Int} {lo:bA} {P1:List Pr} {B1:List Int},KTr R lo k ks1 cs1 P1 B1->KTr R lo hi (ks1++k::ks2) (cs1++cs2) (P1++P2) (B1++B2)
 | [],[],_,_,_,h=>h.elim
 | [],[c],lo,P1,B1,h=>⟨P1,B1,P2,B2,h,h2,rfl,rfl⟩
 | [],_::_::_,_,_,_,h=>h.elim
 | _::_,[],_,_,_,h=>h.elim
 | y::ks1,c::cs1,lo,P1,B1,h=>by obtain⟨Q1,C1,Q2,C2,g1,g2,rfl,rfl⟩:=h;exact⟨Q1,C1,Q2++P2,C2++B2,g1,OS h2 g2,by simp,by simp⟩
def Tail (R:TR)(hi' hi:bA)(kr:List bA)(cr:List Int)(P:List Pr)(B:List Int):Prop:=
 kr=[]/\cr=[]/\hi'=hi/\P=[]/\B=[]\/∃kr',kr=hi'::kr'/\KTr R hi' hi kr' cr P B
theorem Tail.mono {R S:TR}{hi' hi:bA}{kr:List bA}{cr:List Int}{P:List Pr}{B:List Int}(m:∀c lo hi P B',(∀x∈B',x∈B)->R c lo hi P B'->S c lo hi P B')(h:Tail R hi' hi kr cr P B):Tail S hi' hi kr cr P B:=by
 rcases h with h|⟨kr',h1,h2⟩
 ·exact .inl h
 ·exact .inr ⟨kr',h1,KTr.mono m h2⟩
theorem TK {R:TR}{ks:List bA}{cs:List Int}{lo hi:bA}{P:List Pr}{B:List Int}{l:Nat}(h:KTr R lo hi ks cs P B)(hl:l<ks.length):
   ∃mid hi' c1 c2 P1 Pa Pb P3 B1 Ba Bb B3,cs[l]?=some c1/\cs[l+1]?=some c2/\R c1 mid ks[l] Pa Ba/\R c2 ks[l] hi' Pb Bb/\P=P1++((Pa++Pb)++P3)/\B=B1++((Ba++Bb)++B3) /\
    Gy R lo mid (ks.take l) (cs.take l) P1 B1/\Tail R hi' hi (ks.drop (l+1)) (cs.drop (l+2)) P3 B3:=by
 have hlen:=El h
 obtain⟨mid,P1,B1,PP,BB,s1,s2,rfl,rfl⟩:=Ft h (Nat.le_of_lt hl)
 have h1:l<cs.length:=by omega
 have h2:l+1<cs.length:=by omega
 rw[List.drop_eq_getElem_cons hl,List.drop_eq_getElem_cons h1]at s2
 obtain⟨Pa,Ba,PQ,BQ,t1,t2,rfl,rfl⟩:=s2
 rw[List.drop_eq_getElem_cons h2]at t2
 cases hk:ks.drop (l+1) with
 | nil=>
  rw[hk]at t2
  have hc:cs.drop (l+1+1)=[]:=by
   have:(ks.drop (l+1)).length=0:=by rw[hk];rfl
   rw[List.length_drop]at this;exact List.drop_of_length_le (by omega)
  rw[hc]at t2
  exact⟨mid,hi,_,_,P1,Pa,PQ,[],B1,Ba,BQ,[],gI h1,gI h2,t1,t2,by simp,by simp,s1,.inl ⟨rfl,hc,rfl,rfl,rfl⟩⟩
 | cons k kr=>
  rw[hk]at t2
  obtain⟨Pb,Bb,P3,B3,u1,u2,rfl,rfl⟩:=t2
  exact⟨mid,k,_,_,P1,Pa,Pb,P3,B1,Ba,Bb,B3,gI h1,gI h2,t1,u1,by simp,by simp,s1,.inr ⟨kr,rfl,u2⟩⟩
theorem OJ {S:TR}{lo mid hi' hi:bA}{k1 m kr:List bA}{c1 cm cr:List Int}{P1 Pm P3:List Pr}{B1 Bm B3:List Int}(h1:Gy S lo mid k1 c1 P1 B1)(h2:KTr S mid hi' m cm Pm Bm)(h3:Tail S hi' hi kr cr P3 B3):
   KTr S lo hi (k1++(m++kr)) (c1++(cm++cr)) (P1++(Pm++P3)) (B1++(Bm++B3)):=by
 refine FL h1 ?_
 rcases h3 with⟨rfl,rfl,rfl,rfl,rfl⟩|⟨kr',rfl,h4⟩
 ·simpa using h2
 ·exact OS h4 h2
def CR (H:Hd)(h:Nat)(lo hi:bA)(n:Nd)(P:List Pr)(B:List Int):Prop:=
 (∀k∈n.keys,within k lo hi=true)/\NC n.keys /\
 (n.leaf=true/\h=0/\n.kids=[]/\n.vals.length=n.keys.length/\(∀v∈n.vals,v.size<=200)/\P=n.keys.zip n.vals/\B=[] \/
  n.leaf=false/\n.vals=[]/\KTr (λc lo hi P B=>Tr H h c false lo hi P B) lo hi n.keys n.kids P B)
theorem Cont.cr {H:Hd}{h:Nat}{lo hi:bA}{n:Nd}{P:List Pr}{B:List Int}(hs:Au n)(hc:Cont H h lo hi n P B):CR H h lo hi n P B:=by
 obtain⟨s1,s2,s3⟩:=hs;obtain⟨c1,⟨c2,c3,c4,c5,c6⟩|⟨c2,c3⟩⟩:=hc
 ·rcases s3 with⟨_,v1,v2,v3⟩|⟨hx,_⟩
  ·exact⟨c1,s2,.inl ⟨c2,c3,v1,v2,v3,c5,c6⟩⟩
  ·rw[c2]at hx;cases hx
 ·rcases s3 with⟨hx,_⟩|⟨_,v1,_⟩
  ·rw[c2]at hx;cases hx
  ·exact⟨c1,s2,.inr ⟨c2,v1,c3⟩⟩
theorem CR.cont {H:Hd}{h:Nat}{lo hi:bA}{n:Nd}{P:List Pr}{B:List Int}(hc:CR H h lo hi n P B)(hk:n.keys≠[]):Cont H h lo hi n P B:=by
 obtain⟨c1,c2,⟨a1,a2,a3,a4,a5,a6,a7⟩|⟨a1,a2,a3⟩⟩:=hc;·exact⟨c1,.inl ⟨a1,a2,hk,a6,a7⟩⟩
 ·exact⟨c1,.inr ⟨a1,a3⟩⟩
theorem OP {R:TR}{Q:Int->Prop}(h:∀c lo hi P B,R c lo hi P B->Q c):∀ {ks:List bA} {cs:List Int} {lo hi:bA} {P:List Pr} {B:List Int},KTr R lo hi ks cs P B->∀c∈cs,Q c
 | [],[],_,_,_,_,hk=>hk.elim
 | [],[c],_,_,_,_,hk=>λx hx=>by
  obtain rfl:x=c:=by simpa using hx
  exact h _ _ _ _ _ hk
 | [],_::_::_,_,_,_,_,hk=>hk.elim
 | _::_,[],_,_,_,_,hk=>hk.elim
 | k::ks,c::cs,lo,hi,P,B,hk=>λx hx=>by
  obtain⟨P1,B1,P2,B2,h1,h2,rfl,rfl⟩:=hk;rcases List.mem_cons.1 hx with rfl|hx;·exact h _ _ _ _ _ h1
  ·exact OP h h2 x hx
theorem CR.stands {w:Wd}(hr:WRight w){h:Nat}{lo hi:bA}{n:Nd}{P:List Pr}{B:List Int}(hc:CR (Aj w) h lo hi n P B)(h9:n.keys.length<=9)(h1:n.leaf=true\/1<=n.keys.length):Au n:=by
 obtain⟨c1,c2,⟨a1,a2,a3,a4,a5,a6,a7⟩|⟨a1,a2,a3⟩⟩:=hc;·exact⟨h9,c2,.inl ⟨a1,a3,a4,a5⟩⟩
 ·refine⟨h9,c2,.inr ⟨a1,a2,?_,El a3,OP (λc lo hi P B ht=>SY (CK hr) ht) a3⟩⟩;rcases h1 with h1|h1;·rw[a1]at h1;cases h1
  ·exact h1
theorem CR.frame {H G:Hd}{h:Nat}{lo hi:bA}{n:Nd}{P:List Pr}{B:List Int}(hc:CR H h lo hi n P B)(f:∀x∈B,∀r n,H x r=some n->G x r=some n):CR G h lo hi n P B:=by
 obtain⟨c1,c2,a|⟨a1,a2,a3⟩⟩:=hc;·exact⟨c1,c2,.inl a⟩
 ·exact⟨c1,c2,.inr ⟨a1,a2,KTr.mono (λc lo hi P B' hB hx=>Tr.frame (λx hx'=>f x (hB x hx')) hx) a3⟩⟩
theorem CR.held {H:Hd}{h:Nat}{lo hi:bA}{n:Nd}{P:List Pr}{B:List Int}(hc:CR H h lo hi n P B):∀x∈B,∃r n,H x r=some n:=by
 obtain⟨c1,c2,⟨_,_,_,_,_,_,rfl⟩|⟨a1,a2,a3⟩⟩:=hc;·intro x hx;cases hx
 ·exact KTr.mem (Q:=λx=>∃r n,H x r=some n) (λc lo hi P B hc=>Tr.held hc) a3
def Aq (a:Nd)(k:bA)(b:Nd):Nd:=
 if a.leaf then ⟨true,a.keys++b.keys,a.vals++b.vals,[]⟩ else ⟨false,a.keys++k::b.keys,[],a.kids++b.kids⟩
def CC (n:Nd)(c:Nat):Nd:=if n.leaf then ⟨true,n.keys.take c,n.vals.take c,[]⟩ else ⟨false,n.keys.take c,[],n.kids.take (c+1)⟩
def Dc (n:Nd)(c:Nat):Nd:=if n.leaf then ⟨true,n.keys.drop c,n.vals.drop c,[]⟩ else ⟨false,n.keys.drop (c+1),[],n.kids.drop (c+1)⟩
def Gt (n:Nd)(c:Nat):bA:=(n.keys[c]?).getD empS
theorem Jb {l1 l2:List bA}(h1:Cp l1)(h2:Cp l2)(h:∀x∈l1,∀y∈l2,lt x y=true):Cp (l1++l2):=List.pairwise_append.2 ⟨h1,h2,h⟩
theorem gZ {R:TR}(m:∀c lo hi P B,R c lo hi P B->P≠[]):∀ {ks:List bA} {cs:List Int} {lo hi:bA} {P:List Pr} {B:List Int},KTr R lo hi ks cs P B->P≠[]
 | [],[],_,_,_,_,hk=>hk.elim
 | [],[c],_,_,_,_,hk=>m _ _ _ _ _ hk
 | [],_::_::_,_,_,_,_,hk=>hk.elim
 | _::_,[],_,_,_,_,hk=>hk.elim
 | k::ks,c::cs,lo,hi,P,B,hk=>by obtain⟨P1,B1,P2,B2,h1,h2,rfl,rfl⟩:=hk;have:=m _ _ _ _ _ h1;simp[this]
theorem YB {H:Hd}(ho:gK H):∀(h:Nat) (b:Int) (lo hi:bA) (P:List Pr) (B:List Int),Tr H h b false lo hi P B->P≠[]
 | 0,_,_,_,_,_,ht=>ht.elim
 | h+1,b,lo,hi,P,B,ht=>by
  obtain⟨n,B0,hn,⟨_,⟨hl,_,hk,hP,_⟩|⟨hl,hk⟩⟩,rfl⟩:=Gf ht
  ·rcases(ho _ _ _ hn).1.2.2 with⟨_,_,hv,_⟩|⟨hx,_⟩
   ·rw[hP];intro e;have:=congrArg List.length e;rw[List.length_zip,hv,Nat.min_self,List.length_nil]at this;have h0:=List.length_pos_iff.2 hk;omega
   ·rw[hl]at hx;cases hx
  ·exact gZ (λc lo hi P B hc=>YB ho h c lo hi P B hc) hk
theorem pM {R:TR}(mw:∀c lo hi P B,R c lo hi P B->∀p∈P,within p.1 lo hi=true)(m:∀c lo hi P B,R c lo hi P B->P≠[]){ks:List bA}{cs:List Int}{lo hi:bA}{P:List Pr}{B:List Int}(hr:Cp ks)(he:∀k∈ks,k≠empS)(h:KTr R lo hi ks cs P B):∀k∈ks,lt lo k=true:=by
 cases ks with
 | nil=>intro k hk;cases hk
 | cons k ks=>
  cases cs with
  | nil=>exact h.elim
  | cons c cs=>
   obtain⟨P1,B1,P2,B2,h1,h2,rfl,rfl⟩:=h;obtain⟨p,hp⟩:=List.exists_mem_of_ne_nil _ (m _ _ _ _ _ h1);obtain⟨g1,g2⟩:=within_iff.1 (mw _ _ _ _ _ h1 p hp);have g2:=g2.resolve_left (he k (by simp));have hk:lt lo k=true:=by
    rcases nlt_iff.1 g1 with e|e;·first | exact e▸g2|exact e.symm▸g2
    ·exact AS e g2
   intro x hx;rcases List.mem_cons.1 hx with rfl|hx;·exact hk
   ·exact AS hk ((List.pairwise_cons.1 hr).1 x hx)
theorem O6 {H:Hd}(ho:gK H){h:Nat}{lo k hi:bA}{a b:Nd}{Pa Pb:List Pr}{Ba Bb:List Int}(hk:1<=k.size/\k.size<=32)(hw:within k lo hi=true)(ha:CR H h lo k a Pa Ba)(hb:CR H h k hi b Pb Bb)(hl:a.leaf=b.leaf):
   CR H h lo hi (Aq a k b) (Pa++Pb) (Ba++Bb)/\(Aq a k b).leaf=a.leaf:=by
 have hke:k≠empS:=λe=>by have:=hk.1;rw[e]at this;exact absurd this (by decide)
 obtain⟨a1,a2,a3⟩:=ha
 obtain⟨b1,b2,b3⟩:=hb
 obtain⟨ar,az⟩:=kok_iff.1 a2
 obtain⟨br,bz⟩:=kok_iff.1 b2
 obtain⟨w1,w2⟩:=within_iff.1 hw
 have ak:∀x∈a.keys,lt x k=true:=λx hx=>by
  rcases(within_iff.1 (a1 x hx)).2 with e|e;·exact absurd e hke
  ·exact e
 have bk:∀x∈b.keys,lt x k=false:=λx hx=>(within_iff.1 (b1 x hx)).1
 have aw:∀x∈a.keys,within x lo hi=true:=λx hx=>EX (a1 x hx) hke hw
 have bw:∀x∈b.keys,within x lo hi=true:=λx hx=>DB (b1 x hx) w1
 unfold Aq
 rcases a3 with⟨x1,x2,x3,x4,x5,x6,x7⟩|⟨x1,x2,x3⟩
 ·rw[x1]at hl |-
  rw[if_pos rfl]
  rcases b3 with⟨y1,y2,y3,y4,y5,y6,y7⟩|⟨y1,_⟩
  ·refine⟨⟨λx hx=>?_,kok_iff.2 ⟨Jb ar br λx hx y hy=>GZ (ak x hx) (bk y hy),λx hx=>?_⟩,.inl ⟨rfl,x2,rfl,by simp;omega,λv hv=>?_,?_,by rw[x7,y7];rfl⟩⟩,rfl⟩
   ·rcases List.mem_append.1 hx with h|h
    ·exact aw x h
    ·exact bw x h
   ·rcases List.mem_append.1 hx with h|h
    ·exact az x h
    ·exact bz x h
   ·rcases List.mem_append.1 hv with h|h
    ·exact x5 v h
    ·exact y5 v h
   ·rw[x6,y6];exact(List.zip_append (by omega)).symm
  ·rw[y1]at hl;cases hl
 ·rw[x1]at hl |-
  rw[if_neg (by simp)]
  rcases b3 with⟨y1,_⟩|⟨y1,y2,y3⟩
  ·rw[y1]at hl;cases hl
  ·have hbr:∀x∈b.keys,lt k x=true:=pM (λc lo hi P B hc=>hc.within ho) (λc lo hi P B hc=>YB ho h c lo hi P B hc) br (λx hx e=>by have:=(bz x hx).1;rw[e]at this;exact absurd this (by decide)) y3
   refine⟨⟨λx hx=>?_,kok_iff.2 ⟨Jb ar (List.pairwise_cons.2 ⟨hbr,br⟩) λx hx y hy=>?_,λx hx=>?_⟩,.inr ⟨rfl,rfl,OS y3 x3⟩⟩,rfl⟩
   ·rcases List.mem_append.1 hx with h|h
    ·exact aw x h
    ·rcases List.mem_cons.1 h with rfl|h
     ·exact hw
     ·exact bw x h
   ·rcases List.mem_cons.1 hy with rfl|hy
    ·exact ak x hx
    ·exact AS (ak x hx) (hbr y hy)
   ·rcases List.mem_append.1 hx with h|h
    ·exact az x h
    ·rcases List.mem_cons.1 h with rfl|h
     ·exact hk
     ·exact bz x h
theorem qO {H:Hd}{h c:Nat}{lo hi:bA}{n:Nd}{P:List Pr}{B:List Int}(hc:CR H h lo hi n P B)(i4:c<n.keys.length)(h1:1<=c):
   within (Gt n c) lo hi=true/\lt lo (Gt n c)=true/\1<=(Gt n c).size/\(Gt n c).size<=32/\(∀k∈n.keys.take c,lt k (Gt n c)=true)/\Gt n c∈n.keys/\(CC n c).leaf=n.leaf/\(Dc n c).leaf=n.leaf/\(CC n c).keys=n.keys.take c/\(Dc n c).keys=n.keys.drop (if n.leaf then c else c+1) /\
     ∃Pl Bl Pr Br,CR H h lo (Gt n c) (CC n c) Pl Bl/\CR H h (Gt n c) hi (Dc n c) Pr Br/\P=Pl++Pr/\B=Bl++Br:=by
 obtain⟨hw,hkk,hc⟩:=hc
 obtain⟨hr,hsz⟩:=kok_iff.1 hkk
 have i3:c-1<n.keys.length:=by omega
 have ek:Gt n c=n.keys[c]:=by rw[Gt,gI i4];rfl
 have hk4:=hsz _ (List.getElem_mem i4)
 have hlt:lt lo n.keys[c]=true:=by have h3:=(within_iff.1 (hw _ (List.getElem_mem i3))).1;exact Pf h3 (List.pairwise_iff_getElem.1 hr (c-1) c i3 i4 (by omega))
 have hlow:∀k∈n.keys.take c,lt k n.keys[c]=true:=λk hk=>by obtain⟨j,hj,hjs,rfl⟩:=G0 hk;exact List.pairwise_iff_getElem.1 hr j c hj i4 hjs
 have htake:∀k∈n.keys.take c,within k lo n.keys[c]=true:=λk hk=>by obtain⟨j,hj,hjs,rfl⟩:=G0 hk;exact within_iff.2 ⟨(within_iff.1 (hw _ (List.getElem_mem hj))).1,.inr (List.pairwise_iff_getElem.1 hr j c hj i4 hjs)⟩
 have hdrop:∀i,c<=i->∀k∈n.keys.drop i,within k n.keys[c] hi=true:=λi hi4 k hk=>by
  obtain⟨j,hj,hjs,rfl⟩:=Et hk;refine within_iff.2 ⟨?_,(within_iff.1 (hw _ (List.getElem_mem hj))).2⟩;by_cases e:j=c;·subst e;exact Cq _
  ·exact BT (List.pairwise_iff_getElem.1 hr c j i4 hj (by omega))
 have kokT:∀i,NC (n.keys.take i):=λi=>kok_iff.2 ⟨Em i hr,λk hk=>hsz k (List.mem_of_mem_take hk)⟩
 have kokD:∀i,NC (n.keys.drop i):=λi=>kok_iff.2 ⟨DF i hr,λk hk=>hsz k (List.mem_of_mem_drop hk)⟩
 rw[ek]
 refine⟨hw _ (List.getElem_mem i4),hlt,hk4.1,hk4.2,hlow,List.getElem_mem i4,?_⟩
 rcases hc with⟨x1,x2,x3,x4,x5,x6,x7⟩|⟨x1,x2,x3⟩
 ·have eL:CC n c=⟨true,n.keys.take c,n.vals.take c,[]⟩:=by rw[CC,if_pos x1]
  have eR:Dc n c=⟨true,n.keys.drop c,n.vals.drop c,[]⟩:=by rw[Dc,if_pos x1]
  rw[eL,eR,x1,if_pos rfl]
  exact⟨rfl,rfl,rfl,rfl,_,[],_,[],⟨htake,kokT c,.inl ⟨rfl,x2,rfl,by simp;omega,λv hv=>x5 v (List.mem_of_mem_take hv),rfl,rfl⟩⟩,⟨hdrop c (Nat.le_refl _),kokD c,.inl ⟨rfl,x2,rfl,by simp;omega,λv hv=>x5 v (List.mem_of_mem_drop hv),rfl,rfl⟩⟩,by rw[x6];exact Ep c x4,by simpa using x7⟩
 ·have eL:CC n c=⟨false,n.keys.take c,[],n.kids.take (c+1)⟩:=by rw[CC,if_neg (by rw[x1];simp)]
  have eR:Dc n c=⟨false,n.keys.drop (c+1),[],n.kids.drop (c+1)⟩:=by rw[Dc,if_neg (by rw[x1];simp)]
  rw[eL,eR,x1,if_neg (by simp)]
  obtain⟨mid,P1,B1,P2,B2,s1,s2,rfl,rfl⟩:=Ft (i:=c+1) x3 (by omega)
  have e5:n.keys.take (c+1)=n.keys.take c++[n.keys[c]]:=A3 i4
  rw[e5]at s1
  obtain⟨rfl,s3⟩:=Ln s1
  exact⟨rfl,rfl,rfl,rfl,P1,B1,P2,B2,⟨htake,kokT c,.inr ⟨rfl,rfl,s3⟩⟩,⟨hdrop (c+1) (by omega),kokD (c+1),.inr ⟨rfl,rfl,s2⟩⟩,rfl,rfl⟩
end Go.Proofs.YtegndijbpiccgaaGreatDoor.M
