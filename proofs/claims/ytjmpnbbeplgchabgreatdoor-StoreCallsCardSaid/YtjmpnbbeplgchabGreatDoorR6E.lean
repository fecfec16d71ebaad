import Derived.Test.YtjmpnbbeplgchabGreatDoorR6EdI
import Derived.Test.YtjmpnbbeplgchabGreatDoorR6ScanQ
import Derived.Test.YtjmpnbbeplgchabGreatDoorProg
import Derived.Test.YtjmpnbbeplgchabGreatDoorMirI
import Derived.Test.YtjmpnbbeplgchabGreatDoorMirL
import Derived.KernelRfl
import Derived.Test.YtjmpnbbeplgchabGreatDoorMirU
namespace Go.Proofs.YtjmpnbbeplgchabGreatDoor.M
set_option linter.unusedVariables false
set_option linter.unusedSimpArgs false
open Go Go.Mir
noncomputable def LZ (e:Ed):Ed:=if e.bad=0 then { e with bad:=81 } else e
noncomputable def F1 (e:Ed)(n:Nd)(i:Nat)(kid:Nd)(d:Int):Nd×Ed:=
 let l:=i-1
 let o:=if l=i then i+1 else l
 let r:=AN e ((n.kids[o]?).getD 0) (d+1)
 if r.2.bad≠0\/r.1.leaf≠kid.leaf then (GC,LZ r.2) else
 let e2:=CP r.2 ((n.kids[o]?).getD 0)
 if l=i then DZ e2 n l kid r.1 else DZ e2 n l r.1 kid
noncomputable def Sd (e:Ed)(n:Nd)(i:Nat)(kid:Nd)(d:Int):Nd×Ed:=
 if 4<=kid.keys.length then (⟨n.leaf,n.keys,n.vals,n.kids.set i (Ao e kid).1⟩,(Ao e kid).2) else F1 e n i kid d
def fO (n:Nd)(i:Nat):Nd:=⟨n.leaf,GJ n.keys i,GJ n.vals i,n.kids⟩
noncomputable def Hw (key:bA):Nat->Ed->Int->Int->Nd×Ed
 | 0,e,_,_=>(GC,{ e with bad:=81 })
 | f+1,e,b,d=>
   let n:=(AN e b d).1
   let e1:=(AN e b d).2
   if e1.bad≠0 then (GC,e1) else
   let e2:=CP e1 b
   if n.leaf then (if Gd n.keys key then (fO n (CC n.keys key),e2) else (GC,{ e2 with bad:=80 })) else
   let i:=Bl n.keys key
   let r:=Hw key f e2 ((n.kids[i]?).getD 0) (d+1)
   if r.2.bad≠0 then (GC,r.2) else Sd r.2 n i r.1 d
theorem UY {α:Type}{l:List α}{i:Nat}{c s:α}(h:l[i]?=some c)(hi:i+1<l.length):l.set (i+1) s=l.take i++c::s::l.drop (i+2):=by obtain⟨h0,rfl⟩:=List.getElem?_eq_some_iff.1 h;rw[E6 hi,BF h0,List.append_assoc];rfl
def isKeyP (key:bA):Prop:=1<=key.size/\key.size<=32
instance (key:bA):Decidable (isKeyP key):=by unfold isKeyP;infer_instance
noncomputable def Pf (w:Wd)(key:bA):Int×Ed:=
 let r:=Hw key 9 ⟨w,0⟩ w.root 1
 if r.2.bad≠0 then (0,r.2) else if r.1.keys≠[] then Ao r.2 r.1 else if r.1.leaf then (0,r.2) else ((r.1.kids[0]?).getD 0,r.2)
noncomputable def ED (w:Wd)(key:bA):Wd×Int:=
 if ¬(WRight w/\isKeyP key) then (wd0,1) else if w.root=0 then (wd0,80) else MR (BP (Pf w key))
def KB (w:Wd)(n:Nd):Prop:=n.leaf=false->n.keys=[]->gK w ((n.kids[0]?).getD 0)
theorem Re {w:Wd}{e:Ed}{n a b:Nd}{l:Nat}(h:Inv w e)(hk:n.keys≠[]):Inv w (DZ e n l a b).2/\((DZ e n l a b).2.bad=0->KB w (DZ e n l a b).1):=by
 unfold DZ;dsimp only;split
 ·obtain⟨a1,a2⟩:=BG (n:=Av a ((n.keys[l]?).getD Ar) b) h;refine⟨a1,λhb _ he=>?_⟩;have hl:l=0:=by
   have he:n.keys.take l++n.keys.drop (l+1)=[]:=he;have:=(List.append_eq_nil_iff.1 he).1;rcases List.take_eq_nil_iff.1 this with h|h;·exact h
   ·exact absurd h hk
  subst hl;exact(a2 hb).2
 ·obtain⟨a1,a2⟩:=BG (n:=Et (Av a ((n.keys[l]?).getD Ar) b) (A3 a b)) h;obtain⟨b1,b2⟩:=BG (n:=Gh (Av a ((n.keys[l]?).getD Ar) b) (A3 a b)) a1;refine⟨b1,λhb _ he=>?_⟩;have he:n.keys.take l++_::n.keys.drop (l+1)=[]:=he;simp at he
theorem PF {w:Wd}{e:Ed}(h:Inv w e):Inv w (LZ e)/\(LZ e).bad≠0:=by
 unfold LZ;by_cases hb:e.bad=0;·rw[if_pos hb];exact⟨h.tree,by simp⟩
 ·rw[if_neg hb];exact⟨h,hb⟩
theorem gQ {w:Wd}{e:Ed}{n kid:Nd}{i:Nat}{d:Int}(h:Inv w e)(hk:n.keys≠[]):Inv w (Sd e n i kid d).2/\((Sd e n i kid d).2.bad=0->KB w (Sd e n i kid d).1):=by
 unfold Sd;by_cases h4:4<=kid.keys.length;·rw[if_pos h4];exact⟨(BG h).1,λ_ _ he=>absurd he hk⟩
 ·rw[if_neg h4];unfold F1;dsimp only;generalize (n.kids[if i-1=i then i+1 else i-1]?).getD 0=o;obtain⟨a1,a2⟩:=DS (b:=o) (d:=d+1) h;by_cases hb:(AN e o (d+1)).2.bad≠0\/(AN e o (d+1)).1.leaf≠kid.leaf;·rw[if_pos hb];have:=PF a1;exact⟨this.1,λh=>absurd h this.2⟩
  ·rw[if_neg hb];have hb0:(AN e o (d+1)).2.bad=0:=Classical.byContradiction λhc=>hb (.inl hc);obtain⟨c1,c2,c3,c4⟩:=a2 hb0;rw[c2];obtain⟨d1,d2⟩:=En h c1 c3;by_cases hi:i-1=i;·rw[if_pos hi];exact Re d1 hk
   ·rw[if_neg hi];exact Re d1 hk
theorem KK {w:Wd}{key:bA}:∀(f:Nat) (e:Ed) (b d:Int),Inv w e->(Hw key f e b d).2.bad=80\/(Inv w (Hw key f e b d).2/\((Hw key f e b d).2.bad=0->KB w (Hw key f e b d).1))
 | 0,e,b,d,h => .inr ⟨h.tree,λhb=>by cases hb⟩
 | f+1,e,b,d,h=>by
  unfold Hw;dsimp only;obtain⟨a1,a2⟩:=DS (b:=b) (d:=d) h;by_cases hb:(AN e b d).2.bad=0
  ·rw[if_neg (by rw[hb];simp)];obtain⟨c1,c2,c3,c4⟩:=a2 hb;rw[c2];generalize (AN e b d).1=n at c3 |-;obtain⟨d1,d2⟩:=En h c1 c3;have hok:=D7 c3;by_cases hl:n.leaf=true
   ·rw[if_pos hl];by_cases ha:Gd n.keys key=true;·rw[if_pos ha];exact .inr ⟨d1,λ_ hf=>by have hf:n.leaf=false:=hf;rw[hl]at hf;cases hf⟩
    ·rw[if_neg ha];exact .inl rfl
   ·rw[if_neg hl];have hk:n.keys≠[]:=by
     rcases hok.1.2.2 with⟨hx,_⟩|⟨_,_,hx,_⟩
     ·exact absurd hx hl
     ·exact List.ne_nil_of_length_pos hx
    have ih:=KK (key:=key) f (CP e b) ((n.kids[Bl n.keys key]?).getD 0) (d+1) d1;by_cases hr:(Hw key f (CP e b) ((n.kids[Bl n.keys key]?).getD 0) (d+1)).2.bad=0
    ·rw[if_neg (by rw[hr];simp)];rcases ih with ih|ih;·rw[hr]at ih;cases ih
     ·exact .inr (gQ ih.1 hk)
    ·rw[if_pos hr];rcases ih with ih|ih;·exact .inl ih
     ·exact .inr ⟨ih.1,λh=>absurd h hr⟩
  ·rw[if_pos hb];exact .inr ⟨a1,λh=>absurd h hb⟩
theorem Xs {w:Wd}{key:bA}(hr:WRight w)(hp:isKeyP key):
   (ED w key=(wd0,60)\/ED w key=(wd0,80)\/ED w key=(wd0,81))\/∃x,ED w key=(x,0)/\WRight x/\x.base=w.base/\x.gen=w.gen/\x.now.length=w.now.length/\x.pages.length=w.pages.length/\∀b:Int,0<=b->tr w.base b.toNat=true->pgAt x b=pgAt w b:=by
 unfold ED
 rw[if_neg (by simp;exact⟨hr,hp⟩)]
 by_cases h0:w.root=0
 ·rw[if_pos h0];exact .inl (.inr (.inl rfl))
 rw[if_neg h0]
 have hx:(Pf w key).2.bad=80\/(Inv w (Pf w key).2/\((Pf w key).2.bad=0->(Pf w key).1=0\/gK w (Pf w key).1)):=by
  unfold Pf;dsimp only;have hrem:=KK (key:=key) 9 ⟨w,0⟩ w.root 1 (Inv.start hr);generalize Hw key 9 ⟨w,0⟩ w.root 1=r at hrem |-;by_cases hb:r.2.bad=0
  ·rw[if_neg (by rw[hb];simp)];rcases hrem with hrem|⟨a1,a2⟩
   ·rw[hb]at hrem;cases hrem
   by_cases hk:r.1.keys=[]
   ·rw[if_neg (by simpa using hk)];by_cases hl:r.1.leaf=true;·rw[if_pos hl];exact .inr ⟨a1,λ_ => .inl rfl⟩
    ·rw[if_neg hl];exact .inr ⟨a1,λ_ => .inr (a2 hb (by simpa using hl) hk)⟩
   ·rw[if_pos hk];obtain⟨b1,b2⟩:=BG (n:=r.1) a1;exact .inr ⟨b1,λhb => .inr (b2 hb).2⟩
  ·rw[if_pos hb];rcases hrem with hrem|⟨a1,a2⟩
   ·exact .inl hrem
   ·exact .inr ⟨a1,λh=>absurd h hb⟩
 generalize Pf w key=r at hx |-
 rcases hx with e|⟨hi,hb⟩
 ·exact .inl (.inr (.inl (by rw[GK (by rw[e];decide),e])))
 rcases hi.bad with e|e|e
 ·refine .inr ⟨_,S9 e,J7 hi.right ?_,hi.base,hi.gen,hi.nlen,?_,hi.page⟩
  ·rcases hb e with h|h
   ·exact .inl h
   ·rw[hi.nlen];exact .inr h
  ·have h1:=hi.right.2.1
   have h2:=hr.2.1
   have h3:=hi.nlen
   show r.2.w.pages.length=_
   omega
 ·exact .inl (.inl (by rw[GK (by rw[e];decide),e]))
 ·exact .inl (.inr (.inr (by rw[GK (by rw[e];decide),e])))
def F0 {α:Type}(step:Wd->α->Wd×Int):Wd->List α->Wd×Int
 | w,[]=>(w,0)
 | w,c::cs=>if (step w c).2≠0 then (wd0,(step w c).2) else F0 step (step w c).1 cs
noncomputable def EY {α:Type}(step:Wd->α->Wd×Int)(w:Wd)(l:List α):Wd×Int:=if ¬WRight w then (wd0,1) else F0 step w l
structure Chg where
 gone:Bool
 key:bA
 val:bA
def Chg.ok (c:Chg):Prop:=1<=c.key.size/\c.key.size<=32/\c.val.size<=200/\(c.gone=true->c.val=Ar)
noncomputable instance (c:Chg):Decidable c.ok:=Classical.propDecidable _
noncomputable def GQ (w:Wd)(c:Chg):Wd×Int:=
 if c.gone=false then GW w c.key c.val
 else if ¬isKeyP c.key\/c.val≠Ar then (w,1)
 else if (ED w c.key).2=80 then (w,0) else ED w c.key
theorem JI (k g:Int)(b:bA):TrimS (Cq k g b)=Cq k g b:=by have h:=RK k g b 0;have e:KZ (Cq k g b) 0=Cq k g b:=AE (by rw[DB];simp);rwa [e]at h
structure Nw (w x:Wd) (O N:List Int):Prop where
 base:x.base=w.base
 gen:x.gen=w.gen
 nlen:x.now.length=w.now.length
 plen:x.pages.length=w.pages.length
 now:∀i:Nat,i<w.now.length->tr x.now i=((tr w.now i && !decide ((i:Int)∈O))||decide ((i:Int)∈N))
 page:∀b:Int,0<=b->tr w.base b.toNat=true->pgAt x b=pgAt w b
 kept:∀i:Nat,i<w.now.length->(i:Int)∈N->(i:Int)∈O\/tr w.now i=false
 tidy:(∀s∈w.pages,TrimS s=s)->∀s∈x.pages,TrimS s=s
theorem Nw.refl (w:Wd)(B:List Int)(h:∀b∈B,tr w.now b.toNat=true):Nw w w B B:=⟨rfl,rfl,rfl,rfl,λi hi=>by
 by_cases hb:(i:Int)∈B;·have:=h _ hb;simp at this;simp[hb,this]
 ·simp[hb],λ_ _ _=>rfl,λi _ h => .inl h,λh=>h⟩
theorem Nw.trans {w x y:Wd}{O N M:List Int}(h:Nw w x O N)(g:Nw x y N M):Nw w y O M where
 base:=g.base.trans h.base
 gen:=g.gen.trans h.gen
 nlen:=g.nlen.trans h.nlen
 plen:=g.plen.trans h.plen
 page b hb ht:=by rw[g.page b hb (by rw[h.base];exact ht),h.page b hb ht]
 tidy ht:=g.tidy (h.tidy ht)
 now i hi:=by
  rw[g.now i (by rw[h.nlen];exact hi),h.now i hi];have hk:=h.kept i hi;by_cases h1:(i:Int)∈N
  ·rcases hk h1 with e|e;·simp[h1,e]
   ·simp[h1,e]
  ·simp[h1]
 kept i hi hm:=by
  rcases g.kept i (by rw[h.nlen];exact hi) hm with e|e;·exact h.kept i hi e
  ·rw[h.now i hi]at e;simp only[Bool.or_eq_false_iff,Bool.and_eq_false_iff,Bool.not_eq_false',decide_eq_true_eq]at e;rcases e.1 with e|e;·exact .inr e
   ·exact .inl e
def From (w:Wd)(B:List Int)(x:Wd)(P':List Pr):Prop:=WRight x/\∃h' B',IsTree x h' P' B'/\Nw w x B B'
theorem M3 {w:Wd}{h:Nat}{P:List Pr}{B:List Int}(ht:IsTree w h P B):∀b∈B,tr w.now b.toNat=true:=λb hb=>by obtain⟨r,m,hm⟩:=JQ ht b hb;exact OX hm
theorem From.start {w:Wd}{h:Nat}{P:List Pr}{B:List Int}(hr:WRight w)(ht:IsTree w h P B):From w B w P:=⟨hr,h,B,ht,Nw.refl w B (M3 ht)⟩
theorem Yp {w:Wd}{b g:Int}{r:Bool}{n:Nd}{l:List Bool}(hg:w.gen<=g)(h:Ax w b r=some n):Ax ⟨l,w.now,w.pages,w.root,g⟩ b r=some n:=by
 unfold Ax at h |-;dsimp only;split at h;·cases h
 ·rename_i h1;rw[if_neg h1];have hp:pgAt ⟨l,w.now,w.pages,w.root,g⟩ b=pgAt w b:=rfl;rw[hp];rcases A6 (pgAt w b) with⟨e,he,h'⟩|⟨k,g',s,h',_⟩
  ·rw[h',Fy he]at h;cases h
  ·rw[h',GF]at h |-;split at h;·cases h
   rw[if_neg (by omega)];exact h
theorem OO {w:Wd}{h:Nat}{P:List Pr}{B:List Int}(hr:WRight w)(ht:IsTree w h P B):B.Nodup/\∀b∈B,10<=b/\b<w.now.length:=by
 refine⟨?_,λb hb=>?_⟩
 ·rcases ht with⟨_,_,_,rfl⟩|⟨_,_,_,_,hu⟩
  ·exact List.nodup_nil
  ·exact hu
 ·obtain⟨r,m,hm⟩:=JQ ht b hb;have:=Hl (Ig hr) hm;omega
def newRow (n:Nat):List Bool:=(List.range n).map λi=>decide (i<10)
def Kl (n:Nat):Wd:=⟨newRow n,newRow n,List.replicate n Ar,0,1⟩
theorem Jk {n i:Nat}(h:i<n):tr (newRow n) i=decide (i<10):=by simp[tr,newRow,h]
def gave (w:Wd)(m:Int):Wd := { w with now:=w.now.set m.toNat false }
def D2 (w:Wd)(m:Int)(b:Nat)(s:bA):Wd:=
 ⟨(gave w m).now.set b true,(gave w m).now.set b true,w.pages.set b s,w.root,w.gen+1⟩
theorem SA {w:Wd}{m:Int}{b h:Nat}{s:bA}{P:List Pr}{B:List Int}(hr:WRight w)(ht:IsTree w h P B)(hm:10<=m/\m<w.now.length/\m∉B)(hn:nowIs w.now (B++[m]))(hb:firstFree (gave w m)=some b)(hg:w.gen<1099511627776)(hs:s.size<=4096):
  10<=b/\b<w.now.length/\(b:Int)∉B/\WRight (D2 w m b s)/\IsTree (D2 w m b s) h P B/\nowIs (D2 w m b s).now (B++[(b:Int)]):=by
 obtain⟨hu,hB⟩:=OO hr ht
 obtain⟨f1,f2,f3⟩:=DE hb
 have hlen:(gave w m).now.length=w.now.length:=by simp[gave]
 have hmi:m.toNat<w.now.length:=by omega
 have hmn:((m.toNat:Nat):Int)=m:=by omega
 rw[hlen]at f1
 have htr:∀i,tr (gave w m).now i=if i=m.toNat then false else tr w.now i:=λi=>DW hmi i
 have hfree:tr w.base b=false/\tr (gave w m).now b=false:=by have:AJ (gave w m) b=true:=f2;unfold AJ at this;simpa[gave] using this
 obtain⟨⟨r1,r2,r3,r4⟩,r5,r6,r7,r8,r9⟩:=id hr
 have hb10:10<=b:=Classical.byContradiction λhc=>by have:=(r4 b (by omega)).2;have h2:=hfree.2;rw[htr,if_neg (by omega),this]at h2;cases h2
 have hbB:(b:Int)∉B:=λhx=>by have h2:=hfree.2;have hne:b≠m.toNat:=λe=>hm.2.2 (by rw[<-hmn,<-e];exact hx);rw[htr,if_neg hne,hn b f1]at h2;simp[hx]at h2
 have hlen2:(D2 w m b s).now.length=w.now.length:=by simp[D2,gave]
 have hnow:∀i:Nat,i<w.now.length->tr (D2 w m b s).now i=decide (i<10\/(i:Int)∈B++[(b:Int)]):=λi hi=>by
  have e:tr (D2 w m b s).now i=if i=b then true else tr (gave w m).now i:=DW (by rw[hlen];exact f1) i
  rw[e,htr];by_cases h1:i=b;·simp[h1]
  ·rw[if_neg h1];have h1':¬(i:Int)=b:=by omega
   by_cases h2:i=m.toNat
   ·rw[if_pos h2];have h3:(i:Int)∉B:=by rw[h2,hmn];exact hm.2.2
    simp[h1',h3];omega
   ·rw[if_neg h2,hn i hi];have h3:¬(i:Int)=m:=by omega
    simp[h1',h3]
 have hR:WRight (D2 w m b s):=by
  refine⟨⟨rfl,by rw[hlen2];exact r2,by rw[hlen2];exact r3,λj hj=>?_⟩,by rw[hlen2];simp[D2];omega,by simp only[D2];omega,by simp only[D2];omega,by rw[hlen2];exact r8,λt ht=>?_⟩
  ·have:tr (D2 w m b s).now j=true:=by rw[hnow j (by omega)];simp[hj]
   exact⟨this,this⟩
  ·rcases List.mem_or_eq_of_mem_set ht with h|rfl;·exact r9 t h
   ·exact hs
 refine⟨hb10,f1,hbB,hR,FW ht rfl λx hx r n hh=>?_,λi hi=>hnow i (by rw[hlen2]at hi;exact hi)⟩
 have hxr:=hB x hx
 have h1:=Yp (g:=w.gen+1) (l:=w.base) (by omega) hh
 have hxb:x.toNat≠b:=λe=>hbB (by rw[<-e,show((x.toNat:Nat):Int)=x by omega];exact hx)
 rw[<-h1]
 have hp:pgAt (D2 w m b s) x=pgAt ⟨w.base,w.now,w.pages,w.root,w.gen+1⟩ x:=by show pgAt { D2 w m b s with pages:=w.pages.set b s } x=_;rw[Je (w := { D2 w m b s with pages:=w.pages }) (by show b<w.pages.length;omega),if_neg hxb];rfl
 have hp2:(D2 w m b s).pages.length=w.pages.length:=by simp[D2]
 have hx1:tr (D2 w m b s).now x.toNat=true:=by rw[hnow _ (by omega),show((x.toNat:Nat):Int)=x by omega];simp[hx]
 unfold Ax
 dsimp only
 rw[hlen2,hp2,hx1,OX hh,hp]
 rfl
end Go.Proofs.YtjmpnbbeplgchabGreatDoor.M
namespace Go.Proofs.YtjmpnbbeplgchabGreatDoor.M
set_option linter.unusedVariables false
set_option linter.unusedSimpArgs false
open Go Go.Mir Go.Proofs
def KR:List Nat:=[1000124,1000132,1000100,1000218,1000219,2000130,2000133,2000167,2000170,2000135,10100700010100102,86]
noncomputable def AIw:=bO Tryz.prog Tryz.f101.body KR 101 [(7,[1,19],[10100102],[],[])] [(2,[.keepF 101,.keep 1,.ptr 5 10100102 0,.box 10100102 [.int .i64]])]
noncomputable def c101:FnC:=⟨101,20,[.tmp 4],AIw,false,[.one (.int .i64),.one (.slo 1)],.val (.one (.int .i64)),none,false,[]⟩
theorem AAM:IsFn Tryz.prog 101 c101:=AP Tryz.func101 rfl rfl
def AHV:Cmd:=.seq (.region [o 3 (.mov (.const (.bool false)))]) (.seq (.region [m 4 0,os 5 (.ld (T 1) none) sI,os 6 (.call false 142 [T 4,T 5]) sB,m 3 6]) .ret)
noncomputable def c141:FnC:=⟨141,7,[.tmp 3],AHV,false,[.one (.slo 1)],.val (.one .bool),none,false,[]⟩
theorem ABu:IsFn Tryz.prog 141 c141:=Jf [1000124,1000132,1000100,1000218,1000219,2000130,2000133,2000167,2000170,2000135,10100700010100102,86] [] [] Tryz.func141 rfl
noncomputable def AHS:=bO Tryz.prog Tryz.f102.body KR 102 [] [(3,[.keepF 102,.keep 0,.keep 1,.keep 8,.keep 13,.keep 14,.slot 15 (.one (.int .i64)),.row 10250101 4 1 false])]
noncomputable def c102:FnC:=⟨102,33,[.tmp 6,.tmp 7],AHS,false,[.one (.slo 1),.one .bool,.one (.slo 1)],.tup [.one (.slo 1),.one (.int .i64)],none,false,[]⟩
theorem AAL:IsFn Tryz.prog 102 c102:=AP Tryz.func102 rfl rfl
noncomputable def b54:=bO Tryz.prog Tryz.f54.body KR 54 [] []
noncomputable def c54:FnC:=⟨54,34,[.cell 2 (some 2),.tmp 3,.tmp 4],b54,false,[.agg [.slo 1,.slo 1]],.tup [.agg [.slo 1,.slo 1],.one (.int .i64),.one (.int .i64)],none,false,[]⟩
theorem ADJ:IsFn Tryz.prog 54 c54:=AP Tryz.func54 rfl rfl
noncomputable def b92:=bO Tryz.prog Tryz.f92.body KR 92 [] [(5,[.keepF 92,.keep 2,.keep 4,.keep 6,.keep 16,.keep 17,.slot 18 (.one (.int .i64)),.keepO 9200000,.box 9200001 [.nil,.nil],.row 9250302 4 1 false])]
noncomputable def c92:FnC:=⟨92,45,[.cell 4 (some 2),.tmp 5],b92,false,[.agg [.slo 1,.slo 1],.one (.slo 1)],.tup [.agg [.slo 1,.slo 1],.one (.int .i64)],none,false,[]⟩
theorem AFa:IsFn Tryz.prog 92 c92:=AP Tryz.func92 rfl rfl
noncomputable def AGS:=bO Tryz.prog Tryz.f125.body KR 125 [(13,[1,4,6],[12501702],[],[]),(14,[1,4,6,47,48,49],[12501702],[],[]),(20,[1,4,6,47,48,49],[12501702],[],[])] [(7,[.keepF 125,.keep 1,.keep 4,.keep 6,.keep 27,.keep 28,.slot 29 (.one (.int .i64)),.keepO 12500000,.box 12500307 [.str]]),(14,[.keepF 125,.keep 1,.keep 4,.keep 6,.keep 47,.keep 48,.slot 49 (.one (.int .i64)),.keepO 12500000,.box 12500307 [.str]])]
noncomputable def c125:FnC:=⟨125,77,[.tmp 2,.tmp 3],AGS,false,[.agg [.bool,.slo 1,.slo 1,.slo 1]],.tup [.one .str,.one (.int .i64)],none,false,[]⟩
theorem wO:IsFn Tryz.prog 125 c125:=AP Tryz.func125 rfl rfl
def AIA:Cmd:=.seq (.region [m 6 0,os 7 (.call false 105 [T 6]) (.tup [.one .str,.one (.int .i64)]),m 5 7,o 8 (.ext (T 5) 0),o 9 (.ext (T 5) 1),m 3 8,m 4 9]) (.region [os 10 (.ld (T 1) none) sS,m 11 3,o 12 (.lit 15900102 9 1 [T 10,T 11]),os 13 (.call false 108 [T 12]) sS,u (.st (T 1) (T 13) 1)])
noncomputable def c159:FnC:=⟨159,14,[],AIA,false,[.one .str],.tup [],none,true,[]⟩
theorem yY:IsFn Tryz.prog 159 c159:=Jf [1000124,1000132,1000100,1000218,1000219,2000130,2000133,2000167,2000170,2000135,10100700010100102,86] [] [] Tryz.func159 rfl
noncomputable def AE4:=bO Tryz.prog Tryz.f162.body KR 162 [] []
noncomputable def c162:FnC:=⟨162,74,[.cell 2 (some 4),.tmp 3,.cell 4 (some 4),.tmp 5],AE4,false,[.agg [.bool,.slo 1,.slo 1,.slo 1]],.tup [.agg [.bool,.slo 1,.slo 1,.slo 1],.one .str,.agg [.bool,.slo 1,.slo 1,.slo 1],.one (.int .i64)],none,false,[]⟩
theorem ABp:IsFn Tryz.prog 162 c162:=AP Tryz.func162 rfl rfl
noncomputable def AHT:=bO Tryz.prog Tryz.f169.body KR 169 [] []
noncomputable def c169:FnC:=⟨169,63,[.cell 6 (some 4),.tmp 7],AHT,false,[.agg [.bool,.slo 1,.slo 1,.slo 1],.one .str,.agg [.bool,.slo 1,.slo 1,.slo 1]],.tup [.agg [.bool,.slo 1,.slo 1,.slo 1],.one (.int .i64)],none,false,[]⟩
theorem wA:IsFn Tryz.prog 169 c169:=AP Tryz.func169 rfl rfl
def AGi:Cmd:=.seq (.region [o 2 (.mov (.const (.slice none 0 0)))]) (.seq (.region [m 3 0,os 4 (.call false 202 [T 3]) sL,m 2 4]) .ret)
noncomputable def c198:FnC:=⟨198,5,[.tmp 2],AGi,false,[.one (.slo 1)],.val (.one (.slo 1)),none,false,[]⟩
theorem ABy:IsFn Tryz.prog 198 c198:=Jf [1000124,1000132,1000100,1000218,1000219,2000130,2000133,2000167,2000170,2000135,10100700010100102,86] [] [] Tryz.func198 rfl
def AIz:Cmd:=.seq (.region [o 2 (.mov (.const (.slice none 0 0)))]) (.seq (.region [m 3 0,os 4 (.call false 203 [T 3]) sL,m 2 4]) .ret)
noncomputable def c199:FnC:=⟨199,5,[.tmp 2],AIz,false,[.one (.slo 1)],.val (.one (.slo 1)),none,false,[]⟩
theorem ADn:IsFn Tryz.prog 199 c199:=Jf [1000124,1000132,1000100,1000218,1000219,2000130,2000133,2000167,2000170,2000135,10100700010100102,86] [] [] Tryz.func199 rfl
noncomputable def AIg:=bO Tryz.prog Tryz.f202.body KR 202 [(10,[0,6],[20201302],[],[]),(11,[6,25,26,27],[20201302],[],[]),(14,[6,25,26,27],[20201302],[],[])] [(3,[.keepF 202,.keep 0,.slot 3 (.one (.int .i64)),.keep 9,.keep 10,.slot 11 (.one (.int .i64))]),(11,[.keepF 202,.rowIn 6 20250901,.keep 25,.keep 26,.slot 27 (.one (.int .i64)),.row 20250901 9 1 false])]
noncomputable def c202:FnC:=⟨202,36,[.tmp 2],AIg,false,[.one (.slo 1)],.val (.one (.slo 1)),none,false,[]⟩
theorem ACY:IsFn Tryz.prog 202 c202:=AP Tryz.func202 rfl rfl
noncomputable def AHe:=bO Tryz.prog Tryz.f203.body KR 203 [(10,[0,6],[20301302],[],[]),(11,[6,25,26,27],[20301302],[],[]),(14,[6,25,26,27],[20301302],[],[])] [(3,[.keepF 203,.keep 0,.slot 3 (.one (.int .i64)),.keep 9,.keep 10,.slot 11 (.one (.int .i64))]),(11,[.keepF 203,.rowIn 6 20350901,.keep 25,.keep 26,.slot 27 (.one (.int .i64)),.row 20350901 3 1 false])]
noncomputable def c203:FnC:=⟨203,36,[.tmp 2],AHe,false,[.one (.slo 1)],.val (.one (.slo 1)),none,false,[]⟩
theorem ACn:IsFn Tryz.prog 203 c203:=AP Tryz.func203 rfl rfl
noncomputable def b86:=bO Tryz.prog Tryz.f86.body KR 86 [] []
noncomputable def c86:FnC:=⟨86,10,[.tmp 2],b86,true,[.agg [.slo 1,.slo 1,.slo 1,.int .i64,.int .i64]],.val (.one .raw),none,false,[(.val (.one (.ptr 8600202 0)),[.box 8600202 [.slo 1,.slo 1,.row 8650102,.int .i64,.int .i64,.int .i64],.row 8650102 9 1 false])]⟩
theorem AG1:IsFn Tryz.prog 86 c86:=AP Tryz.func86 rfl rfl
noncomputable def AI3:=bO Tryz.prog Tryz.f126.body KR 126 [] []
noncomputable def c126:FnC:=⟨126,37,[.cell 6 (some 4)],AI3,false,[.one .raw,.one (.int .i64),.one (.int .i64)],.val (.agg [.bool,.sln 1,.sln 1,.sln 1]),none,true,[]⟩
theorem ADe:IsFn Tryz.prog 126 c126:=AP Tryz.func126 rfl rfl
noncomputable def AD0:=bO Tryz.prog Tryz.f127.body KR 127 [] []
noncomputable def c127:FnC:=⟨127,32,[],AD0,false,[.one .raw,.one (.int .i64)],.tup [],none,true,[]⟩
theorem xH:IsFn Tryz.prog 127 c127:=AP Tryz.func127 rfl rfl
noncomputable def b87:=bO Tryz.prog Tryz.f87.body KR 87 [] []
noncomputable def c87:FnC:=⟨87,75,[.tmp 4],b87,false,[.one .raw,.agg [.bool,.slo 1,.slo 1,.slo 1]],.val (.one (.int .i64)),none,true,[]⟩
theorem AH2:IsFn Tryz.prog 87 c87:=AP Tryz.func87 rfl rfl
noncomputable def b88:=bO Tryz.prog Tryz.f88.body KR 88 [] []
noncomputable def c88:FnC:=⟨88,18,[.cell 2 (some 5),.tmp 3],b88,false,[.one .raw],.tup [.agg [.slo 1,.slo 1,.slo 1,.int .i64,.int .i64],.one (.int .i64)],none,true,[(.val (.one .raw),[.keepO 8650102])]⟩
theorem AH7:IsFn Tryz.prog 88 c88:=AP Tryz.func88 rfl rfl
noncomputable def b85:=bO Tryz.prog Tryz.f85.body KR 85 [] []
noncomputable def c85:FnC:=⟨85,18,[.tmp 4],b85,false,[.one .str,.one .str],.val (.one .bool),none,false,[]⟩
theorem AIh:IsFn Tryz.prog 85 c85:=AP Tryz.func85 rfl rfl
noncomputable def AIO:=bO Tryz.prog Tryz.f129.body KR 129 [] []
noncomputable def c129:FnC:=⟨129,52,[.cell 4 (some 4)],AIO,false,[.one .raw,.agg [.bool,.slo 1,.slo 1,.slo 1]],.val (.agg [.int .i64,.int .i64,.str,.bool]),none,true,[]⟩
theorem wE:IsFn Tryz.prog 129 c129:=AP Tryz.func129 rfl rfl
noncomputable def b89:=bO Tryz.prog Tryz.f89.body KR 89 [] []
noncomputable def c89:FnC:=⟨89,143,[.cell 6 (some 4)],b89,false,[.one .raw,.one (.int .i64),.one (.int .i64)],.val (.agg [.int .i64,.int .i64,.str,.bool]),none,true,[]⟩
theorem AEg:IsFn Tryz.prog 89 c89:=AP Tryz.func89 rfl rfl
noncomputable def b47:=bO Tryz.prog Tryz.f47.body KR 47 [] []
noncomputable def c47:FnC:=⟨47,96,[.cell 6 (some 5),.tmp 7],b47,false,[.agg [.slo 1,.slo 1,.slo 1,.int .i64,.int .i64],.one .str,.one .str],.tup [.agg [.slo 1,.slo 1,.slo 1,.int .i64,.int .i64],.one (.int .i64)],none,false,[]⟩
theorem AHx:IsFn Tryz.prog 47 c47:=AP Tryz.func47 rfl rfl
def b48:Cmd:=.seq (.region [o 2 (.mov (.const (.bool false)))]) (.seq (.region [m 3 0,os 4 (.slen (T 3)) sI,o 5 (.bin .geq (T 4) (N 1)),m 6 5,gd 7 (.mov (T 0)) 6 true,gs 8 (.slen (T 7)) 6 true sI,gd 9 (.bin .leq (T 8) (N 32)) 6 true,o 10 (.pick (T 6) (T 9) (.const (.bool false))),m 2 10]) .ret)
noncomputable def c48:FnC:=⟨48,11,[.tmp 2],b48,false,[.one .str],.val (.one .bool),none,false,[]⟩
theorem AEt:IsFn Tryz.prog 48 c48:=Jf [1000124,1000132,1000100,1000218,1000219,2000130,2000133,2000167,2000170,2000135,10100700010100102,86] [] [] Tryz.func48 rfl
noncomputable def AH8:=bO Tryz.prog Tryz.f134.body KR 134 [] []
noncomputable def c134:FnC:=⟨134,22,[.cell 4 (some 4)],AH8,false,[.agg [.bool,.slo 1,.slo 1,.slo 1],.one (.int .i64)],.val (.agg [.bool,.slo 1,.slo 1,.slo 1]),none,false,[]⟩
theorem ABs:IsFn Tryz.prog 134 c134:=AP Tryz.func134 rfl rfl
noncomputable def b90:=bO Tryz.prog Tryz.f90.body KR 90 [] []
noncomputable def c90:FnC:=⟨90,110,[.cell 6 (some 4)],b90,false,[.one .raw,.one (.int .i64),.one (.int .i64)],.val (.agg [.bool,.slo 1,.slo 1,.slo 1]),none,true,[]⟩
theorem AJB:IsFn Tryz.prog 90 c90:=AP Tryz.func90 rfl rfl
noncomputable def AGr:=bO Tryz.prog Tryz.f135.body KR 135 [] []
noncomputable def c135:FnC:=⟨135,161,[.cell 10 (some 4)],AGr,false,[.one .raw,.agg [.bool,.slo 1,.slo 1,.slo 1],.one (.int .i64),.agg [.bool,.slo 1,.slo 1,.slo 1],.one (.int .i64)],.val (.agg [.bool,.slo 1,.slo 1,.slo 1]),none,true,[(.val (.one .raw),[.keepO 9051502,.keepO 9051505])]⟩
theorem wR:IsFn Tryz.prog 135 c135:=AP Tryz.func135 rfl rfl
def AFZ:Cmd:=.seq (.region [m 2 0,o 3 (.nilck (T 2)),o 4 (.fadr (T 3) 0),o 5 (.ld (T 4) none),o 6 (.nilck (T 5)),o 7 (.fadr (T 6) 5),os 8 (.ld (T 7) none) sI,o 9 (.bin .eql (T 8) (N 0))]) (.cond (T 9) (.region [m 10 0,o 11 (.nilck (T 10)),o 12 (.fadr (T 11) 0),o 13 (.ld (T 12) none),o 14 (.nilck (T 13)),o 15 (.fadr (T 14) 5),u (.st (T 15) (N 81) 1)]) .skip)
noncomputable def c168:FnC:=⟨168,16,[],AFZ,false,[.one .raw],.tup [],none,true,[]⟩
theorem uZ:IsFn Tryz.prog 168 c168:=Jf [1000124,1000132,1000100,1000218,1000219,2000130,2000133,2000167,2000170,2000135,10100700010100102,86] [] [] Tryz.func168 rfl
noncomputable def AJm:=bO Tryz.prog Tryz.f171.body KR 171 [] []
noncomputable def c171:FnC:=⟨171,104,[.cell 6 (some 4),.tmp 7,.cell 8 (some 4)],AJm,false,[.agg [.bool,.slo 1,.slo 1,.slo 1],.one .str,.agg [.bool,.slo 1,.slo 1,.slo 1]],.tup [.agg [.bool,.slo 1,.slo 1,.slo 1],.one .str,.agg [.bool,.slo 1,.slo 1,.slo 1]],none,false,[]⟩
theorem ADj:IsFn Tryz.prog 171 c171:=AP Tryz.func171 rfl rfl
noncomputable def b49:=bO Tryz.prog Tryz.f49.body KR 49 [] []
noncomputable def c49:FnC:=⟨49,95,[.cell 4 (some 5),.tmp 5],b49,false,[.agg [.slo 1,.slo 1,.slo 1,.int .i64,.int .i64],.one .str],.tup [.agg [.slo 1,.slo 1,.slo 1,.int .i64,.int .i64],.one (.int .i64)],none,false,[]⟩
theorem AIa:IsFn Tryz.prog 49 c49:=AP Tryz.func49 rfl rfl
noncomputable def b11:=bO Tryz.prog Tryz.f11.body KR 11 [(3,[1,2,4],[1100502,1100601],[],[]),(4,[2,4,14,15,16],[1100502,1100601],[],[]),(17,[2,4,14,15,16],[1100502,1100601],[],[])] [(4,[.keepF 11,.keep 2,.keep 4,.keep 14,.keep 15,.slot 16 (.one (.int .i64)),.box 1100000 [.slo 1,.slo 1,.slo 1,.int .i64,.int .i64],.box 1100001 [.nil,.nil,.nil,.int .i64,.int .i64]])]
noncomputable def c11:FnC:=⟨11,61,[.cell 4 (some 5),.tmp 5],b11,false,[.agg [.slo 1,.slo 1,.slo 1,.int .i64,.int .i64],.one (.slo 3)],.tup [.agg [.slo 1,.slo 1,.slo 1,.int .i64,.int .i64],.one (.int .i64)],none,false,[]⟩
theorem AGu:IsFn Tryz.prog 11 c11:=AP Tryz.func11 rfl rfl
noncomputable def AD2:List (Nat×Fun):=[(101,.code c101),(141,.code c141),(102,.code c102),(54,.code c54),(92,.code c92),(125,.code c125),(159,.code c159),(162,.code c162),(169,.code c169),(198,.code c198),(199,.code c199),(202,.code c202),(203,.code c203),(86,.code c86),(126,.code c126),(127,.code c127),(87,.code c87),(88,.code c88),(85,.code c85),(129,.code c129),(89,.code c89),(47,.code c47),(48,.code c48),(134,.code c134),(90,.code c90),(135,.code c135),(168,.code c168),(171,.code c171),(49,.code c49),(11,.code c11),(132,.prim (some (13200001,3,1,false)) (Dz 13200001 3 1 8)),(100,.prim (some (10000001,4,1,false)) (Dz 10000001 4 1 1)),(218,.prim (some (21800001,9,1,false)) (I7 21800001 9 1 16)),(219,.prim (some (21900001,3,1,false)) (I7 21900001 3 1 8)),(130,.prim (some (13000001,9,1,false)) (Gm (MU 16) 9)),(133,.prim (some (13300001,3,1,false)) (Gm (MU 8) 3)),(167,.prim (some (16700001,9,1,false)) (Gm Pc 9)),(170,.prim (some (17000001,3,1,false)) (Gm Pc 3))]
noncomputable def iA:List (Nat×Fun):=AD2++iX
noncomputable def Az:Nat->Option Fun:=DQ iA
set_option maxRecDepth 100000 in
theorem Y4:Company Tryz.prog Az:=
 .cons AAM<|.cons ABu<|.cons AAL<|.cons ADJ<|.cons AFa<|.cons wO<|.cons yY<|.cons ABp<|.cons wA<|.cons ABy<|.cons ADn<|.cons ACY<|.cons ACn<|.cons AG1<|.cons ADe<|.cons xH<|.cons AH2<|.cons AH7<|.cons AIh<|.cons wE<|.cons AEg<|.cons AHx<|.cons AEt<|.cons ABs<|.cons AJB<|.cons wR<|.cons uZ<|.cons ADj<|.cons AIa<|.cons AGu<|.cons (IB Tryz.laysSlE041_f132 rfl (by kernel_rfl))<|.cons (IB Tryz.laysSlE041_f100 rfl (by kernel_rfl))<|.cons (TI Tryz.laysGrow_f218 rfl (by kernel_rfl))<|.cons (TI Tryz.laysGrow_f219 rfl (by kernel_rfl))<|.cons (fP Tryz.laysIns_f130 rfl 13000001)<|.cons (aY Tryz.laysIns_f133 rfl 13300001)<|.cons (YV Tryz.laysSlE45_f167 rfl (by kernel_rfl) 16700001)<|.cons (YV Tryz.laysSlE45_f170 rfl (by kernel_rfl) 17000001)<|PE
theorem C5:Qi AG Az:=I8 (by kernel_rfl)
theorem vG:Az 159=some (.code c159):=rfl
theorem ABl:Az 126=some (.code c126):=rfl
theorem AAe:Az 127=some (.code c127):=rfl
theorem AFq:Az 87=some (.code c87):=rfl
theorem AIo:Az 88=some (.code c88):=rfl
theorem zM:Az 129=some (.code c129):=rfl
theorem AIY:Az 89=some (.code c89):=rfl
theorem uX:Az 90=some (.code c90):=rfl
theorem AAH:Az 135=some (.code c135):=rfl
theorem ACa:Az 168=some (.code c168):=rfl
theorem XW:Az 132=some (.prim (some (13200001,3,1,false)) (Dz 13200001 3 1 8)):=rfl
theorem YA:Az 100=some (.prim (some (10000001,4,1,false)) (Dz 10000001 4 1 1)):=rfl
theorem ACX:Az 218=some (.prim (some (21800001,9,1,false)) (I7 21800001 9 1 16)):=rfl
theorem AAy:Az 219=some (.prim (some (21900001,3,1,false)) (I7 21900001 3 1 8)):=rfl
theorem vC:Az 130=some (.prim (some (13000001,9,1,false)) (Gm (MU 16) 9)):=rfl
theorem zL:Az 133=some (.prim (some (13300001,3,1,false)) (Gm (MU 8) 3)):=rfl
theorem zC:Az 167=some (.prim (some (16700001,9,1,false)) (Gm Pc 9)):=rfl
theorem ACR:Az 170=some (.prim (some (17000001,3,1,false)) (Gm Pc 3)):=rfl
end Go.Proofs.YtjmpnbbeplgchabGreatDoor.M
