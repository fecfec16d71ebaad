import Derived.Test.YtjmpnbbeplgchabGreatDoorR6Pm
import Derived.Test.YtjmpnbbeplgchabGreatDoorR6E
import Derived.Test.YtjmpnbbeplgchabGreatDoorR6Dv
namespace Go.Proofs.YtjmpnbbeplgchabGreatDoor.M
set_option linter.unusedVariables false
set_option linter.unusedSimpArgs false
open Go Go.Mir
theorem L8 {b:List bA}{p:List Wr}{i:Int}(h:∀w∈p,w.1≠i):BD b p i=blk b i:=by
 unfold BD;have:p.reverse.find? (λw=>decide (w.1=i))=none:=by rw[List.find?_eq_none];intro w hw;simpa using h w (List.mem_reverse.1 hw)
 rw[this];rfl
theorem T5 {b:List bA}{p:List Wr}(h:Rt b p=true){i:Int}(h0:0<=i)(hi:i<b.length):blk (Il (λ_=>255) b p p.length) i=BD b p i:=by rw[blk,R5 h i h0 hi];rfl
theorem OB {w:Wd}{h:Nat}{P:List Pr}{B:List Int}{m:Int}(hr:WRight w)(ht:IsTree w h P B)(hm:10<=m/\m<w.now.length/\m∉B)(hn:nowIs w.now (B++[m])):ChkR w [m]=(((P.length:Int),(h:Int),(B.length:Int)),0):=by rw[ChkR,if_neg (by simpa using hr),Ef ht,if_neg (by simp)];dsimp only;rw[Ez,if_neg (by rintro(h|h|h);omega;omega;exact hm.2.2 h),Ez];dsimp only;rw[if_pos hn]
theorem IS {w:Wd}{m:Int}(h:(ChkR w [m]).2=0):WRight w/\∃h P B,IsTree w h P B/\(10<=m/\m<w.now.length/\m∉B)/\nowIs w.now (B++[m]):=by
 unfold ChkR at h;split at h;·cases h
 ·rename_i hr;have hr:WRight w:=by simpa using hr
  split at h;·cases h
  ·rename_i hb;obtain⟨k,P,B,ht,he⟩:=S7 (w:=w) (by simpa using hb);rw[he]at h;dsimp only at h;rw[Ez]at h;split at h;·cases h
   ·rename_i l hl;split at hl;·cases hl
    ·rename_i hm;rw[Ez]at hl;obtain rfl:=Option.some.inj hl;split at h;·rename_i hn;exact⟨hr,k,P,B,ht,⟨by omega,by omega,λhx=>hm (.inr (.inr hx))⟩,hn⟩
     ·cases h
structure Dk (b:List bA) (f:Fnd) (h:Nat) (P:List Pr) (B:List Int):Prop where
 rt:Rt b []=true
 su:suOK f.su
 z:f.su.z=b.length
 sl:f.slot=0\/f.slot=1
 here:blk b f.slot=SuS f.su
 other:(SGet (blk b (1-f.slot))).2≠0\/(SGet (blk b (1-f.slot))).1.g<f.su.g
 small:(blk b (1-f.slot)).size<=512
 wr:WRight f.wd
 len:f.wd.now.length=b.length
 base:f.wd.base=f.wd.now
 gen:f.wd.gen=f.su.g+1
 root:f.wd.root=f.su.r
 tree:IsTree f.wd h P B
 map:f.su.m∉B
 now:nowIs f.wd.now (B++[f.su.m])
 page:∀i:Nat,10<=i->i<b.length->tr f.wd.now i=true->blk f.wd.pages i=blk b i
 mp:∃g,0<=g/\g<=f.su.g/\GetPR (blk b f.su.m) = .tup [pg 3 g (packS f.wd.now),.n (.int .i64 0)]
namespace Dk
set_option linter.unusedVariables false
set_option linter.unusedSimpArgs false
variable {b:List bA} {f:Fnd} {h:Nat} {P:List Pr} {B:List Int}
theorem n24 (d:Dk b f h P B):24<=b.length/\b.length<=2048:=by have h1:=d.su.2.2.1;have h2:=d.su.2.2.2.1;have h3:=d.z;omega
theorem gmax (d:Dk b f h P B):1<=f.su.g/\f.su.g<1099511627776:=by have h1:=d.wr.2.2.2.1;have h2:=d.gen;have h3:=d.su.1;omega
theorem mrg (d:Dk b f h P B):10<=f.su.m/\f.su.m<b.length:=by have h1:=d.su.2.2.2.2.2;have h3:=d.z;omega
theorem choo (d:Dk b f h P B):Gk (blk b 0) (blk b 1)=(f.su,f.slot):=by
 have self:=Vt d.su;have ho:=d.other;have hh:=d.here;rcases d.sl with e|e;·rw[e]at hh ho |-;rw[show(1:Int)-0=1 by decide]at ho;rw[Gk,hh,self];dsimp only;rw[if_pos ⟨rfl,ho.imp id Int.le_of_lt⟩]
 ·rw[e]at hh ho |-;rw[show(1:Int)-1=0 by decide]at ho;rw[Gk,hh,self];dsimp only;rw[if_neg,if_pos rfl];rintro⟨h1,h2|h2⟩;·exact h2 rfl
  ·rcases ho with ho|ho;·exact ho h1
   ·omega
def mt (b:List bA)(f:Fnd):Fnd:=⟨f.su,f.slot,Ht b f.su f.wd.now,EH f.su.g 0 ((b.take 10).drop 2)⟩
theorem tm (d:Dk b f h P B){s:bA}(hs:s∈b):TrimS s=s/\s.size<=4096:=RS ((GS d.rt).1 s hs)
theorem blk_tm (d:Dk b f h P B){i:Int}:TrimS (blk b i)=blk b i/\(blk b i).size<=4096:=by
 unfold blk
 cases hx:b[i.toNat]? with
 | none=>exact⟨by decide +kernel,by decide⟩
 | some s=>exact d.tm (List.mem_of_getElem? hx)
theorem pgs_at {now:List Bool}{i:Int}(h0:0<=i)(hi:i<now.length)(ht:tr now i.toNat=true):blk (IW b now) i=blk b i:=by
 have h1:i.toNat<now.length:=by omega
 simp[blk,IW,h1,ht]
theorem wright (d:Dk b f h P B):WRight (Ht b f.su f.wd.now):=by
 obtain⟨⟨a1,a2,a3,a4⟩,a5,a6,a7,a8,a9⟩:=d.wr;refine⟨⟨rfl,a2,a3,λj hj=>⟨(a4 j hj).2,(a4 j hj).2⟩⟩,Hk _ _,?_,?_,?_,λs hs=>?_⟩;·show 1<=f.su.g+1;rw[<-d.gen];exact a6
 ·show f.su.g+1<=_;rw[<-d.gen];exact a7
 ·show f.su.r=0\/(10<=f.su.r/\f.su.r<(f.wd.now.length:Int));rw[<-d.root];exact a8
 ·obtain⟨i,_,rfl⟩:=List.mem_map.1 hs;split;·exact(d.blk_tm (i:=i)).2
  ·decide
theorem treeM (d:Dk b f h P B):IsTree (Ht b f.su f.wd.now) h P B:=by
 have hr:=d.wr;refine FW d.tree d.root.symm λx hx r n hh=>?_;have hrg:=Hl (Ig hr) hh;have htr:=M3 d.tree x hx;have hlen:=d.len;rw[<-hh];have hp:pgAt (Ht b f.su f.wd.now) x=pgAt f.wd x:=by have h1:pgAt (Ht b f.su f.wd.now) x=blk b x:=pgs_at (by omega) (by omega) htr;have h2:=d.page x.toNat (by omega) (by omega) htr;rw[h1,show((x.toNat:Nat):Int)=x by omega]at *;exact h2.symm
 unfold Ax;rw[hp,show(Ht b f.su f.wd.now).gen=f.wd.gen from d.gen.symm,show(Ht b f.su f.wd.now).now=f.wd.now from rfl,show(Ht b f.su f.wd.now).pages.length=f.wd.pages.length by rw[show(Ht b f.su f.wd.now).pages=IW b f.wd.now from rfl,Hk];exact hr.2.1.symm]
theorem mount (d:Dk b f h P B):AF b []=(mt b f,0):=by
 have n:=d.n24;have c:=d.choo;have g:=d.gmax;have hz:=d.z;have hs:=d.sl;obtain⟨g',g0,g1,hg⟩:=d.mp;have hrow:SE b f.su=some f.wd.now:=by
  rw[SE,L6,hg,pg];dsimp only;have hu:FC (packS f.wd.now) f.su.z=(f.wd.now,0):=by rw[d.z,<-d.len];exact X5 (by rw[d.len];exact n.2)
  rw[hu,if_pos ⟨rfl,rfl,g1,rfl⟩]
 have hm:=d.mrg;have hl:=d.len;rw[AF,if_neg (by rw[d.rt];simp),if_neg (by omega),c];dsimp only;rw[if_neg (by omega),hrow];dsimp only;rw[OB d.wright d.treeM ⟨hm.1,by show f.su.m<(f.wd.now.length:Int);omega,d.map⟩ d.now,if_neg (by simp)];rfl
theorem frame (d:Dk b f h P B){b':List bA}(hr:Rt b' []=true)(hl:b'.length=b.length)(h2:blk b' 0=blk b 0/\blk b' 1=blk b 1)(hp:∀i:Nat,10<=i->i<b.length->tr f.wd.now i=true->blk b' i=blk b i):Dk b' f h P B:=by
 have hs:blk b' f.slot=blk b f.slot/\blk b' (1-f.slot)=blk b (1-f.slot):=by
  rcases d.sl with e|e<;>rw[e];·exact⟨h2.1,h2.2⟩
  ·exact⟨h2.2,h2.1⟩
 have hm:=d.mrg;have htm:tr f.wd.now f.su.m.toNat=true:=by rw[d.now _ (by rw[d.len];omega),show((f.su.m.toNat:Nat):Int)=f.su.m by omega];simp
 have em:=hp f.su.m.toNat (by omega) (by omega) htm;rw[show((f.su.m.toNat:Nat):Int)=f.su.m by omega]at em;exact⟨hr,d.su,by rw[hl];exact d.z,d.sl,by rw[hs.1];exact d.here,by rw[hs.2];exact d.other,by rw[hs.2];exact d.small,d.wr,by rw[hl];exact d.len,d.base,d.gen,d.root,d.tree,d.map,d.now,
  λi h10 hi ht=>by rw[hl]at hi;rw[hp i h10 hi ht];exact d.page i h10 hi ht,by rw[em];exact d.mp⟩
theorem again (d:Dk b f h P B):Dk b (mt b f) h P B where
 rt:=d.rt
 su:=d.su
 z:=d.z
 sl:=d.sl
 here:=d.here
 other:=d.other
 small:=d.small
 wr:=d.wright
 len:=d.len
 base:=rfl
 gen:=rfl
 root:=rfl
 tree:=d.treeM
 map:=d.map
 now:=d.now
 page i h10 hi ht:=pgs_at (by omega) (by have:=d.len;show(i:Int)<(f.wd.now.length:Int);omega) ht
 mp:=d.mp
end Dk
structure Mk (f:Fnd) (w:Wd) (h:Nat) (P:List Pr) (B:List Int):Prop where
 wr:WRight w
 base:w.base=f.wd.now
 gen:w.gen=f.su.g+1
 nlen:w.now.length=f.wd.now.length
 tree:IsTree w h P B
 map:f.su.m∉B
 now:nowIs w.now (B++[f.su.m])
 page:∀i:Nat,10<=i->tr f.wd.now i=true->blk w.pages i=blk f.wd.pages i
 tidy:∀s∈w.pages,TrimS s=s
theorem T0 {now:List Bool}{B:List Int}{m:Int}(h:nowIs now (B++[m]))(h0:0<=m)(hm:m<now.length):tr now m.toNat=true:=by rw[h _ (by omega),show((m.toNat:Nat):Int)=m by omega];simp
theorem Dk.same {b:List bA}{f:Fnd}{h:Nat}{P:List Pr}{B:List Int}(d:Dk b f h P B)(ht:∀s∈f.wd.pages,TrimS s=s):Mk f f.wd h P B:=
 ⟨d.wr,d.base,d.gen,rfl,d.tree,d.map,d.now,λ_ _ _=>rfl,ht⟩
theorem Dk.fits {b:List bA}{f:Fnd}{h h':Nat}{P P':List Pr}{B B':List Int}(d:Dk b f h P B){p:List Wr}(hp:Rt b p=true){w:Wd}(m:Mk f w h' P' B')(g:Fnd)(e1:g.su=f.su)(e2:g.slot=f.slot)(e3:g.wd=w):FitsP b p g:=by
 have hm:=d.mrg;have hl:=d.len;have hn:=m.nlen;rw[<-e3]at m;rw[<-e3]at hn;refine⟨hp,by rw[e1];exact d.su,m.wr,by rw[e1];exact d.z,by omega,by rw[e2];exact d.sl,by rw[m.gen,e1],?_,?_⟩;·rw[e1];exact T0 m.now (by omega) (by omega)
 ·rw[e1];rcases m.tree with⟨h0,_⟩|⟨_,_,_,ht,_⟩
  ·rw[h0];omega
  ·intro e;exact m.map (e▸ht.root_mem)
theorem Dk.chk {b:List bA}{f:Fnd}{h h':Nat}{P P':List Pr}{B B':List Int}(d:Dk b f h P B){w:Wd}(m:Mk f w h' P' B'):(ChkR w [f.su.m]).2=0:=by have hm:=d.mrg;have hl:=d.len;have hn:=m.nlen;rw[OB m.wr m.tree ⟨hm.1,by omega,m.map⟩ m.now]
end Go.Proofs.YtjmpnbbeplgchabGreatDoor.M
namespace Go.Proofs.YtjmpnbbeplgchabGreatDoor.M
set_option linter.unusedVariables false
set_option linter.unusedSimpArgs false
open Go Go.Mir
def Pp (c:Cl):Wr:=nwW c.1 c.2
def MF (l:Int)(k:Nat):Int:=if l<0 then l else l-k
def okC (b:List bA)(c:Cl):Prop:=0<=c.1/\c.1<b.length/\c.2.size<=4096
theorem KF:∀(l:List Cl) (s:Pw),(∀c∈l,okC s.b c)->s.p.length+l.length<=2048->(s.left<0\/(l.length:Int)<=s.left)->AL s l=(⟨s.b,s.p++l.map Pp,MF s.left l.length⟩,0)
 | [],s,_,_,_=>by obtain⟨b,p,left⟩:=s;simp only[AL,List.map_nil,List.append_nil,MF,List.length_nil];split<;>simp
 | c::r,s,hc,hp,hl=>by
  obtain⟨h1,h2,h3⟩:=hc c (by simp);rw[List.length_cons]at hp hl;have e:Ge s c=(⟨s.b,s.p++[nwW c.1 c.2],dn s.left⟩,0):=by rw[Ge,if_neg (by omega),if_neg (by omega),if_neg (by omega),if_neg (by omega)]
  rw[AL,e];dsimp only;rw[if_neg (by simp),KF r ⟨s.b,s.p++[nwW c.1 c.2],dn s.left⟩ (λx hx=>hc x (by simp[hx])) (by simp only[List.length_append,List.length_singleton];omega) (by dsimp only;unfold dn;split<;>omega)];have e2:MF (dn s.left) r.length=MF s.left (r.length+1):=by unfold MF dn;split<;>split<;>omega
  dsimp only;rw[e2,List.append_assoc];rfl
theorem NF:∀(l:List Cl) (s:Pw),(∀c∈l,okC s.b c)->s.p.length+l.length<=2048->0<=s.left->s.left<l.length->AL s l=(⟨s.b,s.p++(l.take s.left.toNat).map Pp,0⟩,140)
 | [],s,_,_,h0,h1=>by simp at h1;omega
 | c::r,s,hc,hp,h0,h1=>by
  obtain⟨g1,g2,g3⟩:=hc c (by simp);rw[List.length_cons]at hp h1;by_cases hl:s.left=0
  ·have e:Ge s c=(s,140):=by rw[Ge,if_pos hl]
   rw[AL,e,if_pos (by simp),hl];obtain⟨b,p,left⟩:=s;simp at hl;simp[hl]
  ·have e:Ge s c=(⟨s.b,s.p++[nwW c.1 c.2],dn s.left⟩,0):=by rw[Ge,if_neg hl,if_neg (by omega),if_neg (by omega),if_neg (by omega)]
   have e2:dn s.left=s.left-1:=by unfold dn;rw[if_pos (by omega)]
   rw[AL,e];dsimp only;rw[if_neg (by simp),e2,NF r ⟨s.b,s.p++[nwW c.1 c.2],s.left-1⟩ (λx hx=>hc x (by simp[hx])) (by simp only[List.length_append,List.length_singleton];omega) (by dsimp only;omega) (by dsimp only;omega)];dsimp only;rw[show s.left.toNat=(s.left-1).toNat+1 by omega,List.take_succ_cons,List.map_cons,List.append_assoc];rfl
theorem KA {b:List bA}{p:List Wr}{pages:List bA}{now:List Bool}{block:Nat}{c:Cl}:∀ {n:Nat},c∈Hv b p pages now block n->∃i:Nat,i<n/\c=((i:Int),blk pages i)/\10<=i/\tr now i=true/\i≠block/\blk pages i≠BD b p i
 | 0,h=>by cases h
 | n+1,h=>by
  rw[Hv]at h;have ih:c∈Hv b p pages now block n->_:=λh=>KA h;split at h
  ·rename_i hc;rcases List.mem_append.1 h with h|h;·obtain⟨i,hi,x⟩:=ih h;exact⟨i,by omega,x⟩
   ·exact⟨n,by omega,by simpa using h,hc⟩
  ·obtain⟨i,hi,x⟩:=ih h;exact⟨i,by omega,x⟩
theorem Uj (b:List bA)(p:List Wr)(pages:List bA)(now:List Bool)(block:Nat):∀n,(Hv b p pages now block n).length<=n
 | 0=>Nat.le_refl _
 | n+1=>by
  have:=Uj b p pages now block n;rw[Hv];split;·simp only[List.length_append,List.length_singleton];omega
  ·omega
theorem NC {b:List bA}{p q:List Wr}{i:Int}(h:∀w∈q,w.1≠i):BD b (p++q) i=BD b p i:=by
 induction q generalizing p with
 | nil=>rw[List.append_nil]
 | cons w q ih=> rw[show p++w::q=(p++[w])++q by simp,ih (λx hx=>h x (by simp[hx])),Dy,if_neg (h w (by simp))]
theorem iN (b:List bA)(p:List Wr)(pages:List bA)(now:List Bool)(block:Nat)(i:Nat):∀n,BD b (p++(Hv b p pages now block n).map Pp) i=if i<n/\10<=i/\tr now i=true/\i≠block/\blk pages i≠BD b p i then TrimS (blk pages i) else BD b p i
 | 0=>by rw[if_neg (by omega)];simp[Hv]
 | n+1=>by
  have ih:=iN b p pages now block i n;rw[Hv];split
  ·rename_i hc;rw[List.map_append,<-List.append_assoc,List.map_cons,List.map_nil,Dy,ih];by_cases e:n=i;·subst e;rw[if_pos (show(Pp ((n:Int),blk pages n)).1=n from rfl),if_pos ⟨by omega,hc⟩];rfl
   ·rw[if_neg (by show ¬(n:Int)=i;omega)];by_cases h2:10<=i/\tr now i=true/\i≠block/\blk pages i≠BD b p i
    ·by_cases h3:i<n;·rw[if_pos ⟨h3,h2⟩,if_pos ⟨by omega,h2⟩]
     ·rw[if_neg (λh=>h3 h.1),if_neg (λh=>by omega)]
    ·rw[if_neg (λh=>h2 h.2),if_neg (λh=>h2 h.2)]
  ·rename_i hc;rw[ih];by_cases h2:10<=i/\tr now i=true/\i≠block/\blk pages i≠BD b p i
   ·have:i≠n:=λe=>hc (e▸h2);by_cases h3:i<n;·rw[if_pos ⟨h3,h2⟩,if_pos ⟨by omega,h2⟩]
    ·rw[if_neg (λh=>h3 h.1),if_neg (λh=>by omega)]
   ·rw[if_neg (λh=>h2 h.2),if_neg (λh=>h2 h.2)]
def wrA (b:List bA)(p:List Wr)(f:Fnd)(block:Nat):List Cl:=Hv b p f.wd.pages (nowC f block) block (nowC f block).length++[((block:Int),mapP f.wd.gen (nowC f block))]
theorem RY (b:List bA)(p:List Wr)(f:Fnd)(block:Nat):A2 b p f block=wrA b p f block++[(-1,Ar),(1-f.slot,SuS (nwSu f block)),(-1,Ar)]:=by rw[A2,wrA,List.append_assoc];rfl
def b1Of (b:List bA)(p:List Wr)(f:Fnd)(block:Nat):List bA:=Il (λ_=>255) b (p++(wrA b p f block).map Pp) (p++(wrA b p f block).map Pp).length
def b2Of (b:List bA)(p:List Wr)(f:Fnd)(block:Nat):List bA:=Il (λ_=>255) (b1Of b p f block) [nwW (1-f.slot) (SuS (nwSu f block))] 1
theorem Sj {b:List bA}{p:List Wr}{f:Fnd}{block:Nat}{L:Int}(hb:24<=b.length)(hw:∀c∈wrA b p f block,okC b c)(hk:p.length+(wrA b p f block).length<=2048)(hs:f.slot=0\/f.slot=1):
   AL ⟨b,p,L⟩ (A2 b p f block) =
     if L<0\/((wrA b p f block).length:Int)+3<=L then (⟨b2Of b p f block,[],MF L ((wrA b p f block).length+3)⟩,0)
     else if L<=(wrA b p f block).length then (⟨b,p++((wrA b p f block).take L.toNat).map Pp,0⟩,140)
     else if L=(wrA b p f block).length+1 then (⟨b1Of b p f block,[],0⟩,140)
     else (⟨b1Of b p f block,[nwW (1-f.slot) (SuS (nwSu f block))],0⟩,140):=by
 rw[RY,Mr]
 have hl1:(b1Of b p f block).length=b.length:=by rw[b1Of,Bf]
 have sz:(SuS (nwSu f block)).size<=19:=GX _
 generalize hW:wrA b p f block=W at *
 have e1:b1Of b p f block=Il (λ_=>255) b (p++W.map Pp) (p++W.map Pp).length:=by rw[b1Of,hW]
 have d1:∀l,l≠0->Ge ⟨b,p++W.map Pp,l⟩ (-1,Ar)=(⟨b1Of b p f block,[],dn l⟩,0):=λl hl=>by rw[Ge,if_neg (by exact hl),if_pos (by decide),e1]
 have d2:∀l,l≠0->Ge ⟨b1Of b p f block,[],l⟩ (1-f.slot,SuS (nwSu f block))=(⟨b1Of b p f block,[nwW (1-f.slot) (SuS (nwSu f block))],dn l⟩,0):=λl hl=>by rw[Ge,if_neg (by exact hl),if_neg (by dsimp only;omega),if_neg (by dsimp only;rw[hl1];omega),if_neg (by dsimp only;simp;omega)];rfl
 have d3:∀l,l≠0->Ge ⟨b1Of b p f block,[nwW (1-f.slot) (SuS (nwSu f block))],l⟩ (-1,Ar)=(⟨b2Of b p f block,[],dn l⟩,0):=λl hl=>by rw[Ge,if_neg (by exact hl),if_pos (by decide)];rfl
 have d0:∀(s:Pw) (c:Cl),s.left=0->Ge s c=(s,140):=λs c h=>by rw[Ge,if_pos h]
 by_cases h1:L<0\/(W.length:Int)+3<=L
 ·rw[if_pos h1,KF W _ hw hk (by dsimp only;omega)]
  dsimp only
  have n1:MF L W.length≠0:=by unfold MF;split<;>omega
  have n2:dn (MF L W.length)≠0:=by unfold dn MF;(repeat' split)<;>omega
  have n3:dn (dn (MF L W.length))≠0:=by unfold dn MF;(repeat' split)<;>omega
  have n4:dn (dn (dn (MF L W.length)))=MF L (W.length+3):=by
   have dneg:∀l:Int,l<0->dn l=l:=λl h=>by unfold dn;rw[if_neg (by omega)]
   have dpos:∀l:Int,0<l->dn l=l-1:=λl h=>by unfold dn;rw[if_pos h]
   rcases h1 with h|h
   ·have e:∀k,MF L k=L:=λk=>by unfold MF;rw[if_pos h]
    rw[e,e,dneg L h,dneg L h,dneg L h]
   ·have e:∀k:Nat,MF L k=L-k:=λk=>by unfold MF;rw[if_neg (by omega)]
    rw[e,e,dpos (L-W.length) (by omega),dpos (L-W.length-1) (by omega),dpos (L-W.length-1-1) (by omega)];omega
  rw[if_neg (by simp),AL,d1 _ n1,if_neg (by simp),AL,d2 _ n2,if_neg (by simp),AL,d3 _ n3,if_neg (by simp),AL,n4]
 ·rw[if_neg h1]
  by_cases h2:L<=W.length
  ·rw[if_pos h2]
   by_cases h3:L=W.length
   ·subst h3
    rw[KF W _ hw hk (by dsimp only;omega)]
    dsimp only
    have z:MF (W.length:Int) W.length=0:=by unfold MF;rw[if_neg (by omega)];omega
    rw[if_neg (by simp),z,AL,d0 _ _ rfl,if_pos (by simp),Int.toNat_natCast,List.take_of_length_le (Nat.le_refl _)]
   ·rw[NF W _ hw hk (by dsimp only;omega) (by dsimp only;omega),if_pos (by simp)]
  ·rw[if_neg h2,KF W _ hw hk (by dsimp only;omega)]
   dsimp only
   have n0:MF L W.length=L-W.length:=by unfold MF;rw[if_neg (by omega)]
   have n1:L-W.length≠0:=by omega
   rw[if_neg (by simp),n0,AL,d1 _ n1,if_neg (by simp)]
   dsimp only
   have n2:dn (L-W.length)=L-W.length-1:=by unfold dn;rw[if_pos (by omega)]
   by_cases h4:L=W.length+1
   ·rw[if_pos h4,n2,show L-W.length-1=0 by omega,AL,d0 _ _ rfl,if_pos (by simp)]
   ·rw[if_neg h4,n2,AL,d2 _ (by omega),if_neg (by simp)]
    dsimp only
    rw[show dn (L-W.length-1)=0 by unfold dn;rw[if_pos (by omega)];omega,AL,d0 _ _ rfl,if_pos (by simp)]
structure Co (b:List bA) (p:List Wr) (f:Fnd) (w:Wd) (g:Fnd) (block:Nat):Prop where
 rg:10<=block/\block<b.length
 free:tr f.wd.now block=false
 e1:g.su=f.su
 e2:g.slot=f.slot
 e3:g.wd=w
 room:p.length+b.length+1<=2048
theorem Pm {l:List bA}{i:Nat}{s:bA}(hi:i<l.length)(j:Nat):blk (l.set i s) j=if j=i then s else blk l j:=by
 unfold blk;rw[Int.toNat_natCast];by_cases e:j=i;·subst e;rw[if_pos rfl,List.getElem?_set_self hi];rfl
 ·rw[if_neg e,List.getElem?_set_ne (λh=>e h.symm)]
theorem On {l:List bA}{i:Int}:blk l i∈l\/blk l i=Ar:=by
 unfold blk
 cases h:l[i.toNat]? with
 | none=>exact .inr rfl
 | some s=>exact .inl (List.mem_of_getElem? h)
theorem Dk.block {b:List bA}{f:Fnd}{h h':Nat}{P P':List Pr}{B B':List Int}(d:Dk b f h P B){w:Wd}(m:Mk f w h' P' B')(hg:f.su.g+1<1099511627776){p:List Wr}(hp:p.length+b.length+1<=2048){g:Fnd}(e1:g.su=f.su)(e2:g.slot=f.slot)(e3:g.wd=w){block:Nat}(hf:firstFree (gave g.wd g.su.m)=some block):
  Co b p f w g block/\(block:Int)∉B'/\WRight (D2 w f.su.m block (mapP w.gen (nowC g block)))/\IsTree (D2 w f.su.m block (mapP w.gen (nowC g block))) h' P' B'/\nowIs (nowC g block) (B'++[(block:Int)])/\(nowC g block).length=b.length:=by
 have hm:=d.mrg
 have hl:=d.len
 have hn:=m.nlen
 have hnl:(nowC g block).length=b.length:=by rw[nowC,gave,e3];simp;omega
 have hmx:(mapP w.gen (nowC g block)).size<=4096:=by have:=Fz (g:=w.gen) (now:=nowC g block) (by have:=m.gen;have:=d.gmax;omega) (by have:=m.gen;omega) (by rw[hnl];exact d.n24.2);omega
 rw[e3,e1]at hf
 obtain⟨c1,c2,c3,c4,c5,c6⟩:=SA (s:=mapP w.gen (nowC g block)) m.wr m.tree ⟨hm.1,by omega,m.map⟩ m.now hf (by have:=m.gen;omega) hmx
 have hfree:tr f.wd.now block=false:=by have:=(DE hf).2.1;unfold AJ at this;rw[Bool.and_eq_true]at this;have h2:=this.1;rw[show(gave w f.su.m).base=f.wd.now from m.base]at h2;simpa using h2
 refine⟨⟨⟨c1,by omega⟩,hfree,e1,e2,e3,hp⟩,c3,c4,c5,?_,hnl⟩
 have:nowC g block=(D2 w f.su.m block (mapP w.gen (nowC g block))).now:=by rw[nowC,e3,e1];rfl
 rw[this]
 exact c6
theorem lV {b:List bA}{c:Cl}(h:okC b c):Wm b.length (Pp c)=true:=by obtain⟨h1,h2,h3⟩:=h;rw[Pp,nwW,Wm];dsimp only;rw[decide_eq_true h1,decide_eq_true h2,Ra (by rw[BQ];exact FL) (by have:=Dw c.2;omega)];rfl
theorem OI {b:List bA}{p:List Wr}{l:List Cl}(h:Rt b p=true)(hc:∀x∈l,okC b x)(hl:p.length+l.length<=2048):Rt b (p++l.map Pp)=true:=by
 obtain⟨h1,h2,h3⟩:=GS h;refine XF ⟨h2.1,h2.2.1,by simp;exact hl⟩ h1 λw hw=>?_;rcases List.mem_append.1 hw with hw|hw
 ·exact h3 w hw
 ·obtain⟨c,hc',rfl⟩:=List.mem_map.1 hw;exact lV (hc c hc')
theorem Qd (s:Su):TrimS (SuS s)=SuS s:=JI _ _ _
end Go.Proofs.YtjmpnbbeplgchabGreatDoor.M
