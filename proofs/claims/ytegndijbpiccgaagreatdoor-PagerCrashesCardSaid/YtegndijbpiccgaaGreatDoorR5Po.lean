import Derived.Test.YtegndijbpiccgaaGreatDoorR5Pm
namespace Go.Proofs.YtegndijbpiccgaaGreatDoor.M
set_option linter.unusedVariables false
set_option linter.unusedSimpArgs false
open Go Go.Mir
theorem Dz {b:List bA}{p:List Wr}{i:Int}(h:∀w∈p,w.1≠i):TellS b p i=blk b i:=by
 unfold TellS;have:p.reverse.find? (λw=>decide (w.1=i))=none:=by rw[List.find?_eq_none];intro w hw;simpa using h w (List.mem_reverse.1 hw)
 rw[this];rfl
theorem KC {b:List bA}{p:List Wr}(h:Rt b p=true){i:Int}(h0:0<=i)(hi:i<b.length):blk (D7 (λ_=>255) b p p.length) i=TellS b p i:=by rw[blk,Sp h i h0 hi];rfl
theorem JK {f:Nat->Int}{b:List bA}{p:List Wr}{i:Nat}(h:∀w∈p,w.1.toNat≠i):∀n,(D7 f b p n)[i]?=b[i]?
 | 0=>rfl
 | n+1=>by
  rw[D7]
  cases hp:p[n]? with
  | none=>exact JK h n
  | some w=> dsimp only;rw[List.getElem?_set_ne (h w (List.mem_of_getElem? hp))];exact JK h n
theorem T3 {w:Wd}{h:Nat}{P:List Pr}{B:List Int}{m:Int}(hr:WRight w)(ht:IsTree w h P B)(hm:10<=m/\m<w.now.length/\m∉B)(hn:nowIs w.now (B++[m])):ChkR w [m]=(((P.length:Int),(h:Int),(B.length:Int)),0):=by rw[ChkR,if_neg (by simpa using hr),JB ht,if_neg (by simp)];dsimp only;rw[EL,if_neg (by rintro(h|h|h);omega;omega;exact hm.2.2 h),EL];dsimp only;rw[if_pos hn]
theorem X3 {w:Wd}{m:Int}(h:(ChkR w [m]).2=0):WRight w/\∃h P B,IsTree w h P B/\(10<=m/\m<w.now.length/\m∉B)/\nowIs w.now (B++[m]):=by
 unfold ChkR at h;split at h;·cases h
 ·rename_i hr;have hr:WRight w:=by simpa using hr
  split at h;·cases h
  ·rename_i hb;obtain⟨k,P,B,ht,he⟩:=Sl (w:=w) (by simpa using hb);rw[he]at h;dsimp only at h;rw[EL]at h;split at h;·cases h
   ·rename_i l hl;split at hl;·cases hl
    ·rename_i hm;rw[EL]at hl;obtain rfl:=Option.some.inj hl;split at h;·rename_i hn;exact⟨hr,k,P,B,ht,⟨by omega,by omega,λhx=>hm (.inr (.inr hx))⟩,hn⟩
     ·cases h
structure Dk (b:List bA) (f:Fnd) (h:Nat) (P:List Pr) (B:List Int):Prop where
 rt:Rt b []=true
 su:suOK f.su
 z:f.su.z=b.length
 sl:f.slot=0\/f.slot=1
 here:blk b f.slot=SuS f.su
 other:(SGet (blk b (1-f.slot))).2≠0\/(SGet (blk b (1-f.slot))).1.g<f.su.g
 small:(blk b (1-f.slot)).size<=512
 wr:WRight f.wd
 len:f.wd.now.length=b.length
 base:f.wd.base=f.wd.now
 gen:f.wd.gen=f.su.g+1
 root:f.wd.root=f.su.r
 tree:IsTree f.wd h P B
 map:f.su.m∉B
 now:nowIs f.wd.now (B++[f.su.m])
 page:∀i:Nat,10<=i->i<b.length->tr f.wd.now i=true->blk f.wd.pages i=blk b i
 mp:∃g,0<=g/\g<=f.su.g/\GetPR (blk b f.su.m) = .tup [pg 3 g (packS f.wd.now),.n (.int .i64 0)]
namespace Dk
set_option linter.unusedVariables false
set_option linter.unusedSimpArgs false
variable {b:List bA} {f:Fnd} {h:Nat} {P:List Pr} {B:List Int}
theorem n24 (d:Dk b f h P B):24<=b.length/\b.length<=2048:=by have h1:=d.su.2.2.1;have h2:=d.su.2.2.2.1;have h3:=d.z;omega
theorem gmax (d:Dk b f h P B):1<=f.su.g/\f.su.g<1099511627776:=by have h1:=d.wr.2.2.2.1;have h2:=d.gen;have h3:=d.su.1;omega
theorem mrg (d:Dk b f h P B):10<=f.su.m/\f.su.m<b.length:=by have h1:=d.su.2.2.2.2.2;have h3:=d.z;omega
theorem choo (d:Dk b f h P B):HY (blk b 0) (blk b 1)=(f.su,f.slot):=by
 have self:=NX d.su;have ho:=d.other;have hh:=d.here;rcases d.sl with e|e;·rw[e]at hh ho |-;rw[show(1:Int)-0=1 by decide]at ho;rw[HY,hh,self];dsimp only;rw[if_pos ⟨rfl,ho.imp id Int.le_of_lt⟩]
 ·rw[e]at hh ho |-;rw[show(1:Int)-1=0 by decide]at ho;rw[HY,hh,self];dsimp only;rw[if_neg,if_pos rfl];rintro⟨h1,h2|h2⟩;·exact h2 rfl
  ·rcases ho with ho|ho;·exact ho h1
   ·omega
def mt (b:List bA)(f:Fnd):Fnd:=⟨f.su,f.slot,G1 b f.su f.wd.now,Iq f.su.g 0 ((b.take 10).drop 2)⟩
theorem tm (d:Dk b f h P B){s:bA}(hs:s∈b):TrimS s=s/\s.size<=4096:=Sv ((Ic d.rt).1 s hs)
theorem blk_tm (d:Dk b f h P B){i:Int}:TrimS (blk b i)=blk b i/\(blk b i).size<=4096:=by
 unfold blk
 cases hx:b[i.toNat]? with
 | none=>exact⟨by decide +kernel,by decide⟩
 | some s=>exact d.tm (List.mem_of_getElem? hx)
theorem pgs_at {now:List Bool}{i:Int}(h0:0<=i)(hi:i<now.length)(ht:tr now i.toNat=true):blk (Gp b now) i=blk b i:=by
 have h1:i.toNat<now.length:=by omega
 simp[blk,Gp,h1,ht]
theorem wright (d:Dk b f h P B):WRight (G1 b f.su f.wd.now):=by
 obtain⟨⟨a1,a2,a3,a4⟩,a5,a6,a7,a8,a9⟩:=d.wr;refine⟨⟨rfl,a2,a3,λj hj=>⟨(a4 j hj).2,(a4 j hj).2⟩⟩,DE _ _,?_,?_,?_,λs hs=>?_⟩;·show 1<=f.su.g+1;rw[<-d.gen];exact a6
 ·show f.su.g+1<=_;rw[<-d.gen];exact a7
 ·show f.su.r=0\/(10<=f.su.r/\f.su.r<(f.wd.now.length:Int));rw[<-d.root];exact a8
 ·obtain⟨i,_,rfl⟩:=List.mem_map.1 hs;split;·exact(d.blk_tm (i:=i)).2
  ·decide
theorem treeM (d:Dk b f h P B):IsTree (G1 b f.su f.wd.now) h P B:=by
 have hr:=d.wr;refine I0 d.tree d.root.symm λx hx r n hh=>?_;have hrg:=CW (CK hr) hh;have htr:=Oa d.tree x hx;have hlen:=d.len;rw[<-hh];have hp:pgAt (G1 b f.su f.wd.now) x=pgAt f.wd x:=by have h1:pgAt (G1 b f.su f.wd.now) x=blk b x:=pgs_at (by omega) (by omega) htr;have h2:=d.page x.toNat (by omega) (by omega) htr;rw[h1,show((x.toNat:Nat):Int)=x by omega]at *;exact h2.symm
 unfold Aj;rw[hp,show(G1 b f.su f.wd.now).gen=f.wd.gen from d.gen.symm,show(G1 b f.su f.wd.now).now=f.wd.now from rfl,show(G1 b f.su f.wd.now).pages.length=f.wd.pages.length by rw[show(G1 b f.su f.wd.now).pages=Gp b f.wd.now from rfl,DE];exact hr.2.1.symm]
theorem mount (d:Dk b f h P B):GJ b []=(mt b f,0):=by
 have n:=d.n24;have c:=d.choo;have g:=d.gmax;have hz:=d.z;have hs:=d.sl;obtain⟨g',g0,g1,hg⟩:=d.mp;have hrow:SS b f.su=some f.wd.now:=by
  rw[SS,LS,hg,pg];dsimp only;have hu:F7 (packS f.wd.now) f.su.z=(f.wd.now,0):=by rw[d.z,<-d.len];exact ZC (by rw[d.len];exact n.2)
  rw[hu,if_pos ⟨rfl,rfl,g1,rfl⟩]
 have hm:=d.mrg;have hl:=d.len;rw[GJ,if_neg (by rw[d.rt];simp),if_neg (by omega),c];dsimp only;rw[if_neg (by omega),hrow];dsimp only;rw[T3 d.wright d.treeM ⟨hm.1,by show f.su.m<(f.wd.now.length:Int);omega,d.map⟩ d.now,if_neg (by simp)];rfl
theorem frame (d:Dk b f h P B){b':List bA}(hr:Rt b' []=true)(hl:b'.length=b.length)(h2:blk b' 0=blk b 0/\blk b' 1=blk b 1)(hp:∀i:Nat,10<=i->i<b.length->tr f.wd.now i=true->blk b' i=blk b i):Dk b' f h P B:=by
 have hs:blk b' f.slot=blk b f.slot/\blk b' (1-f.slot)=blk b (1-f.slot):=by
  rcases d.sl with e|e<;>rw[e];·exact⟨h2.1,h2.2⟩
  ·exact⟨h2.2,h2.1⟩
 have hm:=d.mrg;have htm:tr f.wd.now f.su.m.toNat=true:=by rw[d.now _ (by rw[d.len];omega),show((f.su.m.toNat:Nat):Int)=f.su.m by omega];simp
 have em:=hp f.su.m.toNat (by omega) (by omega) htm;rw[show((f.su.m.toNat:Nat):Int)=f.su.m by omega]at em;exact⟨hr,d.su,by rw[hl];exact d.z,d.sl,by rw[hs.1];exact d.here,by rw[hs.2];exact d.other,by rw[hs.2];exact d.small,d.wr,by rw[hl];exact d.len,d.base,d.gen,d.root,d.tree,d.map,d.now,
  λi h10 hi ht=>by rw[hl]at hi;rw[hp i h10 hi ht];exact d.page i h10 hi ht,by rw[em];exact d.mp⟩
theorem again (d:Dk b f h P B):Dk b (mt b f) h P B where
 rt:=d.rt
 su:=d.su
 z:=d.z
 sl:=d.sl
 here:=d.here
 other:=d.other
 small:=d.small
 wr:=d.wright
 len:=d.len
 base:=rfl
 gen:=rfl
 root:=rfl
 tree:=d.treeM
 map:=d.map
 now:=d.now
 page i h10 hi ht:=pgs_at (by omega) (by have:=d.len;show(i:Int)<(f.wd.now.length:Int);omega) ht
 mp:=d.mp
end Dk
structure Mk (f:Fnd) (w:Wd) (h:Nat) (P:List Pr) (B:List Int):Prop where
 wr:WRight w
 base:w.base=f.wd.now
 gen:w.gen=f.su.g+1
 nlen:w.now.length=f.wd.now.length
 tree:IsTree w h P B
 map:f.su.m∉B
 now:nowIs w.now (B++[f.su.m])
 page:∀i:Nat,10<=i->tr f.wd.now i=true->blk w.pages i=blk f.wd.pages i
 tidy:∀s∈w.pages,TrimS s=s
theorem O9 {now:List Bool}{B:List Int}{m:Int}(h:nowIs now (B++[m]))(h0:0<=m)(hm:m<now.length):tr now m.toNat=true:=by rw[h _ (by omega),show((m.toNat:Nat):Int)=m by omega];simp
theorem Dk.same {b:List bA}{f:Fnd}{h:Nat}{P:List Pr}{B:List Int}(d:Dk b f h P B)(ht:∀s∈f.wd.pages,TrimS s=s):Mk f f.wd h P B:=
 ⟨d.wr,d.base,d.gen,rfl,d.tree,d.map,d.now,λ_ _ _=>rfl,ht⟩
theorem Dk.fits {b:List bA}{f:Fnd}{h h':Nat}{P P':List Pr}{B B':List Int}(d:Dk b f h P B){p:List Wr}(hp:Rt b p=true){w:Wd}(m:Mk f w h' P' B')(g:Fnd)(e1:g.su=f.su)(e2:g.slot=f.slot)(e3:g.wd=w):FitsP b p g:=by
 have hm:=d.mrg;have hl:=d.len;have hn:=m.nlen;rw[<-e3]at m;rw[<-e3]at hn;refine⟨hp,by rw[e1];exact d.su,m.wr,by rw[e1];exact d.z,by omega,by rw[e2];exact d.sl,by rw[m.gen,e1],?_,?_⟩;·rw[e1];exact O9 m.now (by omega) (by omega)
 ·rw[e1];rcases m.tree with⟨h0,_⟩|⟨_,_,_,ht,_⟩
  ·rw[h0];omega
  ·intro e;exact m.map (e▸ht.root_mem)
theorem Dk.chk {b:List bA}{f:Fnd}{h h':Nat}{P P':List Pr}{B B':List Int}(d:Dk b f h P B){w:Wd}(m:Mk f w h' P' B'):(ChkR w [f.su.m]).2=0:=by have hm:=d.mrg;have hl:=d.len;have hn:=m.nlen;rw[T3 m.wr m.tree ⟨hm.1,by omega,m.map⟩ m.now]
end Go.Proofs.YtegndijbpiccgaaGreatDoor.M
namespace Go.Proofs.YtegndijbpiccgaaGreatDoor.M
set_option linter.unusedVariables false
set_option linter.unusedSimpArgs false
open Go Go.Mir
def nwc (c:Cl):Wr:=nwW c.1 c.2
def dnN (l:Int)(k:Nat):Int:=if l<0 then l else l-k
def okC (b:List bA)(c:Cl):Prop:=0<=c.1/\c.1<b.length/\c.2.size<=4096
theorem KR:∀(l:List Cl) (s:Pw),(∀c∈l,okC s.b c)->s.p.length+l.length<=2048->(s.left<0\/(l.length:Int)<=s.left)->AJ s l=(⟨s.b,s.p++l.map nwc,dnN s.left l.length⟩,0)
 | [],s,_,_,_=>by obtain⟨b,p,left⟩:=s;simp only[AJ,List.map_nil,List.append_nil,dnN,List.length_nil];split<;>simp
 | c::r,s,hc,hp,hl=>by
  obtain⟨h1,h2,h3⟩:=hc c (by simp);rw[List.length_cons]at hp hl;have e:Gw s c=(⟨s.b,s.p++[nwW c.1 c.2],dn s.left⟩,0):=by rw[Gw,if_neg (by omega),if_neg (by omega),if_neg (by omega),if_neg (by omega)]
  rw[AJ,e];dsimp only;rw[if_neg (by simp),KR r ⟨s.b,s.p++[nwW c.1 c.2],dn s.left⟩ (λx hx=>hc x (by simp[hx])) (by simp only[List.length_append,List.length_singleton];omega) (by dsimp only;unfold dn;split<;>omega)];have e2:dnN (dn s.left) r.length=dnN s.left (r.length+1):=by unfold dnN dn;split<;>split<;>omega
  dsimp only;rw[e2,List.append_assoc];rfl
theorem NY:∀(l:List Cl) (s:Pw),(∀c∈l,okC s.b c)->s.p.length+l.length<=2048->0<=s.left->s.left<l.length->AJ s l=(⟨s.b,s.p++(l.take s.left.toNat).map nwc,0⟩,140)
 | [],s,_,_,h0,h1=>by simp at h1;omega
 | c::r,s,hc,hp,h0,h1=>by
  obtain⟨g1,g2,g3⟩:=hc c (by simp);rw[List.length_cons]at hp h1;by_cases hl:s.left=0
  ·have e:Gw s c=(s,140):=by rw[Gw,if_pos hl]
   rw[AJ,e,if_pos (by simp),hl];obtain⟨b,p,left⟩:=s;simp at hl;simp[hl]
  ·have e:Gw s c=(⟨s.b,s.p++[nwW c.1 c.2],dn s.left⟩,0):=by rw[Gw,if_neg hl,if_neg (by omega),if_neg (by omega),if_neg (by omega)]
   have e2:dn s.left=s.left-1:=by unfold dn;rw[if_pos (by omega)]
   rw[AJ,e];dsimp only;rw[if_neg (by simp),e2,NY r ⟨s.b,s.p++[nwW c.1 c.2],s.left-1⟩ (λx hx=>hc x (by simp[hx])) (by simp only[List.length_append,List.length_singleton];omega) (by dsimp only;omega) (by dsimp only;omega)];dsimp only;rw[show s.left.toNat=(s.left-1).toNat+1 by omega,List.take_succ_cons,List.map_cons,List.append_assoc];rfl
theorem KK {b:List bA}{p:List Wr}{pages:List bA}{now:List Bool}{block:Nat}{c:Cl}:∀ {n:Nat},c∈HA b p pages now block n->∃i:Nat,i<n/\c=((i:Int),blk pages i)/\10<=i/\tr now i=true/\i≠block/\blk pages i≠TellS b p i
 | 0,h=>by cases h
 | n+1,h=>by
  rw[HA]at h;have ih:c∈HA b p pages now block n->_:=λh=>KK h;split at h
  ·rename_i hc;rcases List.mem_append.1 h with h|h;·obtain⟨i,hi,x⟩:=ih h;exact⟨i,by omega,x⟩
   ·exact⟨n,by omega,by simpa using h,hc⟩
  ·obtain⟨i,hi,x⟩:=ih h;exact⟨i,by omega,x⟩
theorem Oz (b:List bA)(p:List Wr)(pages:List bA)(now:List Bool)(block:Nat):∀n,(HA b p pages now block n).length<=n
 | 0=>Nat.le_refl _
 | n+1=>by
  have:=Oz b p pages now block n;rw[HA];split;·simp only[List.length_append,List.length_singleton];omega
  ·omega
theorem FK {b:List bA}{p q:List Wr}{i:Int}(h:∀w∈q,w.1≠i):TellS b (p++q) i=TellS b p i:=by
 induction q generalizing p with
 | nil=>rw[List.append_nil]
 | cons w q ih=> rw[show p++w::q=(p++[w])++q by simp,ih (λx hx=>h x (by simp[hx])),Dx,if_neg (h w (by simp))]
theorem gA (b:List bA)(p:List Wr)(pages:List bA)(now:List Bool)(block:Nat)(i:Nat):∀n,TellS b (p++(HA b p pages now block n).map nwc) i=if i<n/\10<=i/\tr now i=true/\i≠block/\blk pages i≠TellS b p i then TrimS (blk pages i) else TellS b p i
 | 0=>by rw[if_neg (by omega)];simp[HA]
 | n+1=>by
  have ih:=gA b p pages now block i n;rw[HA];split
  ·rename_i hc;rw[List.map_append,<-List.append_assoc,List.map_cons,List.map_nil,Dx,ih];by_cases e:n=i;·subst e;rw[if_pos (show(nwc ((n:Int),blk pages n)).1=n from rfl),if_pos ⟨by omega,hc⟩];rfl
   ·rw[if_neg (by show ¬(n:Int)=i;omega)];by_cases h2:10<=i/\tr now i=true/\i≠block/\blk pages i≠TellS b p i
    ·by_cases h3:i<n;·rw[if_pos ⟨h3,h2⟩,if_pos ⟨by omega,h2⟩]
     ·rw[if_neg (λh=>h3 h.1),if_neg (λh=>by omega)]
    ·rw[if_neg (λh=>h2 h.2),if_neg (λh=>h2 h.2)]
  ·rename_i hc;rw[ih];by_cases h2:10<=i/\tr now i=true/\i≠block/\blk pages i≠TellS b p i
   ·have:i≠n:=λe=>hc (e▸h2);by_cases h3:i<n;·rw[if_pos ⟨h3,h2⟩,if_pos ⟨by omega,h2⟩]
    ·rw[if_neg (λh=>h3 h.1),if_neg (λh=>by omega)]
   ·rw[if_neg (λh=>h2 h.2),if_neg (λh=>h2 h.2)]
def wrA (b:List bA)(p:List Wr)(f:Fnd)(block:Nat):List Cl:=HA b p f.wd.pages (AE f block) block (AE f block).length++[((block:Int),Cz f.wd.gen (AE f block))]
theorem SR (b:List bA)(p:List Wr)(f:Fnd)(block:Nat):AX b p f block=wrA b p f block++[(-1,empS),(1-f.slot,SuS (nwSu f block)),(-1,empS)]:=by rw[AX,wrA,List.append_assoc];rfl
def b1Of (b:List bA)(p:List Wr)(f:Fnd)(block:Nat):List bA:=D7 (λ_=>255) b (p++(wrA b p f block).map nwc) (p++(wrA b p f block).map nwc).length
def b2Of (b:List bA)(p:List Wr)(f:Fnd)(block:Nat):List bA:=D7 (λ_=>255) (b1Of b p f block) [nwW (1-f.slot) (SuS (nwSu f block))] 1
theorem Sz {b:List bA}{p:List Wr}{f:Fnd}{block:Nat}{L:Int}(hb:24<=b.length)(hw:∀c∈wrA b p f block,okC b c)(hk:p.length+(wrA b p f block).length<=2048)(hs:f.slot=0\/f.slot=1):
   AJ ⟨b,p,L⟩ (AX b p f block) =
     if L<0\/((wrA b p f block).length:Int)+3<=L then (⟨b2Of b p f block,[],dnN L ((wrA b p f block).length+3)⟩,0)
     else if L<=(wrA b p f block).length then (⟨b,p++((wrA b p f block).take L.toNat).map nwc,0⟩,140)
     else if L=(wrA b p f block).length+1 then (⟨b1Of b p f block,[],0⟩,140)
     else (⟨b1Of b p f block,[nwW (1-f.slot) (SuS (nwSu f block))],0⟩,140):=by
 rw[SR,K8]
 have hl1:(b1Of b p f block).length=b.length:=by rw[b1Of,BM]
 have sz:(SuS (nwSu f block)).size<=19:=FO _
 generalize hW:wrA b p f block=W at *
 have e1:b1Of b p f block=D7 (λ_=>255) b (p++W.map nwc) (p++W.map nwc).length:=by rw[b1Of,hW]
 have d1:∀l,l≠0->Gw ⟨b,p++W.map nwc,l⟩ (-1,empS)=(⟨b1Of b p f block,[],dn l⟩,0):=λl hl=>by rw[Gw,if_neg (by exact hl),if_pos (by decide),e1]
 have d2:∀l,l≠0->Gw ⟨b1Of b p f block,[],l⟩ (1-f.slot,SuS (nwSu f block))=(⟨b1Of b p f block,[nwW (1-f.slot) (SuS (nwSu f block))],dn l⟩,0):=λl hl=>by rw[Gw,if_neg (by exact hl),if_neg (by dsimp only;omega),if_neg (by dsimp only;rw[hl1];omega),if_neg (by dsimp only;simp;omega)];rfl
 have d3:∀l,l≠0->Gw ⟨b1Of b p f block,[nwW (1-f.slot) (SuS (nwSu f block))],l⟩ (-1,empS)=(⟨b2Of b p f block,[],dn l⟩,0):=λl hl=>by rw[Gw,if_neg (by exact hl),if_pos (by decide)];rfl
 have d0:∀(s:Pw) (c:Cl),s.left=0->Gw s c=(s,140):=λs c h=>by rw[Gw,if_pos h]
 by_cases h1:L<0\/(W.length:Int)+3<=L
 ·rw[if_pos h1,KR W _ hw hk (by dsimp only;omega)]
  dsimp only
  have n1:dnN L W.length≠0:=by unfold dnN;split<;>omega
  have n2:dn (dnN L W.length)≠0:=by unfold dn dnN;(repeat' split)<;>omega
  have n3:dn (dn (dnN L W.length))≠0:=by unfold dn dnN;(repeat' split)<;>omega
  have n4:dn (dn (dn (dnN L W.length)))=dnN L (W.length+3):=by
   have dneg:∀l:Int,l<0->dn l=l:=λl h=>by unfold dn;rw[if_neg (by omega)]
   have dpos:∀l:Int,0<l->dn l=l-1:=λl h=>by unfold dn;rw[if_pos h]
   rcases h1 with h|h
   ·have e:∀k,dnN L k=L:=λk=>by unfold dnN;rw[if_pos h]
    rw[e,e,dneg L h,dneg L h,dneg L h]
   ·have e:∀k:Nat,dnN L k=L-k:=λk=>by unfold dnN;rw[if_neg (by omega)]
    rw[e,e,dpos (L-W.length) (by omega),dpos (L-W.length-1) (by omega),dpos (L-W.length-1-1) (by omega)];omega
  rw[if_neg (by simp),AJ,d1 _ n1,if_neg (by simp),AJ,d2 _ n2,if_neg (by simp),AJ,d3 _ n3,if_neg (by simp),AJ,n4]
 ·rw[if_neg h1]
  by_cases h2:L<=W.length
  ·rw[if_pos h2]
   by_cases h3:L=W.length
   ·subst h3
    rw[KR W _ hw hk (by dsimp only;omega)]
    dsimp only
    have z:dnN (W.length:Int) W.length=0:=by unfold dnN;rw[if_neg (by omega)];omega
    rw[if_neg (by simp),z,AJ,d0 _ _ rfl,if_pos (by simp),Int.toNat_natCast,List.take_of_length_le (Nat.le_refl _)]
   ·rw[NY W _ hw hk (by dsimp only;omega) (by dsimp only;omega),if_pos (by simp)]
  ·rw[if_neg h2,KR W _ hw hk (by dsimp only;omega)]
   dsimp only
   have n0:dnN L W.length=L-W.length:=by unfold dnN;rw[if_neg (by omega)]
   have n1:L-W.length≠0:=by omega
   rw[if_neg (by simp),n0,AJ,d1 _ n1,if_neg (by simp)]
   dsimp only
   have n2:dn (L-W.length)=L-W.length-1:=by unfold dn;rw[if_pos (by omega)]
   by_cases h4:L=W.length+1
   ·rw[if_pos h4,n2,show L-W.length-1=0 by omega,AJ,d0 _ _ rfl,if_pos (by simp)]
   ·rw[if_neg h4,n2,AJ,d2 _ (by omega),if_neg (by simp)]
    dsimp only
    rw[show dn (L-W.length-1)=0 by unfold dn;rw[if_pos (by omega)];omega,AJ,d0 _ _ rfl,if_pos (by simp)]
def JF (p:List Wr):Prop:=∀w∈p,2<=w.1/\w.1<10
theorem FT:JF []:=λw h=>by cases h
structure Co (b:List bA) (p:List Wr) (f:Fnd) (w:Wd) (g:Fnd) (block:Nat):Prop where
 rg:10<=block/\block<b.length
 free:tr f.wd.now block=false
 e1:g.su=f.su
 e2:g.slot=f.slot
 e3:g.wd=w
 room:p.length+b.length+1<=2048
theorem Od {l:List bA}{i:Nat}{s:bA}(hi:i<l.length)(j:Nat):blk (l.set i s) j=if j=i then s else blk l j:=by
 unfold blk;rw[Int.toNat_natCast];by_cases e:j=i;·subst e;rw[if_pos rfl,List.getElem?_set_self hi];rfl
 ·rw[if_neg e,List.getElem?_set_ne (λh=>e h.symm)]
theorem KF {l:List bA}{i:Int}:blk l i∈l\/blk l i=empS:=by
 unfold blk
 cases h:l[i.toNat]? with
 | none=>exact .inr rfl
 | some s=>exact .inl (List.mem_of_getElem? h)
theorem Dk.block {b:List bA}{f:Fnd}{h h':Nat}{P P':List Pr}{B B':List Int}(d:Dk b f h P B){w:Wd}(m:Mk f w h' P' B')(hg:f.su.g+1<1099511627776){p:List Wr}(hp:p.length+b.length+1<=2048){g:Fnd}(e1:g.su=f.su)(e2:g.slot=f.slot)(e3:g.wd=w){block:Nat}(hf:firstFree (gave g.wd g.su.m)=some block):
  Co b p f w g block/\(block:Int)∉B'/\WRight (DM w f.su.m block (Cz w.gen (AE g block)))/\IsTree (DM w f.su.m block (Cz w.gen (AE g block))) h' P' B'/\nowIs (AE g block) (B'++[(block:Int)])/\(AE g block).length=b.length:=by
 have hm:=d.mrg
 have hl:=d.len
 have hn:=m.nlen
 have hnl:(AE g block).length=b.length:=by rw[AE,gave,e3];simp;omega
 have hmx:(Cz w.gen (AE g block)).size<=4096:=by have:=Hy (g:=w.gen) (now:=AE g block) (by have:=m.gen;have:=d.gmax;omega) (by have:=m.gen;omega) (by rw[hnl];exact d.n24.2);omega
 rw[e3,e1]at hf
 obtain⟨c1,c2,c3,c4,c5,c6⟩:=rB (s:=Cz w.gen (AE g block)) m.wr m.tree ⟨hm.1,by omega,m.map⟩ m.now hf (by have:=m.gen;omega) hmx
 have hfree:tr f.wd.now block=false:=by have:=(DC hf).2.1;unfold AY at this;rw[Bool.and_eq_true]at this;have h2:=this.1;rw[show(gave w f.su.m).base=f.wd.now from m.base]at h2;simpa using h2
 refine⟨⟨⟨c1,by omega⟩,hfree,e1,e2,e3,hp⟩,c3,c4,c5,?_,hnl⟩
 have:AE g block=(DM w f.su.m block (Cz w.gen (AE g block))).now:=by rw[AE,e3,e1];rfl
 rw[this]
 exact c6
theorem Dk.wrA {b:List bA}{f:Fnd}{h h':Nat}{P P':List Pr}{B B':List Int}(d:Dk b f h P B){w:Wd}(m:Mk f w h' P' B'){p:List Wr}(hr:JF p){g:Fnd}{block:Nat}(c:Co b p f w g block)(hnl:(AE g block).length=b.length):
   (∀x∈wrA b p g block,okC b x/\10<=x.1/\tr f.wd.now x.1.toNat=false)/\p.length+(Go.Proofs.YtegndijbpiccgaaGreatDoor.M.wrA b p g block).length<=2048:=by
 have hl:=d.len
 constructor
 ·intro x hx
  rw[Go.Proofs.YtegndijbpiccgaaGreatDoor.M.wrA]at hx
  rcases List.mem_append.1 hx with hx|hx
  ·obtain⟨i,hi,rfl,h10,ht,hne,hw⟩:=KK hx
   rw[hnl]at hi
   dsimp only
   rw[Int.toNat_natCast]
   refine⟨⟨by dsimp only;omega,by dsimp only;omega,?_⟩,by omega,?_⟩
   ·dsimp only
    rcases KF (l:=g.wd.pages) (i:=(i:Int)) with h|h
    ·rw[c.e3]at h |-;exact m.wr.2.2.2.2.2 _ h
    ·rw[h];decide
   ·cases hf:tr f.wd.now i with
    | false=>rfl
    | true=>
     exfalso
     refine hw ?_
     rw[c.e3,m.page i h10 hf,d.page i h10 hi hf,Dz]
     intro y hy
     have:=hr y hy
     omega
  ·obtain rfl:x=((block:Int),Cz g.wd.gen (AE g block)):=by simpa using hx
   dsimp only
   rw[Int.toNat_natCast]
   refine⟨⟨by dsimp only;omega,by have:=c.rg;dsimp only;omega,?_⟩,by have:=c.rg;omega,c.free⟩
   dsimp only
   rw[c.e3]
   have h1:=m.wr.2.2.1
   have h2:=m.wr.2.2.2.1
   have:=Hy (g:=w.gen) (now:=AE g block) (by omega) h2 (by rw[hnl];exact d.n24.2)
   omega
 ·have:=Oz b p g.wd.pages (AE g block) block (AE g block).length
  have h2:=c.room
  rw[hnl]at this
  rw[Go.Proofs.YtegndijbpiccgaaGreatDoor.M.wrA,List.length_append,List.length_singleton,hnl]
  omega
theorem rE {b:List bA}{c:Cl}(h:okC b c):Wm b.length (nwc c)=true:=by obtain⟨h1,h2,h3⟩:=h;rw[nwc,nwW,Wm];dsimp only;rw[decide_eq_true h1,decide_eq_true h2,Q8 (by rw[BS];exact FY) (by have:=H5 c.2;omega)];rfl
theorem Ib {b:List bA}{p:List Wr}{l:List Cl}(h:Rt b p=true)(hc:∀x∈l,okC b x)(hl:p.length+l.length<=2048):Rt b (p++l.map nwc)=true:=by
 obtain⟨h1,h2,h3⟩:=Ic h;refine X2 ⟨h2.1,h2.2.1,by simp;exact hl⟩ h1 λw hw=>?_;rcases List.mem_append.1 hw with hw|hw
 ·exact h3 w hw
 ·obtain⟨c,hc',rfl⟩:=List.mem_map.1 hw;exact rE (hc c hc')
theorem Dk.early {b:List bA}{f:Fnd}{h:Nat}{P:List Pr}{B:List Int}(d:Dk b f h P B){p:List Wr}(hr:Rt b p=true)(hp:∀w∈p,(2<=w.1/\w.1<10)\/(10<=w.1/\tr f.wd.now w.1.toNat=false))(mf:Nat->Int):Dk (D7 mf b p p.length) f h P B:=by
 have e:∀i:Nat,(∀w∈p,w.1.toNat≠i)->blk (D7 mf b p p.length) i=blk b i:=λi hi=>by unfold blk;rw[Int.toNat_natCast,JK hi]
 refine d.frame (X7 hr _ _) (BM _ _ _ _) ⟨e 0 λw hw=>?_,e 1 λw hw=>?_⟩ λi h10 hi ht=>e i λw hw=>?_;·rcases hp w hw with h|h<;>omega
 ·rcases hp w hw with h|h<;>omega
 ·rcases hp w hw with h|h;·omega
  ·intro e;rw[e,ht]at h;exact absurd h.2 (by simp)
theorem aN (mf:Nat->Int)(b:List bA)(w:Wr):D7 mf b [w] 1=b.set w.1.toNat (HD ((b[w.1.toNat]?).getD empS) w.2.1 (mf 0)):=rfl
theorem Dk.b1 {b:List bA}{f:Fnd}{h h':Nat}{P P':List Pr}{B B':List Int}(d:Dk b f h P B){w:Wd}(m:Mk f w h' P' B'){p:List Wr}(hp:Rt b p=true)(hr:JF p){g:Fnd}{block:Nat}(c:Co b p f w g block)(hnl:(AE g block).length=b.length):Dk (b1Of b p g block) f h P B:=by
 obtain⟨a1,a2⟩:=d.wrA m hr c hnl;refine d.early (Ib hp (λx hx=>(a1 x hx).1) a2) (λw hw=>?_) _;rcases List.mem_append.1 hw with hw|hw;·exact .inl (hr w hw)
 ·obtain⟨x,hx,rfl⟩:=List.mem_map.1 hw;exact .inr ⟨(a1 x hx).2.1,(a1 x hx).2.2⟩
theorem Ip (s:Su):TrimS (SuS s)=SuS s:=Hi _ _ _
theorem Dk.b2 {b:List bA}{f:Fnd}{h h':Nat}{P P':List Pr}{B B':List Int}(d:Dk b f h P B){w:Wd}(m:Mk f w h' P' B')(hgm:f.su.g+1<1099511627776){p:List Wr}(hp:Rt b p=true)(hr:JF p){g:Fnd}{block:Nat}(c:Co b p f w g block)(hnl:(AE g block).length=b.length)
   (hB:(block:Int)∉B') (hW:WRight (DM w f.su.m block (Cz w.gen (AE g block)))) (hT:IsTree (DM w f.su.m block (Cz w.gen (AE g block))) h' P' B') (hN:nowIs (AE g block) (B'++[(block:Int)])):
   Dk (b2Of b p g block) (nwFd g block) h' P' B'/\(∀i:Nat,i<b.length->blk (b2Of b p g block) i=if (i:Int)=1-f.slot then SuS (nwSu g block) else TellS b (p++(Go.Proofs.YtegndijbpiccgaaGreatDoor.M.wrA b p g block).map nwc) i)/\∀s∈(nwFd g block).wd.pages,TrimS s=s:=by
 obtain⟨a1,a2⟩:=d.wrA m hr c hnl
 have r1:=Ib hp (λx hx=>(a1 x hx).1) a2
 have d1:=d.b1 m hp hr c hnl
 have l1:(b1Of b p g block).length=b.length:=by rw[b1Of,BM]
 have n:=d.n24
 have hs:=d.sl
 have e1:=c.e1
 have e2:=c.e2
 have e3:=c.e3
 have hgen:=m.gen
 have okw:okC (b1Of b p g block) (1-g.slot,SuS (nwSu g block)):=⟨by dsimp only;omega,by dsimp only;omega,by have:=FO (nwSu g block);dsimp only;omega⟩
 have r2:Rt (b1Of b p g block) [nwW (1-g.slot) (SuS (nwSu g block))]=true:=Ib (p:=[]) (l:=[(1-g.slot,SuS (nwSu g block))]) d1.rt (λx hx=>by rw[List.mem_singleton.1 hx];exact okw) (by simp)
 have lb:(b2Of b p g block).length=b.length:=by rw[b2Of,BM,l1]
 have all:∀i:Nat,i<b.length->blk (b2Of b p g block) i=if (i:Int)=1-f.slot then SuS (nwSu g block) else TellS b (p++(Go.Proofs.YtegndijbpiccgaaGreatDoor.M.wrA b p g block).map nwc) i:=λi hi=>by
  have h1:blk (b2Of b p g block) i=TellS (b1Of b p g block) [nwW (1-g.slot) (SuS (nwSu g block))] i:=KC r2 (by omega) (by omega);rw[h1,show [nwW (1-g.slot) (SuS (nwSu g block))]=[]++[nwW (1-g.slot) (SuS (nwSu g block))] from rfl,Dx,nwW];dsimp only;rw[e2,Ip];by_cases e:(i:Int)=1-f.slot;·rw[if_pos e.symm,if_pos e]
  ·rw[if_neg (λh=>e h.symm),if_neg e];show blk (b1Of b p g block) i=_;exact KC r1 (by omega) (by omega)
 have mt:TrimS (Cz w.gen (AE g block))=Cz w.gen (AE g block):=Hi _ _ _
 have low:∀i:Nat,i<10->∀x∈(Go.Proofs.YtegndijbpiccgaaGreatDoor.M.wrA b p g block).map nwc,x.1≠(i:Int):=λi hi x hx=>by obtain⟨y,hy,rfl⟩:=List.mem_map.1 hx;have:=(a1 y hy).2.1;show y.1≠i;omega
 have at0:∀i:Nat,i<2->(i:Int)≠1-f.slot->blk (b2Of b p g block) i=blk b i:=λi hi hne=>by rw[all i (by omega),if_neg hne,FK (low i (by omega)),Dz];intro y hy;have:=hr y hy;omega
 have here:blk (b2Of b p g block) (1-f.slot)=SuS (nwSu g block):=by
  rcases hs with e|e;·have:=all 1 (by omega);rw[if_pos (by omega)]at this;rw[e];exact this
  ·have:=all 0 (by omega);rw[if_pos (by omega)]at this;rw[e];exact this
 have there:blk (b2Of b p g block) f.slot=SuS f.su:=by
  rw[<-d.here];rcases hs with e|e;·have:=at0 0 (by omega) (by omega);rw[e];exact this
  ·have:=at0 1 (by omega) (by omega);rw[e];exact this
 have hnew:suOK (nwSu g block):=by
  obtain⟨s1,s2,s3,s4,s5,s6⟩:=d.su;have hroot:=m.wr.2.2.2.2.1;have hml:=m.nlen;have hl:=d.len;have hz:=d.z;have hrg:=c.rg;have hgx:=d.gmax;refine⟨?_,?_,?_,?_,?_,?_,?_,?_⟩;·show 1<=g.wd.gen;rw[e3];omega
  ·show g.wd.gen<=_;rw[e3];omega
  ·show 24<=g.su.z;rw[e1];exact s3
  ·show g.su.z<=2048;rw[e1];exact s4
  ·show g.wd.root=0\/(10<=g.wd.root/\g.wd.root<g.su.z);rw[e3,e1];omega
  ·show(10:Int)<=block;omega
  ·show(block:Int)<g.su.z;rw[e1];omega
  ·show(block:Int)≠g.wd.root;rw[e3];rcases m.tree with⟨h0,_⟩|⟨_,_,_,ht,_⟩
   ·omega
   ·intro e;exact hB (e▸ht.root_mem)
 have hself:=NX d.su
 have hslot:(nwFd g block).slot=1-f.slot:=by show 1-g.slot=_;rw[e2]
 have hsu:(nwFd g block).su=nwSu g block:=rfl
 have hwd:(nwFd g block).wd=DM w f.su.m block (Cz w.gen (AE g block)):=by show DM g.wd g.su.m block (Cz g.wd.gen (AE g block))=_;rw[e3,e1]
 have hnow:(nwFd g block).wd.now=AE g block:=by rw[hwd];show(gave w f.su.m).now.set block true=_;rw[AE,e3,e1]
 have hpl:block<w.pages.length:=by have:=m.wr.2.1;have:=m.nlen;have:=d.len;have:=c.rg;omega
 refine⟨⟨X7 r2 _ _,hnew,?_,?_,?_,?_,?_,?_,?_,?_,?_,?_,?_,?_,?_,?_,?_⟩,all,?_⟩
 ·rw[lb];show g.su.z=_;rw[e1];exact d.z
 ·rw[hslot];omega
 ·rw[hslot];exact here
 ·right
  rw[hslot,show 1-(1-f.slot)=f.slot by omega,there,hself]
  show f.su.g<g.wd.gen
  rw[e3];omega
 ·rw[hslot,show 1-(1-f.slot)=f.slot by omega,there]
  have:=FO f.su;omega
 ·rw[hwd];exact hW
 ·rw[hnow,hnl,lb]
 ·rw[hwd];rfl
 ·rw[hwd];show w.gen+1=g.wd.gen+1;rw[e3]
 ·rw[hwd];show w.root=g.wd.root;rw[e3]
 ·rw[hwd];exact hT
 ·exact hB
 ·rw[hnow];exact hN
 ·intro i h10 hi ht
  rw[lb]at hi
  rw[hnow]at ht
  have hpg:(nwFd g block).wd.pages=w.pages.set block (Cz w.gen (AE g block)):=by rw[hwd];rfl
  rw[hpg,Od hpl,all i hi,if_neg (show ¬(i:Int)=1-f.slot by omega),Go.Proofs.YtegndijbpiccgaaGreatDoor.M.wrA,List.map_append,<-List.append_assoc,List.map_cons,List.map_nil,Dx,gA,hnl,e3]
  have nw1:(nwc ((block:Int),Cz w.gen (AE g block))).1=block:=rfl
  have nw2:(nwc ((block:Int),Cz w.gen (AE g block))).2.1=TrimS (Cz w.gen (AE g block)):=rfl
  rw[nw1,nw2,mt]
  by_cases e:i=block
  ·rw[if_pos e,if_pos (by omega)]
  ·rw[if_neg e,if_neg (by omega)]
   by_cases hw:blk w.pages i=TellS b p i
   ·rw[if_neg (λh=>h.2.2.2.2 hw)];exact hw
   ·rw[if_pos ⟨hi,h10,ht,e,hw⟩]
    rcases KF (l:=w.pages) (i:=(i:Int)) with h|h
    ·rw[m.tidy _ h]
    ·rw[h];decide +kernel
 ·have hrg:=c.rg
  have hgx:=d.gmax
  refine⟨w.gen,by omega,by show w.gen<=g.wd.gen;rw[e3];omega,?_⟩
  rw[hnow]
  show GetPR (blk _ (block:Int))=_
  rw[all block (by omega),if_neg (by omega),Go.Proofs.YtegndijbpiccgaaGreatDoor.M.wrA,List.map_append,<-List.append_assoc,List.map_cons,List.map_nil,Dx,if_pos (show(nwc ((block:Int),Cz g.wd.gen (AE g block))).1=block from rfl)]
  show GetPR (TrimS (Cz g.wd.gen (AE g block)))=_
  rw[e3,mt]
  exact JR (Ky (by omega) (by omega) (by rw[hnl];omega))
 ·have hpg:(nwFd g block).wd.pages=w.pages.set block (Cz w.gen (AE g block)):=by rw[hwd];rfl
  rw[hpg]
  intro s hs
  rcases List.mem_or_eq_of_mem_set hs with h|rfl
  ·exact m.tidy s h
  ·exact mt
theorem dO {f:Nat->Int}{b:List bA}{p q:List Wr}{i:Nat}(h:∀w∈q,w.1.toNat≠i):(D7 f b (p++q) (p++q).length)[i]?=(D7 f b p p.length)[i]?:=by
 have key:∀n,n<=q.length->(D7 f b (p++q) (p.length+n))[i]?=(D7 f b p p.length)[i]?:=by
  intro n
  induction n with
  | zero=>
   intro _;have:∀k,k<=p.length->D7 f b (p++q) k=D7 f b p k:=by
    intro k
    induction k with
    | zero=>intro _;rfl
    | succ k ih=> intro hk;rw[D7,D7,ih (by omega),List.getElem?_append_left (by omega)]
   rw[Nat.add_zero,this _ (Nat.le_refl _)]
  | succ n ih=> intro hn;rw[<-Nat.add_assoc,D7,List.getElem?_append_right (by omega),show p.length+n-p.length=n by omega,gI (by omega:n<q.length)];dsimp only;rw[List.getElem?_set_ne (h _ (List.getElem_mem _))];exact ih (by omega)
 rw[List.length_append];exact key q.length (Nat.le_refl _)
def pW (b:List bA)(p:List Wr)(c:List bA):Prop:=∃mf,∀i:Nat,2<=i->i<10->blk c i=blk (D7 mf b p p.length) i
structure Cm (b:List bA) (p:List Wr) (L:Int) (f g:Fnd) (h:Nat) (P:List Pr) (B:List Int) (h':Nat) (P':List Pr) (B':List Int) (block:Nat):Prop where
 eq:CommitR ⟨b,p,L⟩ g=if L<0\/((wrA b p g block).length:Int)+3<=L then (⟨b2Of b p g block,[],dnN L ((wrA b p g block).length+3)⟩,nwFd g block,0)
  else if L<=(wrA b p g block).length then (⟨b,p++((wrA b p g block).take L.toNat).map nwc,0⟩,fd0,140)
  else if L=(wrA b p g block).length+1 then (⟨b1Of b p g block,[],0⟩,fd0,140)
  else (⟨b1Of b p g block,[nwW (1-g.slot) (SuS (nwSu g block))],0⟩,fd0,140)
 len:(wrA b p g block).length<=b.length+1
 dk:Dk (b2Of b p g block) (nwFd g block) h' P' B'
 dk1:Dk (b1Of b p g block) f h P B
 tidy:∀s∈(nwFd g block).wd.pages,TrimS s=s
 ring:∀i:Nat,2<=i->i<10->blk (b2Of b p g block) i=TellS b p i
 ring1:∀i:Nat,2<=i->i<10->blk (b1Of b p g block) i=TellS b p i
 ea:∀x∈wrA b p g block,okC b x/\10<=x.1/\tr f.wd.now x.1.toNat=false
 co:Co b p f g.wd g block
 fs:∀i:Nat,i<2->(i:Int)=f.slot->blk (b2Of b p g block) i=SuS f.su
theorem Dk.com {b:List bA}{f:Fnd}{h h':Nat}{P P':List Pr}{B B':List Int}(d:Dk b f h P B){w:Wd}(m:Mk f w h' P' B')(hg:f.su.g+1<1099511627776){p:List Wr}(hp:Rt b p=true)(hr:JF p)(room:p.length+b.length+1<=2048)(g:Fnd)(e1:g.su=f.su)(e2:g.slot=f.slot)(e3:g.wd=w)(L:Int):
   (firstFree (gave g.wd g.su.m)=none/\CommitR ⟨b,p,L⟩ g=(Tz,fd0,60))\/∃block,firstFree (gave g.wd g.su.m)=some block/\Cm b p L f g h P B h' P' B' block:=by
 have hf:=d.fits hp m g e1 e2 e3
 have hc:(ChkR g.wd [g.su.m]).2=0:=by rw[e3,e1];exact d.chk m
 have hgen:¬g.wd.gen>=1099511627776:=by rw[e3,m.gen];omega
 have hcom:CommitR ⟨b,p,L⟩ g=match firstFree (gave g.wd g.su.m) with
   | none=>(Tz,fd0,60)
   | some block=>
    if (AJ ⟨b,p,L⟩ (AX b p g block)).2=140 then ((AJ ⟨b,p,L⟩ (AX b p g block)).1,fd0,140)
    else if (AJ ⟨b,p,L⟩ (AX b p g block)).2≠0 then (Tz,fd0,(AJ ⟨b,p,L⟩ (AX b p g block)).2)
    else ((AJ ⟨b,p,L⟩ (AX b p g block)).1,nwFd g block,0):=by
   rw[CommitR,if_neg (by simpa using hf),if_neg (by simpa using hc),if_neg hgen]
   cases firstFree (gave g.wd g.su.m)<;>rfl
 cases hff:firstFree (gave g.wd g.su.m) with
 | none=>
  rw[hff]at hcom
  exact .inl ⟨rfl,hcom⟩
 | some block=>
  rw[hff]at hcom
  dsimp only at hcom
  obtain⟨co,c3,c4,c5,c6,hnl⟩:=d.block m hg room e1 e2 e3 hff
  obtain⟨a1,a2⟩:=d.wrA m hr co hnl
  obtain⟨b2,all,tidy⟩:=d.b2 m hg hp hr co hnl c3 c4 c5 c6
  have b1:=d.b1 m hp hr co hnl
  have n:=d.n24
  have r1:=Ib hp (λx hx=>(a1 x hx).1) a2
  have low:∀i:Nat,i<10->∀x∈(Go.Proofs.YtegndijbpiccgaaGreatDoor.M.wrA b p g block).map nwc,x.1≠(i:Int):=λi hi x hx=>by obtain⟨y,hy,rfl⟩:=List.mem_map.1 hx;have:=(a1 y hy).2.1;show y.1≠i;omega
  have hs:=d.sl
  refine .inr ⟨block,rfl,⟨?_,?_,b2,b1,tidy,λi h2 h10=>?_,λi h2 h10=>?_,a1,e3▸co,λi h2 hi=>?_⟩⟩
  ·rw[hcom,Sz n.1 (λx hx=>(a1 x hx).1) a2 (by rw[e2];exact d.sl)]
   by_cases h1:L<0\/((Go.Proofs.YtegndijbpiccgaaGreatDoor.M.wrA b p g block).length:Int)+3<=L
   ·rw[if_pos h1,if_pos h1];rfl
   ·rw[if_neg h1,if_neg h1]
    by_cases h2:L<=(Go.Proofs.YtegndijbpiccgaaGreatDoor.M.wrA b p g block).length
    ·rw[if_pos h2,if_pos h2];rfl
    ·rw[if_neg h2,if_neg h2]
     by_cases h3:L=(Go.Proofs.YtegndijbpiccgaaGreatDoor.M.wrA b p g block).length+1
     ·rw[if_pos h3,if_pos h3];rfl
     ·rw[if_neg h3,if_neg h3];rfl
  ·have:=Oz b p g.wd.pages (AE g block) block (AE g block).length
   rw[hnl]at this
   rw[Go.Proofs.YtegndijbpiccgaaGreatDoor.M.wrA,List.length_append,List.length_singleton,hnl]
   omega
  ·rw[all i (by omega),if_neg (by omega),FK (low i h10)]
  ·rw[b1Of,KC r1 (by omega) (by omega),FK (low i h10)]
  ·have hi2:(i:Int)≠1-f.slot:=by omega
   rw[all i (by omega),if_neg hi2,FK (low i (by omega)),Dz (λy hy=>by have:=hr y hy;omega),hi]
   exact d.here
theorem Cm.crash {b:List bA}{p:List Wr}{L:Int}{f g:Fnd}{h h':Nat}{P P':List Pr}{B B':List Int}{block:Nat}(c:Cm b p L f g h P B h' P' B' block)(d:Dk b f h P B)(hp:Rt b p=true)(hr:JF p):
   Rt (CommitR ⟨b,p,L⟩ g).1.b (CommitR ⟨b,p,L⟩ g).1.p=true/\∀mf,pW b p (D7 mf (CommitR ⟨b,p,L⟩ g).1.b (CommitR ⟨b,p,L⟩ g).1.p (CommitR ⟨b,p,L⟩ g).1.p.length) /\
     (((CommitR ⟨b,p,L⟩ g).2.2=140/\Dk (D7 mf (CommitR ⟨b,p,L⟩ g).1.b (CommitR ⟨b,p,L⟩ g).1.p (CommitR ⟨b,p,L⟩ g).1.p.length) f h P B) \/
      (((CommitR ⟨b,p,L⟩ g).2.2=140\/(CommitR ⟨b,p,L⟩ g).2.2=0)/\Dk (D7 mf (CommitR ⟨b,p,L⟩ g).1.b (CommitR ⟨b,p,L⟩ g).1.p (CommitR ⟨b,p,L⟩ g).1.p.length) (nwFd g block) h' P' B'/\∀i:Nat,2<=i->i<10->blk (D7 mf (CommitR ⟨b,p,L⟩ g).1.b (CommitR ⟨b,p,L⟩ g).1.p (CommitR ⟨b,p,L⟩ g).1.p.length) i=TellS b p i)):=by
 have n:=d.n24
 have hs:=d.sl
 have ll:=c.len
 have room:=c.co.room
 have tell:∀i:Nat,i<10->TellS b p i=blk (D7 (λ_=>255) b p p.length) i:=λi hi=>(KC hp (by omega) (by omega)).symm
 have nilL:∀(mf:Nat->Int) (x:List bA),D7 mf x [] 0=x:=λ_ _=>rfl
 rw[c.eq]
 by_cases h1:L<0\/((wrA b p g block).length:Int)+3<=L
 ·rw[if_pos h1]
  refine⟨c.dk.rt,λmf=>⟨⟨λ_=>255,λi h2 h10=>?_⟩,.inr ⟨.inr rfl,c.dk,c.ring⟩⟩⟩
  show blk (b2Of b p g block) i=_
  rw[c.ring i h2 h10,tell i h10]
 ·rw[if_neg h1]
  by_cases h2:L<=(wrA b p g block).length
  ·rw[if_pos h2]
   dsimp only
   have hq:Rt b (p++((wrA b p g block).take L.toNat).map nwc)=true:=Ib hp (λx hx=>(c.ea x (List.mem_of_mem_take hx)).1) (by rw[List.length_take];omega)
   refine⟨hq,λmf=>⟨⟨mf,λi i2 i10=>?_⟩,.inl ⟨rfl,d.early hq (λw hw=>?_) mf⟩⟩⟩
   ·unfold blk
    rw[Int.toNat_natCast,dO λw hw=>?_]
    obtain⟨y,hy,rfl⟩:=List.mem_map.1 hw
    have:=(c.ea y (List.mem_of_mem_take hy)).2.1
    show y.1.toNat≠i
    omega
   ·rcases List.mem_append.1 hw with hw|hw
    ·exact .inl (hr w hw)
    ·obtain⟨y,hy,rfl⟩:=List.mem_map.1 hw
     have:=(c.ea y (List.mem_of_mem_take hy)).2
     exact .inr this
  ·rw[if_neg h2]
   by_cases h3:L=(wrA b p g block).length+1
   ·rw[if_pos h3]
    refine⟨c.dk1.rt,λmf=>⟨⟨λ_=>255,λi i2 i10=>?_⟩,.inl ⟨rfl,c.dk1⟩⟩⟩
    show blk (b1Of b p g block) i=_
    rw[c.ring1 i i2 i10,tell i i10]
   ·rw[if_neg h3]
    dsimp only
    have l1:(b1Of b p g block).length=b.length:=by rw[b1Of,BM]
    have e2:=c.co.e2
    have sz:=FO (nwSu g block)
    have okw:okC (b1Of b p g block) (1-g.slot,SuS (nwSu g block)):=⟨by dsimp only;omega,by dsimp only;omega,by dsimp only;omega⟩
    have r2:Rt (b1Of b p g block) [nwW (1-g.slot) (SuS (nwSu g block))]=true:=Ib (p:=[]) (l:=[(1-g.slot,SuS (nwSu g block))]) c.dk1.rt (λx hx=>by rw[List.mem_singleton.1 hx];exact okw) (by simp)
    have hi:(1-g.slot).toNat<(b1Of b p g block).length:=by omega
    have old:(b1Of b p g block)[(1-g.slot).toNat]?=some (blk (b1Of b p g block) (1-f.slot)):=by rw[e2];exact RY (by omega) (by omega)
    have mx:∀mf:Nat->Int,D7 mf (b1Of b p g block) [nwW (1-g.slot) (SuS (nwSu g block))] 1=(b1Of b p g block).set (1-g.slot).toNat (if bt (mf 0) 0 then SuS (nwSu g block) else blk (b1Of b p g block) (1-f.slot)):=λmf=>by rw[aN];dsimp only[nwW];rw[old,Ip,Option.getD_some,UZ (mf 0) c.dk1.small (by omega) c.dk1.blk_tm.1 (Ip _)]
    have e0:(b1Of b p g block).set (1-g.slot).toNat (blk (b1Of b p g block) (1-f.slot))=b1Of b p g block:=by
     refine List.ext_getElem? λj=>?_;by_cases ej:(1-g.slot).toNat=j;·subst ej;rw[List.getElem?_set_self hi,old]
     ·rw[List.getElem?_set_ne ej]
    have eb2:(b1Of b p g block).set (1-g.slot).toNat (SuS (nwSu g block))=b2Of b p g block:=by rw[b2Of,mx,Yf 0 (by omega),if_pos rfl]
    refine⟨r2,λmf=>?_⟩
    rw[show [nwW (1-g.slot) (SuS (nwSu g block))].length=1 from rfl,mx]
    by_cases hb:bt (mf 0) 0=true
    ·rw[if_pos hb,eb2]
     refine⟨⟨λ_=>255,λi i2 i10=>?_⟩,.inr ⟨.inl rfl,c.dk,c.ring⟩⟩
     rw[c.ring i i2 i10,tell i i10]
    ·rw[if_neg hb,e0]
     refine⟨⟨λ_=>255,λi i2 i10=>?_⟩,.inl ⟨rfl,c.dk1⟩⟩
     rw[c.ring1 i i2 i10,tell i i10]
end Go.Proofs.YtegndijbpiccgaaGreatDoor.M
