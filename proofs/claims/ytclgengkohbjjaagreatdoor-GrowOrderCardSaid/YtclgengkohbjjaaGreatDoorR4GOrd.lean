import Derived.Test.YtclgengkohbjjaaGreatDoorR4Kb
import Derived.Test.YtclgengkohbjjaaGreatDoorR4K9
import Derived.Test.YtclgengkohbjjaaGreatDoorR4K37
namespace Go.Proofs.YtclgengkohbjjaaGreatDoor.M
set_option linter.unusedVariables false
set_option linter.unusedSimpArgs false
open Go Go.Mir
set_option linter.unusedVariables false
def hPQ (p q:Pr):Heap:=[(900001,.box [.n (.str p.1),.n (.str p.2)]),(900002,.box [.n (.str q.1),.n (.str q.2)])]
theorem p37 (bad:Int) (p q:Pr) (h:bad=0∨bad=60∨(bad=1∧¬(isPair p.1 p.2∧isPair q.1 q.2))):Runs Fs4 37 [.n (.int .i64 bad),.ptr 900001 0,.ptr 900002 0] (hPQ p q) (.n (.bool true)) (hPQ p q):=by
 have g1:=p31 p.1 p.2
 have g2:=p31 q.1 q.2
 have key:∃r H',Runs Fs4 37 [.n (.int .i64 bad),.ptr 900001 0,.ptr 900002 0] (hPQ p q) r H'∧r = .n (.bool true)∧H'=hPQ p q:=by
  refine vc_objs (R:=fun r H'=>r = .n (.bool true)∧H'=hPQ p q) fs37 rfl (by kernel_rfl) ?_
  rw[hPQ,vc37h,(V37he _ _ _ _ _ _).down]
  refine sel_intro (fun _=>⟨rfl,rfl⟩) (fun h0=>sel_intro (fun _=>⟨rfl,rfl⟩) (fun h60=>sel_intro (fun h1=>⟨_,g1,?_⟩) (fun h1 => ?_)))
  · have hn:¬(isPair p.1 p.2∧isPair q.1 q.2):=by
      rcases h with h|h|h
      · rw[h]at h0;simp at h0
      · rw[h]at h60;simp at h60
      · exact h.2
    refine sel_dec (fun hp=>⟨_,g2,?_,rfl⟩) (fun hp=>⟨rfl,rfl⟩)
    rw[decide_eq_false (fun hq=>hn ⟨hp,hq⟩)];rfl
  · rcases h with h|h|h
    · rw[h]at h0;simp at h0
    · rw[h]at h60;simp at h60
    · rw[h.1]at h1;simp at h1
 obtain ⟨r,H',hr,rfl,rfl⟩:=key
 exact hr
theorem p35' (w:Wd) (hf:WFits w) (p q:Pr):Runs Fs4 35 [wdV w,.o (.sl 2 [.rcd [.str p.1,.str p.2],.rcd [.str q.1,.str q.2]])] [] (wuo (put2 w p q)) []:=(p35 w hf [p,q] (by show ((2:Nat):Int)≤_;decide)).up up4
theorem ord_ok {w:Wd} {P:List Pr} {p q:Pr} (h:TreeOf w P):(put2 w p q).2=0∨(put2 w p q).2=60∨((put2 w p q).2=1∧¬(isPair p.1 p.2∧isPair q.1 q.2)):=by
 rcases put2_tree (p:=p) (q:=q) h with (a|a)|a
 · exact .inr (.inl a)
 · exact .inr (.inr a)
 · exact .inl a.1
theorem p9 (w:Wd) (hf:WFits w) (p q:Pr):Runs Fs4 9 [wdV w,.agg [.n (.str p.1),.n (.str p.2)],.agg [.n (.str q.1),.n (.str q.2)]] [] (.n (.bool true)) []:=by
 have g28:=p28 w
 have g18:=p18' w hf
 have ga:=p35' w hf p q
 have gb:=p35' w hf q p
 refine vc_eq fs9 rfl ?_
 rw[wdV,vc9,(V9e _ _ _ _ _ _ _ _ _ _).down]
 refine ⟨_,g28,?_⟩
 by_cases hs:smallW w
 · rw[decide_eq_true hs]
   refine selF ⟨_,g18,?_⟩
   by_cases hr:WRight w
   · rw[decide_eq_true hr]
     obtain ⟨va,vb,gt⟩:=t21 w hf (wr_now hr)
     refine selF ⟨(),_,_,_,_,_,_,_,_,gt,?_⟩
     by_cases hb:(treeW w).bad=true
     · rw[hb];exact selT ⟨_,p29,rfl⟩
     · have hb:(treeW w).bad=false:=by simpa using hb
       obtain ⟨h,P,B,ht,eT⟩:=tree_sound hb
       have hT:TreeOf w P:=⟨hr,h,B,ht⟩
       rw[hb]
       have oa:=ord_ok (p:=p) (q:=q) hT
       have ob:(put2 w q p).2=0∨(put2 w q p).2=60∨((put2 w q p).2=1∧¬(isPair p.1 p.2∧isPair q.1 q.2)):=by
         rcases ord_ok (p:=q) (q:=p) hT with h|h|h
         · exact .inl h
         · exact .inr (.inl h)
         · exact .inr (.inr ⟨h.1,fun hh=>h.2 ⟨hh.2,hh.1⟩⟩)
       have ca:=p37 _ p q oa
       have cb:=p37 _ p q ob
       have both:∃x:Bool,Runs Fs4 37 [.n (.int .i64 (put2 w p q).2),.ptr 900001 0,.ptr 900002 0] (hPQ p q) (.n (.bool x)) (hPQ p q)∧sel x (∃y:Bool,Runs Fs4 37 [.n (.int .i64 (put2 w q p).2),.ptr 900001 0,.ptr 900002 0] (hPQ p q) (.n (.bool y)) (hPQ p q)∧AV.n (D.bool y) = .n (.bool true)) (AV.n (D.bool false) = .n (.bool true)):=
         ⟨true,ca,selT ⟨true,cb,rfl⟩⟩
       refine selF ⟨rfl,_,_,_,_,_,_,ga,rfl,_,_,_,_,_,_,gb,sel_intro (fun _=>⟨_,p29,selT both⟩) (fun h1=>sel_intro (fun _=>⟨_,p29,selT both⟩) (fun h2 => ?_))⟩
       have h1:(put2 w p q).2=0:=by simpa using h1
       have h2:(put2 w q p).2=0:=by simpa using h2
       obtain ⟨X,Y,hX,hY,he,hn⟩:=grow_order hT h1 h2
       obtain ⟨hrx,h',B',htx⟩:=hX
       obtain ⟨hry,h'',B'',hty⟩:=hY
       obtain ⟨xa,xb,gx⟩:=t21 _ (wr_fits hrx) (wr_now hrx)
       obtain ⟨ya,yb,gy⟩:=t21 _ (wr_fits hry) (wr_now hry)
       rw[tree_full htx]at gx
       rw[tree_full hty]at gy
       have lx:=(treeP_small hrx htx).1
       have ly:=(treeP_small hry hty).1
       have lp:=(treeP_small hr ht).1
       rw[eT]at gt
       have g33:=fun k v=>p33 P (by omega) k v
       refine ⟨(),_,_,_,_,_,_,_,_,gx,(),_,_,_,_,_,_,_,_,gy,selF (selF ⟨_,p29,selF (sel_eb (fun hk => ?_) (fun hk => ?_))⟩)⟩
       · obtain ⟨e1,e2⟩:=he hk
         have a1:=p25t X (withR q.1 q.2 false P) (by rw[withR_ok (isTree_incP ht)];exact e1) (by omega)
         have a2:=p25t Y (withR p.1 p.2 false P) (by rw[withR_ok (isTree_incP ht)];exact e2) (by omega)
         exact ⟨(),_,_,_,_,_,_,_,_,gt,rfl,_,g33 q.1 q.2,rfl,_,a1,selT ⟨(),_,_,_,_,_,_,_,_,gt,rfl,_,g33 p.1 p.2,rfl,_,a2,rfl⟩⟩
       · exact ⟨rfl,rfl,_,p25t X Y (hn hk) (by omega),rfl⟩
   · rw[decide_eq_false hr]
     exact selT ⟨_,p29,rfl⟩
 · rw[decide_eq_false hs]
   exact selT ⟨_,p29,rfl⟩
abbrev p1T:Mir.Ty := .st [.str,.str]
theorem p9x (x:wdT.T) (h:wdT.fit x) (p q:p1T.T):Runs Fs4 9 [wdT.av x,p1T.av p,p1T.av q] [] (.n (.bool true)) []:=by
 rw[wd_av]
 obtain ⟨a,b,_⟩:=p
 obtain ⟨c,d,_⟩:=q
 exact p9 (toWd x) (wd_fit x h) (a,b) (c,d)
end Go.Proofs.YtclgengkohbjjaaGreatDoor.M
