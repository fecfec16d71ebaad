import Derived.Test.YtclgengkohbjjaaGreatDoorR4Kb
import Derived.Test.YtclgengkohbjjaaGreatDoorR4K5
namespace Go.Proofs.YtclgengkohbjjaaGreatDoor.M
set_option linter.unusedVariables false
set_option linter.unusedSimpArgs false
open Go Go.Mir
set_option linter.unusedVariables false
theorem p5 (w:Wd) (hf:WFits w) (key val:ByteArray):Runs Fs4 5 [wdV w,.n (.str key),.n (.str val)] [] (.n (.bool true)) []:=by
 have g28:=p28 w
 have g30:=(p30 w hf key val).up up4
 have g18:=p18' w hf
 have g31:=p31 key val
 refine vc_eq fs5 rfl ?_
 rw[wdV,vc5,(V5e _ _ _ _ _ _ _ _).down]
 refine ⟨_,g28,?_⟩
 by_cases hs:smallW w
 · rw[decide_eq_true hs]
   refine sel_intro (fun h=>by cases h) (fun _ => ?_)
   by_cases hr:WRight w
   · by_cases hp:isPair key val
     · rw[decide_eq_true hr]at g18
       rw[decide_eq_true hp]at g31
       have hn:w.now.length≤2048:=wr_now hr
       obtain ⟨va,vb,gt⟩:=t21 w hf hn
       have g23:=p23 w hr.1
       have hkeep:∀x:Wd,WRight x→x.base=w.base→x.gen=w.gen→x.now.length=w.now.length→x.pages.length=w.pages.length→(∀b:Int,0≤b→tr w.base b.toNat=true→pgAt x b=pgAt w b) →
           Runs Fs4 24 [wdV ⟨w.base,x.now,w.pages,0,w.gen⟩,wdV x,.o (.sl 1 (il [])),.o (.sl 1 (il []))] [] (.n (.bool true)) []:=fun x hx h1 h2 h3 h4 h5=>
         p24 ⟨w.base,x.now,w.pages,0,w.gen⟩ x [] [] (keeps_any h1 h2 h3 h4 h5) (by have:=hr.1.1;dsimp only;omega) (by have:=hr.2.1;dsimp only;omega) (by have:=wr_now hx;exact this) (wr_fits hx).s (by decide) (by decide) (fun b hb=>by cases hb)
       by_cases hb:(treeW w).bad=true
       · rcases putW_any hr hp with (e|e)|⟨x,e,hx,h1,h2,h3,h4,h5⟩
         · rw[e]at g30
           refine ⟨_,_,_,_,_,_,g30,_,g18,selF ⟨_,g31,selF ⟨(),_,_,_,_,_,_,_,_,gt,selT ⟨_,g23,_,p29,selT ⟨_,p32t,selT (selF (selT ?_))⟩⟩⟩⟩⟩
           rw[hb];exact selT rfl
         · rw[e]at g30
           refine ⟨_,_,_,_,_,_,g30,_,g18,selF ⟨_,g31,selF ⟨(),_,_,_,_,_,_,_,_,gt,selT ⟨_,g23,_,p29,selT ⟨_,p32t,selT (selT ?_)⟩⟩⟩⟩⟩
           rw[hb];exact selT rfl
         · rw[e]at g30
           have gx:=p18' x (wr_fits hx)
           rw[decide_eq_true hx]at gx
           refine ⟨_,_,_,_,_,_,g30,_,g18,selF ⟨_,g31,selF ⟨(),_,_,_,_,_,_,_,_,gt,selF ⟨_,gx,selF ⟨_,hkeep x hx h1 h2 h3 h4 h5,selF ?_⟩⟩⟩⟩⟩
           rw[hb];exact selT ⟨_,p29,rfl⟩
       · have hb:(treeW w).bad=false:=by simpa using hb
         obtain ⟨h,P,B,ht,eT⟩:=tree_sound hb
         obtain ⟨hP,hB⟩:=treeP_small hr ht
         have hlow:=isTree_low hr ht
         rw[eT]at gt
         rcases putW_tree hr hp ht with ⟨e,hc⟩|⟨x,e,hx,_,h',B',W,hq,_,hx'⟩
         · rw[e]at g30
           refine ⟨_,_,_,_,_,_,g30,_,g18,selF ⟨_,g31,selF ⟨(),_,_,_,_,_,_,_,_,gt,selT ⟨_,g23,_,p29,selT ⟨_,p32t,selT (selF (selT (selF ?_)))⟩⟩⟩⟩⟩
           dsimp only
           rw[i64_in (2*(h:Int)) (by omega),i64_in _ (by omega),decide_eq_true (by omega)]
         · rw[e]at g30
           have gx:=p18' x (wr_fits hx)
           rw[decide_eq_true hx]at gx
           obtain ⟨xa,xb,gtx⟩:=t21 x (wr_fits hx) (wr_now hx)
           rw[tree_full hx']at gtx
           obtain ⟨hP',hB'⟩:=treeP_small hx hx'
           have hpg:∀b:Int,0≤b→tr w.base b.toNat=true→pgAt x b=pgAt w b:=fun b h0 htb=>hq.page b h0 fun hW=>by
            have:=(hq.wr b hW).2.2.2.1
            rw[this]at htb;cases htb
           have g24:=hkeep x hx hq.base hq.gen hq.nlen hq.plen hpg
           have k24:=p24 w x B B' (keeps_of hr hq (fun b hb=>(treeB_rg hx hx' b hb).1)) hr.1.1 hr.2.1 hn (wr_fits hx).s (by omega) (by omega) (fun b hb=>by
            have:=treeB_rg hx hx' b hb
            have:=hq.nlen
            dsimp only at this
            omega)
           have g33:=p33 P (by omega) key val
           rw[withR_ok (isTree_incP ht)]at g33
           have g25:=p25t (withP key val P) (withP key val P) rfl (by omega)
           exact ⟨_,_,_,_,_,_,g30,_,g18,selF ⟨_,g31,selF ⟨(),_,_,_,_,_,_,_,_,gt,selF ⟨_,gx,selF ⟨_,g24,selF (selF ⟨(),_,_,_,_,_,_,_,_,gtx,_,p29,selT (selT ⟨rfl,_,g33,rfl,_,g25,selT ⟨rfl,rfl,_,k24,rfl⟩⟩)⟩)⟩⟩⟩⟩⟩
     · have e:putW w key val=(wd0,1):=by rw[putW,if_pos (fun h=>hp h.2)]
       rw[e]at g30
       rw[decide_eq_true hr]at g18
       rw[decide_eq_false hp]at g31
       exact ⟨_,_,_,_,_,_,g30,_,g18,selF ⟨_,g31,selT ⟨_,p29,selT (selT ⟨_,p32t,rfl⟩)⟩⟩⟩
   · have e:putW w key val=(wd0,1):=by rw[putW,if_pos (fun h=>hr h.1)]
     rw[e]at g30
     rw[decide_eq_false hr]at g18
     exact ⟨_,_,_,_,_,_,g30,_,g18,selT ⟨_,p29,selT (selT ⟨_,p32t,rfl⟩)⟩⟩
 · rw[decide_eq_false hs]
   exact selT ⟨_,p29,rfl⟩
theorem p5x (x:wdT.T) (h:wdT.fit x) (key val:ByteArray):Runs Fs4 5 [wdT.av x,.n (.str key),.n (.str val)] [] (.n (.bool true)) []:=by
 rw[wd_av];exact p5 (toWd x) (wd_fit x h) key val
end Go.Proofs.YtclgengkohbjjaaGreatDoor.M
