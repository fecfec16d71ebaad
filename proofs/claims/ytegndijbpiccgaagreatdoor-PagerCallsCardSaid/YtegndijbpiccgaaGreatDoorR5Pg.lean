import Derived.Test.YtegndijbpiccgaaGreatDoorR5Pe
import Derived.Test.YtegndijbpiccgaaGreatDoorR5Pn
namespace Go.Proofs.YtegndijbpiccgaaGreatDoor.M
set_option linter.unusedVariables false
set_option linter.unusedSimpArgs false
open Go Go.Mir
set_option linter.unusedVariables false
theorem ffUp_up {w:Wd} {i j:Nat} (h:ffUp w i=some j):∀n,i≤n→ffUp w n=some j:=by
 intro n hn
 induction hn with
 | refl=>exact h
 | step _ ih=>rw[ffUp,ih]
theorem rt_fits {b:List ByteArray} {p:List Wr} (h:Rt b p=true):Fits b p:=by
 obtain ⟨h1,h2,h3⟩:=rt_tms h
 refine ⟨by omega,by omega,fun s hs=>by have:=(tm_T (h1 s hs)).2;omega,fun x hx => ?_⟩
 have:=h3 x hx
 rw[Wm,Bool.and_eq_true,Bool.and_eq_true]at this
 have:=(tm_T this.2.2).2
 omega
theorem rt_ok {b:List ByteArray} {p:List Wr} (h:Rt b p=true):Ok b p:=ok_of (rt_fits h) h
theorem doC_rt {s:Pw} {c:Cl} (h:Rt s.b s.p=true):Rt (doC s c).1.b (doC s c).1.p=true:=by
 unfold doC
 split
 · exact h
 · split
   · exact rt_cr h _ _
   · rename_i h1
     split
     · exact h
     · rename_i h2
       split
       · exact h
       · rename_i h3
         have hc:okC s.b c:=⟨by omega,by omega,by omega⟩
         exact rt_app (b:=s.b) (p:=s.p) (l:=[c]) h (fun x hx=>by rw[List.mem_singleton.1 hx];exact hc) (by simp;omega)
theorem p40 (g:Int) (now:List Bool) (h0:0≤g) (h1:g≤1099511627776) (hn:now.length≤2048):Runs Fs4 40 [.n (.int .i64 g),.o (.sl 1 (blD now))] [] (.n (.str (mapP g now))) []:=by
 have g1:=p85 now (by omega)
 have g2:=(((p84 3 g (packS now) (mapP_ok h0 h1 hn)).up up2).up up3).up up4
 rw[pg]at g2
 refine vc_eq fs40 rfl ?_
 rw[vc40,V40]
 exact ⟨_,g1,_,g2,rfl⟩
end Go.Proofs.YtegndijbpiccgaaGreatDoor.M
