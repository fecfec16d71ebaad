import Derived.Test.YtclgengkohbjjaaGreatDoorR4KA
import Derived.Test.YtclgengkohbjjaaGreatDoorR4EdW
import Derived.Test.YtclgengkohbjjaaGreatDoorR4Nod
namespace Go.Proofs.YtclgengkohbjjaaGreatDoor.M
set_option linter.unusedVariables false
set_option linter.unusedSimpArgs false
open Go Go.Mir
set_option linter.unusedVariables false
noncomputable instance (a b:Wd):Decidable (a=b):=Classical.propDecidable _
def smallW (w:Wd):Prop:=w.now.length≤300∧w.pages.length≤300
instance (w:Wd):Decidable (smallW w):=by unfold smallW;infer_instance
theorem p28 (w:Wd):Runs Fs4 28 [wdV w] [] (.n (.bool (decide (smallW w)))) []:=by
 refine vc_eq fs28 rfl ?_
 rw[wdV,vc28,V28,blD_len,sl_len]
 refine sel_dec (fun h => ?_) (fun h=>by rw[decide_eq_false (by unfold smallW;omega)])
 congr 2
 rw[decide_eq_decide,smallW]
 omega
theorem p89 (a b:List Bool) (ha:Small a.length):Runs Fs4 89 [.o (.sl 1 (blD a)),.o (.sl 1 (blD b))] [] (.n (.bool (decide (a=b)))) []:=by
 refine vc_eq fs89 rfl ?_
 rw[vc89,(V89e _ _ _).down,blD_len,blD_len]
 refine sel_intro (fun h => ?_) (fun h => ?_)
 · rw[decide_eq_false]
   rintro rfl
   simp at h
 have hl:a.length=b.length:=by
   have:(a.length:Int)=b.length:=by simpa using h
   omega
 refine ⟨fun i=>0≤i∧i≤a.length∧∀j:Nat,(j:Int)<i→a[j]?=b[j]?,fun i=>(a.length - i).toNat,⟨rfl,by omega,by omega,fun j hj=>by omega⟩,?_⟩
 rintro i ⟨h0,h1,hok⟩ _
 refine sel_dec (fun hlt => ?_) (fun hge => ?_)
 · have hi:i.toNat<a.length:=by omega
   have hj:i.toNat<b.length:=by omega
   refine ⟨rfl,h0,_,blD_at hi,_,rfl,rfl,h0,_,blD_at hj,_,rfl,?_⟩
   refine sel_intro (fun hx => ?_) (fun hx => ?_)
   · rw[decide_eq_false]
     rintro rfl
     simp at hx
   · have hx:a[i.toNat]=b[i.toNat]:=by simpa using hx
     repeat (refine And.intro rfl ?_)
     rw[i64_in _ (by omega)]
     refine ⟨⟨by omega,by omega,fun j hji => ?_⟩,by first|omega|(dsimp only;omega)⟩
     by_cases e:(j:Int)<i
     · exact hok j e
     · obtain rfl:j=i.toNat:=by omega
       rw[List.getElem?_eq_getElem hi,List.getElem?_eq_getElem hj,hx]
 · rw[decide_eq_true]
   refine List.ext_getElem? fun j => ?_
   by_cases hj:j<a.length
   · exact hok j (by omega)
   · rw[List.getElem?_eq_none (by omega),List.getElem?_eq_none (by omega)]
theorem p61 (a b c d:List Bool) (ha:Small a.length) (hb:Small b.length):Runs Fs4 61 [alV a b,alV c d] [] (.n (.bool (decide (a=c∧b=d)))) []:=by
 have g1:=p89 a c ha
 have g2:=p89 b d hb
 refine vc_eq fs61 rfl ?_
 rw[alV,alV,vc61,V61]
 refine ⟨_,g1,sel_dec (fun h=>⟨_,g2,?_⟩) (fun h=>by rw[decide_eq_false (fun hh=>h hh.1)])⟩
 congr 2
 rw[decide_eq_decide]
 exact ⟨fun h2=>⟨h,h2⟩,fun h2=>h2.2⟩
theorem wd_ext {a b:Wd} (h1:a.base=b.base) (h2:a.now=b.now) (h3:a.pages=b.pages) (h4:a.root=b.root) (h5:a.gen=b.gen):a=b:=by
 cases a;cases b;simp_all
theorem p36 (a b:Wd) (hf:WFits a):Runs Fs4 36 [wdV a,wdV b] [] (.n (.bool (decide (a=b)))) []:=by
 have g1:=p61 a.base a.now b.base b.now hf.b hf.n
 have no:a≠b→AV.n (D.bool false) = .n (.bool (decide (a=b))):=fun h=>by rw[decide_eq_false h]
 refine vc_eq fs36 rfl ?_
 rw[wdV,wdV,vc36,(V36e _ _ _ _ _ _ _ _ _ _ _).down,sl_len,sl_len]
 refine sel_intro (fun h=>no (by rintro rfl;simp at h)) (fun h1=>sel_intro (fun h=>no (by rintro rfl;simp at h)) (fun h2=>sel_intro (fun h=>no (by rintro rfl;simp at h)) (fun h3=>⟨_,g1,?_⟩)))
 have h1:a.root=b.root:=by simpa using h1
 have h2:a.gen=b.gen:=by simpa using h2
 have hl:a.pages.length=b.pages.length:=by
   have:(a.pages.length:Int)=b.pages.length:=by simpa using h3
   omega
 by_cases hc:a.base=b.base∧a.now=b.now
 · rw[decide_eq_true hc]
   refine sel_intro (fun h=>by cases h) (fun _ => ?_)
   refine ⟨fun i=>0≤i∧i≤a.pages.length∧∀j:Nat,(j:Int)<i→a.pages[j]?=b.pages[j]?,fun i=>(a.pages.length - i).toNat,⟨rfl,by omega,by omega,fun j hj=>by omega⟩,?_⟩
   rintro i ⟨h0,h1',hok⟩ _
   have hs:=hf.p
   refine sel_dec (fun hlt => ?_) (fun hge => ?_)
   · have hi:i.toNat<a.pages.length:=by omega
     have hj:i.toNat<b.pages.length:=by omega
     refine ⟨rfl,h0,_,sl_at hi,_,rfl,rfl,h0,_,sl_at hj,_,rfl,sel_nb (fun hx => ?_) (fun hx => ?_)⟩
     · refine no fun e=>hx ?_
       subst e;rfl
     · repeat (refine And.intro rfl ?_)
       rw[i64_in _ (by omega)]
       refine ⟨⟨by omega,by omega,fun j hji => ?_⟩,by first|omega|(dsimp only;omega)⟩
       by_cases e:(j:Int)<i
       · exact hok j e
       · obtain rfl:j=i.toNat:=by omega
         rw[List.getElem?_eq_getElem hi,List.getElem?_eq_getElem hj,hx]
   · rw[decide_eq_true]
     refine wd_ext hc.1 hc.2 (List.ext_getElem? fun j => ?_) h1 h2
     by_cases hj:j<a.pages.length
     · exact hok j (by omega)
     · rw[List.getElem?_eq_none (by omega),List.getElem?_eq_none (by omega)]
 · rw[decide_eq_false hc]
   exact sel_intro (fun _=>no fun e=>hc ⟨by rw[e],by rw[e]⟩) (fun h=>by cases h)
theorem p32 (w:Wd) (hf:WFits w):Runs Fs4 32 [wdV w] [] (.n (.bool (decide (w=wd0)))) []:=by
 have g:=p36 w wd0 hf
 refine vc_eq fs32 rfl ?_
 rw[wdV,vc32,(V32e _ _ _ _ _ _).down]
 exact ⟨_,g,rfl⟩
def clampN (n:Int):Nat:=(mmI false (mmI true n 24) 200).toNat
theorem clampN_le (n:Int):24≤clampN n∧clampN n≤200:=by
 unfold clampN mmI
 simp only[if_true,Bool.false_eq_true,if_false]
 split <;> split <;> omega
theorem clampN_eq (n:Int):mmI false (mmI true n 24) 200=(clampN n:Int):=by
 unfold clampN mmI
 simp only[if_true,Bool.false_eq_true,if_false]
 split <;> split <;> omega
theorem p34 (n:Int):Runs Fs4 34 [.n (.int .i64 n)] [] (wdV (newW (clampN n))) []:=by
 have hc:=clampN_le n
 have g:=((p60 (clampN n) (by omega)).up up3).up up4
 refine vc_eq fs34 rfl ?_
 rw[vc34,(V34e _ _).down,clampN_eq]
 refine ⟨_,_,g,by omega,by omega,rfl,?_⟩
 rw[Int.toNat_natCast,sl_rep];rfl
theorem newW_fits (n:Nat) (h:n≤2048):WFits (newW n):=⟨by simp[newW,newRow];omega,by simp[newW,newRow];omega,by simp[newW];omega,fun s hs=>by
 rw[List.eq_of_mem_replicate hs];decide⟩
theorem p29:Runs Fs4 29 [] [] (.n (.bool true)) []:=by
 have hp:isPair (ByteArray.mk (List.toArray [97])) (ByteArray.mk (List.toArray [49])):=by decide
 have g:=(p30 (newW 24) (newW_fits 24 (by decide)) (ByteArray.mk (List.toArray [97])) (ByteArray.mk (List.toArray [49]))).up up4
 have ef:firstFree (newW 24)=some 10:=by decide
 have e:∃now pages:List _,pages.length=24∧putW (newW 24) (ByteArray.mk (List.toArray [97])) (ByteArray.mk (List.toArray [49]))=(⟨(newW 24).base,now,pages,10,1⟩,0):=by
  refine ⟨(newW 24).now.set 10 true,(newW 24).pages.set 10 (pageB 1 ⟨true,[ByteArray.mk (List.toArray [97])],[ByteArray.mk (List.toArray [49])],[]⟩),by simp[newW],?_⟩
  rw[putW,if_neg (fun h=>h ⟨newW_right (by decide) (by decide),hp⟩),putR,if_pos (show (newW 24).root=0 from rfl),storeE,if_neg (by decide),if_neg (fun h=>h (leaf_one hp)),ef]
  rfl
 obtain ⟨now,pages,hl,e⟩:=e
 rw[e]at g
 refine vc_eq fs29 rfl ?_
 rw[vc29,(V29e _).down]
 refine ⟨_,_,_,_,_,p34 24,_,_,_,_,_,_,g,sel_intro (fun _=>sel_intro (fun _ => ?_) (fun h=>by cases h)) (fun h=>by cases h)⟩
 rw[sl_len,hl];rfl
theorem wd0_fits:WFits wd0:=⟨by decide,by decide,by decide,fun s hs=>by cases hs⟩
theorem p32t:Runs Fs4 32 [wdV wd0] [] (.n (.bool true)) []:=by
 have g:=p32 wd0 wd0_fits
 rw[decide_eq_true rfl]at g
 exact g
theorem p18' (w:Wd) (hf:WFits w):Runs Fs4 18 [wdV w] [] (.n (.bool (decide (WRight w)))) []:=((p18 w hf).up up3).up up4
theorem selT {A B:Prop} (h:A):sel true A B:=h
theorem selF {A B:Prop} (h:B):sel false A B:=h
abbrev qbz_ (p0:Bool):=
 (Runs Fs4 29 [] [] (aB p0) [])
abbrev qbA_ (p0:LD):=
 (mmI false (p0.length:Int) 20)
abbrev qbB_ (p0:LD):=
 (List.drop 0 (List.take (Int.toNat (qbA_ p0)) p0))
def V8 (a0_0:LD) (a0_1:LD) (a0_2:LD) (a0_3:Int) (a0_4:Int) (a1:LD) (R:Mir.AV→Prop):Prop:=
 (∃x0:Bool,((Runs Fs4 28 [(.agg (qs_ a0_0 a0_1 a0_2 a0_3 a0_4))] [] (aB x0) [])∧(sel (Bool.not x0) (∃x1:Bool,((qbz_ x1)∧(R (.n (.bool x1))))) ((rn 2)∧((0:Int)≤(qbA_ a1))∧(((qbA_ a1):Int)≤(a1.length:Int))∧(∃x2:LD,(∃x3:LD,(∃x4:LD,(∃x5:Int,(∃x6:Int,(∃x7:Int,((Runs Fs4 35 [(.agg (qs_ a0_0 a0_1 a0_2 a0_3 a0_4)),(.o (Mir.D.sl 2 (qbB_ a1)))] [] (.tup [(.agg (qs_ x2 x3 x4 x5 x6)),(aI x7)]) [])∧(∃x8:Bool,((Runs Fs4 18 [(.agg (qs_ a0_0 a0_1 a0_2 a0_3 a0_4))] [] (aB x8) [])∧(sel (Bool.not x8) (∃x9:Bool,((qbz_ x9)∧(sel x9 (sel (x7==1) (∃x10:Bool,((Runs Fs4 32 [(.agg (qs_ x2 x3 x4 x5 x6))] [] (aB x10) [])∧(R (.n (.bool x10))))) (R (.n (.bool false)))) (R (.n (.bool false)))))) (∃x11:(Int→(Int→(qbm_→Prop))),(∃x12:(Int→(Int→(qbm_→Nat))),(((rh [(hB 800000 (qs_ a0_0 a0_1 a0_2 a0_3 a0_4)),(hB 800406 (qs_ x2 x3 x4 x5 x6)),(hB 800701 (qs_ a0_0 a0_1 a0_2 a0_3 a0_4))])∧(x11 0 0 (a0_0,(a0_1,(a0_2,(a0_3,(a0_4,())))))))∧(∀x13:Int,(∀x14:Int,(∀x15:qbm_,((x11 x13 x14 x15)→(∀x16:(Nat→Mir.AV),(sel (decide (x14<((qbB_ a1).length:Int))) ((rn 2)∧((0:Int)≤x14)∧(∃x17:Mir.D,(((qbB_ a1)[Int.toNat x14]?=some x17)∧(∃x18:ByteArray,(∃x19:ByteArray,((@Eq LD (List.take 2 (D.cells x17)) [(Mir.D.str x18),(Mir.D.str x19)])∧((2:Nat)≤(List.length (D.cells x17)))∧(∃x20:LD,(∃x21:LD,(∃x22:LD,(∃x23:Int,(∃x24:Int,(∃x25:Int,((Runs Fs4 30 [(.agg [(aL x15.1),(aL x15.2.1),(aL x15.2.2.1),(aI x15.2.2.2.1),(aI x15.2.2.2.2.1)]),(aS x18),(aS x19)] [] (.tup [(.agg (qs_ x20 x21 x22 x23 x24)),(aI x25)]) [])∧(sel (x13==0) ((rq (.ptr 800406 0))∧(rq (aI x7))∧(rq (.ptr 800701 0))∧(rq (.o (Mir.D.sl 2 (qbB_ a1))))∧(rq (aI ((qbB_ a1).length:Int)))∧(rh [(hB 800000 (qs_ a0_0 a0_1 a0_2 a0_3 a0_4)),(hB 800406 (qs_ x2 x3 x4 x5 x6)),(hB 800701 (qs_ x20 x21 x22 x23 x24))])∧(x11 x25 (IntKind.wrap .i64 (x14+1)) (x20,(x21,(x22,(x23,(x24,()))))))∧(((x12 x25 (IntKind.wrap .i64 (x14+1)) (x20,(x21,(x22,(x23,(x24,())))))):Nat)<(x12 x13 x14 x15))) ((rq (.ptr 800406 0))∧(rq (aI x7))∧(rq (.ptr 800701 0))∧(rq (.o (Mir.D.sl 2 (qbB_ a1))))∧(rq (aI ((qbB_ a1).length:Int)))∧(rh [(hB 800000 (qs_ a0_0 a0_1 a0_2 a0_3 a0_4)),(hB 800406 (qs_ x2 x3 x4 x5 x6)),(hB 800701 [(aL x15.1),(aL x15.2.1),(aL x15.2.2.1),(aI x15.2.2.2.1),(aI x15.2.2.2.2.1)])])∧(x11 x13 (IntKind.wrap .i64 (x14+1)) (x15.1,(x15.2.1,(x15.2.2.1,(x15.2.2.2.1,(x15.2.2.2.2.1,()))))))∧(((x12 x13 (IntKind.wrap .i64 (x14+1)) (x15.1,(x15.2.1,(x15.2.2.1,(x15.2.2.2.1,(x15.2.2.2.2.1,())))))):Nat)<(x12 x13 x14 x15))))))))))))))))) (sel (x13 != 0) (∃x26:Bool,((qbz_ x26)∧(sel x26 (sel (x7==x13) (∃x27:Bool,((Runs Fs4 32 [(.agg (qs_ x2 x3 x4 x5 x6))] [] (aB x27) [])∧(R (.n (.bool x27))))) (R (.n (.bool false)))) (R (.n (.bool false)))))) (∃x28:Bool,((qbz_ x28)∧(sel x28 (sel (x7==0) (∃x29:Bool,((Runs Fs4 36 [(.agg (qs_ x2 x3 x4 x5 x6)),(.agg [(aL x15.1),(aL x15.2.1),(aL x15.2.2.1),(aI x15.2.2.2.1),(aI x15.2.2.2.2.1)])] [] (aB x29) [])∧(R (.n (.bool x29))))) (R (.n (.bool false)))) (R (.n (.bool false))))))))))))))))))))))))))))))
def V8e (a0_0:LD) (a0_1:LD) (a0_2:LD) (a0_3:Int) (a0_4:Int) (a1:LD) (R:Mir.AV→Prop):=PLift.up (by delta V8 qbB_ qbm_ qbz_ qbA_ qs_;exact rfl:V8 a0_0 a0_1 a0_2 a0_3 a0_4 a1 R=_)
theorem vc8 (a0_0:LD) (a0_1:LD) (a0_2:LD) (a0_3:Int) (a0_4:Int) (a1:LD) (R:Mir.AV→Prop):Vc Fs4 c8.body (argsQ c8 [(.agg [(.o (.sl 1 a0_0)),(.o (.sl 1 a0_1)),(.o (.sl 1 a0_2)),(.n (.int .i64 a0_3)),(.n (.int .i64 a0_4))]),(.o (.sl 2 a1))]) [] (endQ c8 R)=V8 a0_0 a0_1 a0_2 a0_3 a0_4 a1 R:=by kernel_rfl
theorem psD_cut (l:List Pr) (n:Nat):List.drop 0 (List.take n (psD l))=psD (l.take n):=by simp[psD,List.map_take]
theorem mm_min (n:Nat) (k:Nat):mmI false (n:Int) (k:Int)=((min n k:Nat):Int):=by
 unfold mmI
 simp only[Bool.false_eq_true,if_false]
 split <;> omega
theorem put_err {w:Wd} {key val:ByteArray} (h:(putW w key val).2≠0):(putW w key val).1=wd0:=by
 unfold putW at h ⊢
 split
 · rfl
 · rename_i hc
   rw[if_neg hc]at h
   unfold endE at h ⊢
   split
   · rfl
   · rename_i hb
     rw[if_neg hb]at h
     exact absurd rfl h
theorem put_fits {w:Wd} {key val:ByteArray}:WFits (putW w key val).1:=by
 by_cases h:(putW w key val).2=0
 · exact wr_fits (putW_right h)
 · rw[put_err h];exact wd0_fits
theorem p8 (w:Wd) (hf:WFits w) (l:List Pr):Runs Fs4 8 [wdV w,.o (.sl 2 (psD l))] [] (.n (.bool true)) []:=by
 have g28:=p28 w
 have g18:=p18' w hf
 have hm:mmI false (l.length:Int) 20=((min l.length 20:Nat):Int):=mm_min l.length 20
 refine vc_eq fs8 rfl ?_
 rw[wdV,vc8,(V8e _ _ _ _ _ _ _).down,psD_len l,hm,Int.toNat_natCast,psD_cut]
 generalize hL:l.take (min l.length 20)=L
 have hlen:L.length≤20:=by rw[←hL,List.length_take];omega
 rw[psD_len L]
 have g35:=(p35 w hf L (by omega)).up up4
 refine ⟨_,g28,?_⟩
 by_cases hs:smallW w
 · rw[decide_eq_true hs]
   refine selF ⟨rfl,by omega,by omega,_,_,_,_,_,_,g35,_,g18,?_⟩
   by_cases hr:WRight w
   · rw[decide_eq_true hr]
     have fr:=fold_run (step:=putP) (l:=L) (w:=w)
     have ea:allW putP w L=foldW putP w L:=by rw[allW,if_neg (by simpa using hr)]
     rw[←ea]at fr
     generalize allW putP w L=A at fr
     refine selF ⟨fun f i q=>0≤i∧i≤L.length∧∃y,q=wdC y∧WFits y∧runW putP (y,f) (L.drop i.toNat)=runW putP (w,0) L,fun _ i _=>(L.length - i).toNat,⟨rfl,by omega,by omega,w,rfl,hf,rfl⟩,?_⟩
     rintro f i q ⟨h0,h1,y,rfl,hy,hq⟩ _
     refine sel_dec (fun hlt => ?_) (fun hge => ?_)
     · have hi:i.toNat<L.length:=by omega
       rw[drop_at' hi,runW]at hq
       refine ⟨rfl,h0,_,psD_at hi,_,_,rfl,Nat.le_refl 2,_,_,_,_,_,_,(p30 y hy L[i.toNat].1 L[i.toNat].2).up up4,sel_intro (fun hz => ?_) (fun hz => ?_)⟩
       · have hz:f=0:=by simpa using hz
         rw[if_pos hz]at hq
         repeat (refine And.intro rfl ?_)
         rw[i64_in _ (by omega)]
         refine ⟨⟨by omega,by omega,(putW y L[i.toNat].1 L[i.toNat].2).1,rfl,put_fits,?_⟩,by first|omega|(dsimp only;omega)⟩
         rw[show (i+1).toNat=i.toNat+1 by omega];exact hq
       · have hz:f≠0:=by simpa using hz
         rw[if_neg hz]at hq
         repeat (refine And.intro rfl ?_)
         rw[i64_in _ (by omega)]
         refine ⟨⟨by omega,by omega,y,rfl,hy,?_⟩,by first|omega|(dsimp only;omega)⟩
         rw[show (i+1).toNat=i.toNat+1 by omega];exact hq
     · rw[List.drop_eq_nil_of_le (by omega),runW]at hq
       rw[←hq]at fr
       obtain ⟨a1,a2,a3⟩:=fr
       dsimp only at a1 a2 a3
       refine sel_intro (fun hz=>⟨_,p29,selT ?_⟩) (fun hz=>⟨_,p29,selT ?_⟩)
       · have hz:f≠0:=by simpa using hz
         rw[a1,beq_self_eq_true,a3 (by rw[a1];exact hz)]
         exact selT ⟨_,p32t,rfl⟩
       · have hz:f=0:=by simpa using hz
         have e:A.1=y:=a2 (by rw[a1];exact hz)
         rw[e,a1,hz]
         have g36:=p36 y y hy
         rw[decide_eq_true rfl]at g36
         exact selT ⟨_,g36,rfl⟩
   · rw[decide_eq_false hr]
     have e:allW putP w L=(wd0,1):=by rw[allW,if_pos hr]
     rw[e]
     exact selT ⟨_,p29,selT (selT ⟨_,p32t,rfl⟩)⟩
 · rw[decide_eq_false hs]
   exact selT ⟨_,p29,rfl⟩
abbrev prT:Mir.Ty := .sl (.st [.str,.str])
def toPrs (x:prT.T):List Pr:=(show List (ByteArray×ByteArray×Unit) from x).map fun p=>(p.1,p.2.1)
theorem prs_av (x:prT.T):prT.av x = .o (.sl 2 (psD (toPrs x))):=by
 unfold toPrs psD
 rw[List.map_map];rfl
theorem p8x (x:wdT.T) (h:wdT.fit x) (y:prT.T):Runs Fs4 8 [wdT.av x,prT.av y] [] (.n (.bool true)) []:=by
 rw[wd_av,prs_av];exact p8 (toWd x) (wd_fit x h) (toPrs y)
end Go.Proofs.YtclgengkohbjjaaGreatDoor.M
