import Derived.Test.YtclgengkohbjjaaGreatDoorR4KA
import Derived.Test.YtclgengkohbjjaaGreatDoorR4Ord
import Derived.Test.YtclgengkohbjjaaGreatDoorR4LW
namespace Go.Proofs.YtclgengkohbjjaaGreatDoor.M
set_option linter.unusedVariables false
set_option linter.unusedSimpArgs false
open Go Go.Mir
set_option linter.unusedVariables false
noncomputable instance (a b:Wd):Decidable (a=b):=Classical.propDecidable _
def smallW (w:Wd):Prop:=w.now.length≤300∧w.pages.length≤300
instance (w:Wd):Decidable (smallW w):=by unfold smallW;infer_instance
theorem p15 (w:Wd):Runs Fs4 15 [wdV w] [] (.n (.bool (decide (smallW w)))) []:=by
 refine vc_eq fs15 rfl ?_
 rw[wdV,vc15,V15,blD_len,sl_len]
 refine sel_dec (fun h => ?_) (fun h=>by rw[decide_eq_false (by unfold smallW;omega)])
 congr 2
 rw[decide_eq_decide,smallW]
 omega
theorem p19 (key:ByteArray):Runs Fs4 19 [.n (.str key)] [] (.n (.bool (decide (isKeyP key)))) []:=by
 refine vc_eq fs19 rfl ?_
 rw[vc19,(V19e _ _).down]
 refine sel_dec (fun h => ?_) (fun h=>by rw[decide_eq_false (by unfold isKeyP;omega)])
 congr 2
 rw[decide_eq_decide,isKeyP]
 omega
theorem p89 (a b:List Bool) (ha:Small a.length):Runs Fs4 89 [.o (.sl 1 (blD a)),.o (.sl 1 (blD b))] [] (.n (.bool (decide (a=b)))) []:=by
 refine vc_eq fs89 rfl ?_
 rw[vc89,(V89e _ _ _).down,blD_len,blD_len]
 refine sel_intro (fun h => ?_) (fun h => ?_)
 · rw[decide_eq_false]
   rintro rfl
   simp at h
 have hl:a.length=b.length:=by
   have:(a.length:Int)=b.length:=by simpa using h
   omega
 refine ⟨fun i=>0≤i∧i≤a.length∧∀j:Nat,(j:Int)<i→a[j]?=b[j]?,fun i=>(a.length - i).toNat,⟨rfl,by omega,by omega,fun j hj=>by omega⟩,?_⟩
 rintro i ⟨h0,h1,hok⟩ _
 refine sel_dec (fun hlt => ?_) (fun hge => ?_)
 · have hi:i.toNat<a.length:=by omega
   have hj:i.toNat<b.length:=by omega
   refine ⟨rfl,h0,_,blD_at hi,_,rfl,rfl,h0,_,blD_at hj,_,rfl,?_⟩
   refine sel_intro (fun hx => ?_) (fun hx => ?_)
   · rw[decide_eq_false]
     rintro rfl
     simp at hx
   · have hx:a[i.toNat]=b[i.toNat]:=by simpa using hx
     repeat (refine And.intro rfl ?_)
     rw[i64_in _ (by omega)]
     refine ⟨⟨by omega,by omega,fun j hji => ?_⟩,by first|omega|(dsimp only;omega)⟩
     by_cases e:(j:Int)<i
     · exact hok j e
     · obtain rfl:j=i.toNat:=by omega
       rw[List.getElem?_eq_getElem hi,List.getElem?_eq_getElem hj,hx]
 · rw[decide_eq_true]
   refine List.ext_getElem? fun j => ?_
   by_cases hj:j<a.length
   · exact hok j (by omega)
   · rw[List.getElem?_eq_none (by omega),List.getElem?_eq_none (by omega)]
theorem p61 (a b c d:List Bool) (ha:Small a.length) (hb:Small b.length):Runs Fs4 61 [alV a b,alV c d] [] (.n (.bool (decide (a=c∧b=d)))) []:=by
 have g1:=p89 a c ha
 have g2:=p89 b d hb
 refine vc_eq fs61 rfl ?_
 rw[alV,alV,vc61,V61]
 refine ⟨_,g1,sel_dec (fun h=>⟨_,g2,?_⟩) (fun h=>by rw[decide_eq_false (fun hh=>h hh.1)])⟩
 congr 2
 rw[decide_eq_decide]
 exact ⟨fun h2=>⟨h,h2⟩,fun h2=>h2.2⟩
theorem wd_ext {a b:Wd} (h1:a.base=b.base) (h2:a.now=b.now) (h3:a.pages=b.pages) (h4:a.root=b.root) (h5:a.gen=b.gen):a=b:=by
 cases a;cases b;simp_all
theorem p36 (a b:Wd) (hf:WFits a):Runs Fs4 36 [wdV a,wdV b] [] (.n (.bool (decide (a=b)))) []:=by
 have g1:=p61 a.base a.now b.base b.now hf.b hf.n
 have no:a≠b→AV.n (D.bool false) = .n (.bool (decide (a=b))):=fun h=>by rw[decide_eq_false h]
 refine vc_eq fs36 rfl ?_
 rw[wdV,wdV,vc36,(V36e _ _ _ _ _ _ _ _ _ _ _).down,sl_len,sl_len]
 refine sel_intro (fun h=>no (by rintro rfl;simp at h)) (fun h1=>sel_intro (fun h=>no (by rintro rfl;simp at h)) (fun h2=>sel_intro (fun h=>no (by rintro rfl;simp at h)) (fun h3=>⟨_,g1,?_⟩)))
 have h1:a.root=b.root:=by simpa using h1
 have h2:a.gen=b.gen:=by simpa using h2
 have hl:a.pages.length=b.pages.length:=by
   have:(a.pages.length:Int)=b.pages.length:=by simpa using h3
   omega
 by_cases hc:a.base=b.base∧a.now=b.now
 · rw[decide_eq_true hc]
   refine sel_intro (fun h=>by cases h) (fun _ => ?_)
   refine ⟨fun i=>0≤i∧i≤a.pages.length∧∀j:Nat,(j:Int)<i→a.pages[j]?=b.pages[j]?,fun i=>(a.pages.length - i).toNat,⟨rfl,by omega,by omega,fun j hj=>by omega⟩,?_⟩
   rintro i ⟨h0,h1',hok⟩ _
   have hs:=hf.p
   refine sel_dec (fun hlt => ?_) (fun hge => ?_)
   · have hi:i.toNat<a.pages.length:=by omega
     have hj:i.toNat<b.pages.length:=by omega
     refine ⟨rfl,h0,_,sl_at hi,_,rfl,rfl,h0,_,sl_at hj,_,rfl,sel_nb (fun hx => ?_) (fun hx => ?_)⟩
     · refine no fun e=>hx ?_
       subst e;rfl
     · repeat (refine And.intro rfl ?_)
       rw[i64_in _ (by omega)]
       refine ⟨⟨by omega,by omega,fun j hji => ?_⟩,by first|omega|(dsimp only;omega)⟩
       by_cases e:(j:Int)<i
       · exact hok j e
       · obtain rfl:j=i.toNat:=by omega
         rw[List.getElem?_eq_getElem hi,List.getElem?_eq_getElem hj,hx]
   · rw[decide_eq_true]
     refine wd_ext hc.1 hc.2 (List.ext_getElem? fun j => ?_) h1 h2
     by_cases hj:j<a.pages.length
     · exact hok j (by omega)
     · rw[List.getElem?_eq_none (by omega),List.getElem?_eq_none (by omega)]
 · rw[decide_eq_false hc]
   exact sel_intro (fun _=>no fun e=>hc ⟨by rw[e],by rw[e]⟩) (fun h=>by cases h)
theorem p20 (w:Wd) (hf:WFits w):Runs Fs4 20 [wdV w] [] (.n (.bool (decide (w=wd0)))) []:=by
 have g:=p36 w wd0 hf
 refine vc_eq fs20 rfl ?_
 rw[wdV,vc20,(V20e _ _ _ _ _ _).down]
 exact ⟨_,g,rfl⟩
theorem p56 (w:Wd) (hl:w.base.length=w.now.length) (i:Int) (h0:0≤i) (hi:i<w.now.length):Runs Fs4 56 [alV w.base w.now,.n (.int .i64 i)] [] (.n (.bool (freeAt w i.toNat))) []:=by
 refine vc_eq fs56 rfl ?_
 rw[alV,vc56,(V56e _ _ _ _).down,blD_len]
 have ib:i.toNat<w.base.length:=by omega
 have ia:i.toNat<w.now.length:=by omega
 refine sel_dec (fun _=>sel_dec (fun _=>⟨rfl,h0,_,blD_at ia,_,rfl,sel_intro (fun h=>⟨rfl,h0,_,blD_at ib,_,rfl,?_⟩) (fun h => ?_)⟩) (fun h=>absurd hi h)) (fun h=>absurd h0 h)
 · have h:w.now[i.toNat]=false:=by simpa using h
   rw[freeAt,tr_at ia,tr_at ib,h];simp
 · have h:w.now[i.toNat]=true:=by simpa using h
   rw[freeAt,tr_at ia,h];simp
theorem cntUp_le (w:Wd):∀n,cntUp w n≤n
 | 0=>Nat.le_refl 0
 | n+1=>by
   have:=cntUp_le w n
   unfold cntUp
   split <;> omega
theorem p23 (w:Wd) (hr:ARight w.base w.now):Runs Fs4 23 [alV w.base w.now] [] (.n (.int .i64 (cnt w))) []:=by
 obtain ⟨hl,h24,h2048,_⟩:=id hr
 have g:=((p54 w.base w.now (by omega) (by omega)).up up3).up up4
 refine vc_eq fs23 rfl ?_
 rw[alV,vc23,(V23e _ _ _).down,blD_len]
 rw[decide_eq_true hr]at g
 refine ⟨_,g,sel_intro (fun h=>by cases h) (fun _ => ?_)⟩
 refine ⟨fun n i=>0≤i∧i≤w.now.length∧n=cntUp w i.toNat,fun n i=>(w.now.length - i).toNat,⟨rfl,by omega,by omega,rfl⟩,?_⟩
 rintro n i ⟨h0,h1,rfl⟩ _
 have hle:=cntUp_le w i.toNat
 refine sel_dec (fun hlt=>⟨_,p56 w hl i h0 hlt,sel_intro (fun hf => ?_) (fun hf => ?_)⟩) (fun hge => ?_)
 · repeat (refine And.intro rfl ?_)
   rw[i64_in _ (by omega),i64_in _ (by omega)]
   refine ⟨⟨by omega,by omega,?_⟩,by first|omega|(dsimp only;omega)⟩
   rw[show (i+1).toNat=i.toNat+1 by omega,cntUp,if_pos hf];omega
 · repeat (refine And.intro rfl ?_)
   rw[i64_in (i+1) (by omega)]
   refine ⟨⟨by omega,by omega,?_⟩,by first|omega|(dsimp only;omega)⟩
   rw[show (i+1).toNat=i.toNat+1 by omega,cntUp,if_neg (by rw[hf];simp)];omega
 · rw[show i.toNat=w.now.length by omega];rfl
theorem p26 (P:List Pr) (hP:P.length≤1000000) (key:ByteArray):Runs Fs4 26 [.o (.sl 2 (psD P)),.n (.str key)] [] (.o (.sl 2 (psD (P.filter fun p=>decide (p.1≠key))))) []:=by
 refine vc_eq fs26 rfl ?_
 rw[vc26,(V26e _ _ _).down,psD_len]
 refine ⟨fun v i r=>0≤i∧i≤P.length∧r.1=v∧∃A:List Pr,r.2=psD A∧A.length≤i.toNat∧A++(P.drop i.toNat).filter (fun p=>decide (p.1≠key))=P.filter fun p=>decide (p.1≠key),fun _ i _=>(P.length - i).toNat,⟨rfl,by omega,by omega,rfl,[],rfl,by simp,by simp⟩,?_⟩
 rintro v i ⟨_,_⟩ ⟨h0,h1,rfl,A,rfl,hA,hq⟩ _
 refine sel_dec (fun hlt => ?_) (fun hge => ?_)
 · have hi:i.toNat<P.length:=by omega
   rw[drop_at' hi,List.filter_cons]at hq
   refine ⟨rfl,h0,_,psD_at hi,_,_,rfl,Nat.le_refl 2,sel_nb (fun hx => ?_) (fun hx => ?_)⟩
   · rw[if_pos (by simpa using hx)]at hq
     refine ⟨rfl,.inl rfl,⟨⟨rfl,rfl⟩,rfl⟩,by simp only[psD_len,List.length_singleton];omega,?_⟩
     repeat (refine And.intro rfl ?_)
     rw[i64_in _ (by omega),psD_snoc]
     refine ⟨⟨by omega,by omega,rfl,_,rfl,by simp only[List.length_append,List.length_singleton];omega,?_⟩,by first|omega|(dsimp only;omega)⟩
     rw[show (i+1).toNat=i.toNat+1 by omega,List.append_assoc];exact hq
   · rw[if_neg (by simpa using hx)]at hq
     repeat (refine And.intro rfl ?_)
     rw[i64_in _ (by omega)]
     refine ⟨⟨by omega,by omega,rfl,A,rfl,by omega,?_⟩,by first|omega|(dsimp only;omega)⟩
     rw[show (i+1).toNat=i.toNat+1 by omega];exact hq
 · rw[List.drop_eq_nil_of_le (by omega)]at hq
   simp only[List.filter_nil,List.append_nil]at hq
   rw[←hq];exact ⟨rfl,rfl⟩
def clampN (n:Int):Nat:=(mmI false (mmI true n 24) 200).toNat
theorem clampN_le (n:Int):24≤clampN n∧clampN n≤200:=by
 unfold clampN mmI
 simp only[if_true,Bool.false_eq_true,if_false]
 split <;> split <;> omega
theorem clampN_eq (n:Int):mmI false (mmI true n 24) 200=(clampN n:Int):=by
 unfold clampN mmI
 simp only[if_true,Bool.false_eq_true,if_false]
 split <;> split <;> omega
theorem p47 (n:Int):Runs Fs4 47 [.n (.int .i64 n)] [] (wdV (newW (clampN n))) []:=by
 have hc:=clampN_le n
 have g:=((p60 (clampN n) (by omega)).up up3).up up4
 refine vc_eq fs47 rfl ?_
 rw[vc47,(V47e _ _).down,clampN_eq]
 refine ⟨_,_,g,by omega,by omega,rfl,?_⟩
 rw[Int.toNat_natCast,sl_rep];rfl
theorem newW_fits (n:Nat) (h:n≤2048):WFits (newW n):=⟨by simp[newW,newRow];omega,by simp[newW,newRow];omega,by simp[newW];omega,fun s hs=>by
 rw[List.eq_of_mem_replicate hs];decide⟩
theorem p16:Runs Fs4 16 [] [] (.n (.bool true)) []:=by
 have g:=(p17 (newW 24) (newW_fits 24 (by decide)) (ByteArray.mk (List.toArray [97]))).up up4
 have e:delW (newW 24) (ByteArray.mk (List.toArray [97]))=(wd0,80):=by
  rw[delW,if_neg (fun h=>h ⟨newW_right (by decide) (by decide),by decide⟩),if_pos (show (newW 24).root=0 from rfl)]
 rw[e]at g
 refine vc_eq fs16 rfl ?_
 rw[vc16,(V16e _).down]
 exact ⟨_,_,_,_,_,p47 24,_,_,_,_,_,_,g,rfl⟩
theorem getP_form (s:ByteArray):∃k g b e,GetPR s = .tup [.agg [.n (.int .i64 k),.n (.int .i64 g),.n (.str b)],.n (.int .i64 e)]:=by
 rcases getP_cases s with ⟨e,_,h⟩|⟨k,g,b,h,_⟩
 · exact ⟨_,_,_,_,h⟩
 · exact ⟨_,_,_,_,h⟩
theorem p27' (l:List Int) (hl:Small l.length) (b:Int):Runs Fs4 27 [.o (.sl 1 (il l)),.n (.int .i64 b)] [] (.n (.bool (decide (b∈l)))) []:=((p27 l hl b).up up3).up up4
theorem p24 (w x:Wd) (O N:List Int) (h:KeepsR w x O N) (hb:w.base.length=w.now.length) (hp:w.pages.length=w.now.length) (hn:w.now.length≤2048) (hs:∀s∈x.pages,Small s.size) (hO:Small O.length) (hN:Small N.length) (hr:∀b∈N,0≤b∧b<w.now.length):
   Runs Fs4 24 [wdV w,wdV x,.o (.sl 1 (il O)),.o (.sl 1 (il N))] [] (.n (.bool true)) []:=by
 have hxp:=h.plen
 have hxn:=h.nlen
 have hxb:x.base.length=w.base.length:=by rw[h.base]
 refine vc_eq fs24 rfl ?_
 rw[wdV,wdV,vc24,(V24e _ _ _ _ _ _ _ _ _ _ _ _ _).down,il_len,blD_len w.now,blD_len x.now,blD_len x.base,blD_len w.base,sl_len x.pages,sl_len w.pages]
 refine sel_intro (fun h' => ?_) (fun _=>sel_intro (fun h' => ?_) (fun _=>sel_intro (fun h' => ?_) (fun _=>sel_intro (fun h' => ?_) (fun _ => ?_))))
 · exact absurd h.gen (by simpa using h')
 · exact absurd (show (x.pages.length:Int)=w.pages.length by omega) (by simpa using h')
 · exact absurd (show (x.now.length:Int)=w.now.length by omega) (by simpa using h')
 · exact absurd (show (x.base.length:Int)=w.base.length by omega) (by simpa using h')
 refine ⟨fun i=>0≤i∧i≤w.now.length,fun i=>(w.now.length - i).toNat,⟨rfl,by omega,by omega⟩,?_⟩
 rintro i ⟨h0,h1⟩ _
 refine sel_dec (fun hlt => ?_) (fun hge => ?_)
 · have hi:i.toNat<w.now.length:=by omega
   have xb:i.toNat<x.base.length:=by omega
   have wb:i.toNat<w.base.length:=by omega
   have xn:i.toNat<x.now.length:=by omega
   have xp:i.toNat<x.pages.length:=by omega
   have wp:i.toNat<w.pages.length:=by omega
   have hnow:=h.now i.toNat hi
   rw[tr_at xn,tr_at hi,Int.toNat_of_nonneg h0]at hnow
   have g27:=p27' O hO i
   have h27:=p27' N hN i
   refine ⟨rfl,h0,_,blD_at xb,_,rfl,rfl,h0,_,blD_at wb,_,rfl,sel_intro (fun hx => ?_) (fun _=>⟨rfl,h0,_,blD_at wb,_,rfl,sel_intro (fun hbb=>⟨rfl,h0,_,sl_at xp,_,rfl,rfl,h0,_,sl_at wp,_,rfl,sel_nb (fun hne => ?_) (fun _ => ?_)⟩) (fun _ => ?_)⟩)⟩
   · have e:x.base[i.toNat]=w.base[i.toNat]:=by
       have:=h.base
       simp only[this]
     rw[e]at hx;simp at hx
   · exfalso
     apply hne
     have e:=h.page i.toNat hi (by rw[tr_at wb];exact hbb)
     unfold pgAt at e
     rw[Int.toNat_natCast,List.getElem?_eq_getElem xp,List.getElem?_eq_getElem wp]at e
     exact e
   all_goals
     refine ⟨rfl,h0,_,blD_at xn,_,rfl,rfl,h0,_,blD_at hi,_,rfl,sel_intro (fun ht=>⟨_,g27,sel_intro (fun hno=>sel_intro (fun hf => ?_) (fun _ => ?_)) (fun hin=>⟨_,h27,sel_intro (fun hf => ?_) (fun _ => ?_)⟩)⟩) (fun hf0=>⟨_,h27,sel_intro (fun hf => ?_) (fun _ => ?_)⟩)⟩
     · have hno:decide (i∈O)=false:=by simpa using hno
       rw[ht,hno]at hnow
       rw[hnow]at hf;simp at hf
     · repeat (refine And.intro rfl ?_)
       rw[i64_in _ (by omega)]
       exact ⟨⟨by omega,by omega⟩,by first|omega|(dsimp only;omega)⟩
     · have hin:decide (i∈O)=true:=by simpa using hin
       rw[hin,Bool.not_true,Bool.and_false,Bool.false_or]at hnow
       rw[hnow]at hf;simp at hf
     · repeat (refine And.intro rfl ?_)
       rw[i64_in _ (by omega)]
       exact ⟨⟨by omega,by omega⟩,by first|omega|(dsimp only;omega)⟩
     · rw[hf0,Bool.false_and,Bool.false_or]at hnow
       rw[hnow]at hf;simp at hf
     · repeat (refine And.intro rfl ?_)
       rw[i64_in _ (by omega)]
       exact ⟨⟨by omega,by omega⟩,by first|omega|(dsimp only;omega)⟩
 · refine ⟨fun i=>0≤i∧i≤N.length,fun i=>(N.length - i).toNat,⟨rfl,by omega,by omega⟩,?_⟩
   rintro i ⟨h0,h1⟩ _
   refine sel_dec (fun hlt => ?_) (fun hge=>rfl)
   have hi:i.toNat<N.length:=by omega
   have hbm:N[i.toNat]∈N:=List.getElem_mem hi
   obtain ⟨b0,b1⟩:=hr _ hbm
   have hnew:=h.new _ hbm
   have ati:=il_at hi
   generalize N[i.toNat]=b at b0 b1 hnew hbm ati
   have xp:b.toNat<x.pages.length:=by omega
   have wp:b.toNat<w.pages.length:=by omega
   have ex:pgAt x b=x.pages[b.toNat]:=by unfold pgAt;rw[List.getElem?_eq_getElem xp];rfl
   have ew:pgAt w b=w.pages[b.toNat]:=by unfold pgAt;rw[List.getElem?_eq_getElem wp];rfl
   rw[ex,ew]at hnew
   have g57:=(((p57 x.pages[b.toNat] (hs _ (List.getElem_mem xp))).up up2).up up3).up up4
   obtain ⟨k,g,bd,e,hG⟩:=getP_form x.pages[b.toNat]
   rw[hG]at g57
   have g27:=p27' O hO b
   have hok:∀k',(∃s,GetPR x.pages[b.toNat] = .tup [pg k' w.gen s,.n (.int .i64 0)])→e=0∧g=w.gen:=by
     rintro k' ⟨s,h2⟩
     rw[hG]at h2
     unfold pg at h2
     simp only[AV.tup.injEq,List.cons.injEq,AV.agg.injEq,AV.n.injEq,D.int.injEq,true_and,and_true]at h2
     exact ⟨h2.2,h2.1.2.1⟩
   refine ⟨rfl,h0,_,ati,_,rfl,rfl,b0,_,sl_at xp,_,rfl,_,_,_,_,g57,_,g27,?_⟩
   have fin:e=0∧g=w.gen→∀ {A:Prop},A→sel (e != 0) (AV.n (D.bool false) = .n (.bool true)) (sel (g != w.gen) (AV.n (D.bool false) = .n (.bool true)) A):=by
     rintro ⟨rfl,rfl⟩ A a
     exact sel_intro (fun h=>by simp at h) (fun _=>sel_intro (fun h=>by simp at h) (fun _=>a))
   have cont:(0≤i+1∧i+1≤(N.length:Int))∧((N.length:Int) - (i+1)).toNat<((N.length:Int) - i).toNat:=⟨⟨by omega,by omega⟩,by omega⟩
   have ei:IntKind.wrap .i64 (i+1)=i+1:=i64_in _ (by have:Small N.length:=hN;omega)
   refine sel_intro (fun hin=>⟨rfl,b0,_,sl_at xp,_,rfl,rfl,b0,_,sl_at wp,_,rfl,sel_nb (fun hne => ?_) (fun _ => ?_)⟩) (fun hout => ?_)
   · have h2:e=0∧g=w.gen:=by
       rcases hnew with ⟨_,h3⟩|⟨k',h3⟩
       · exact absurd h3 hne
       · exact hok k' h3
     refine fin h2 ?_
     repeat (refine And.intro rfl ?_)
     rw[ei];exact cont
   · repeat (refine And.intro rfl ?_)
     rw[ei];exact cont
   · have h2:e=0∧g=w.gen:=by
       rcases hnew with ⟨h3,_⟩|⟨k',h3⟩
       · exact absurd h3 (by simpa using hout)
       · exact hok k' h3
     refine fin h2 ?_
     repeat (refine And.intro rfl ?_)
     rw[ei];exact cont
theorem t21 (w:Wd) (hf:WFits w) (hn:w.now.length≤2048):∃va vb,Runs Fs4 21 [wdV w] [] (.ptr 2100101 0) (hT (treeW w) va vb):=by
 obtain ⟨va,vb,g⟩:=p21 w hf hn
 exact ⟨va,vb,(g.up up3).up up4⟩
theorem wd0_fits:WFits wd0:=⟨by decide,by decide,by decide,fun s hs=>by cases hs⟩
theorem p20t:Runs Fs4 20 [wdV wd0] [] (.n (.bool true)) []:=by
 have g:=p20 wd0 wd0_fits
 rw[decide_eq_true rfl]at g
 exact g
theorem p18' (w:Wd) (hf:WFits w):Runs Fs4 18 [wdV w] [] (.n (.bool (decide (WRight w)))) []:=((p18 w hf).up up3).up up4
theorem p25t (a b:List Pr) (e:a=b) (ha:Small a.length):Runs Fs4 25 [.o (.sl 2 (psD a)),.o (.sl 2 (psD b))] [] (.n (.bool true)) []:=by
 subst e
 have g:=((p25 a a ha ha).up up3).up up4
 rw[decide_eq_true rfl]at g
 exact g
theorem selT {A B:Prop} (h:A):sel true A B:=h
theorem selF {A B:Prop} (h:B):sel false A B:=h
theorem treeP_small {w:Wd} {h:Nat} {P:List Pr} {B:List Int} (hr:WRight w) (ht:IsTree w h P B):P.length≤100000∧B.length≤2048:=by
 have i:=treeW_inv (wr_now hr)
 rw[tree_full ht]at i
 have h1:=i.ps
 have h2:=i.len
 dsimp only at h1 h2
 exact ⟨by omega,by omega⟩
theorem treeB_rg {w:Wd} {h:Nat} {P:List Pr} {B:List Int} (hr:WRight w) (ht:IsTree w h P B):∀b∈B,10≤b∧b<w.now.length:=(isTree_nodup hr ht).2
abbrev qcD_ (p0:Bool):=
 (Runs Fs4 16 [] [] (aB p0) [])
abbrev qcE_ (p0:Int) (p1 p2 p3:LD) (p4 p5:Int) (p6:Mir.AV→Prop):=
 (∃x9:Bool,((qcD_ x9)∧(sel x9 (sel (p0==1) (∃x10:Bool,((Runs Fs4 20 [(qH_ p1 p2 p3 p4 p5)] [] (aB x10) [])∧(p6 (.n (.bool x10))))) (p6 (.n (.bool false)))) (p6 (.n (.bool false))))))
abbrev qcF_ (p0 p1 p2:LD) (p3 p4:Int) (p5:Mir.AV→Prop):=
 (∃x26:Bool,((qcD_ x26)∧(sel x26 (∃x27:Bool,((Runs Fs4 20 [(qH_ p0 p1 p2 p3 p4)] [] (aB x27) [])∧(sel x27 (p5 (.n (.bool true))) (p5 (.n (.bool false)))))) (p5 (.n (.bool false))))))
abbrev qcH_ (p0 p1 p2:LD) (p3 p4:Int) (p5:Mir.AV→Prop):=
 (∃x36:Bool,((qcD_ x36)∧(sel x36 (∃x37:Bool,((Runs Fs4 20 [(qH_ p0 p1 p2 p3 p4)] [] (aB x37) [])∧(sel x37 (p5 (.n (.bool false))) (p5 (.n (.bool false)))))) (p5 (.n (.bool false))))))
abbrev qcG_ (p0:Int) (p1:Bool) (p2 p3 p4:LD) (p5 p6:Int) (p7:Mir.AV→Prop) (p8 p9 p10:Int):=
 (sel (p0==60) (sel p1 (qcF_ p2 p3 p4 p5 p6 p7) (sel (decide (p8<(IntKind.wrap .i64 ((IntKind.wrap .i64 (2*p9))+1)))) (∃x34:Bool,((qcD_ x34)∧(sel x34 (∃x35:Bool,((Runs Fs4 20 [(qH_ p2 p3 p4 p5 p6)] [] (aB x35) [])∧(sel x35 (p7 (.n (.bool (p10==0)))) (p7 (.n (.bool false)))))) (p7 (.n (.bool false)))))) (qcH_ p2 p3 p4 p5 p6 p7))) (qcH_ p2 p3 p4 p5 p6 p7))
def V3 (a0_0:LD) (a0_1:LD) (a0_2:LD) (a0_3:Int) (a0_4:Int) (a1:ByteArray) (R:Mir.AV→Prop):Prop:=
 (∃x0:Bool,((Runs Fs4 15 [(qH_ a0_0 a0_1 a0_2 a0_3 a0_4)] [] (aB x0) [])∧(sel (Bool.not x0) (∃x1:Bool,((qcD_ x1)∧(R (.n (.bool x1))))) (∃x2:LD,(∃x3:LD,(∃x4:LD,(∃x5:Int,(∃x6:Int,(∃x7:Int,((Runs Fs4 17 [(qH_ a0_0 a0_1 a0_2 a0_3 a0_4),(aS a1)] [] (.tup [(qH_ x2 x3 x4 x5 x6),(aI x7)]) [])∧(∃x8:Bool,((Runs Fs4 18 [(qH_ a0_0 a0_1 a0_2 a0_3 a0_4)] [] (aB x8) [])∧(sel (Bool.not x8) (qcE_ x7 x2 x3 x4 x5 x6 R) (∃x11:Bool,((Runs Fs4 19 [(aS a1)] [] (aB x11) [])∧(sel (Bool.not x11) (qcE_ x7 x2 x3 x4 x5 x6 R) (∃x14:Unit,(∃x15:Nat,(∃x16:Nat,(∃x17:Int,(∃x18:Bool,(∃x19:Nat,(∃x20:LD,(∃x21:Nat,(∃x22:LD,((Runs Fs4 21 [(qH_ a0_0 a0_1 a0_2 a0_3 a0_4)] [] (.ptr 2100101 0) [(qbD_ x15 x16 x17 x18),(hR 2190001 x19 48 2 x20),(hR 2190002 x21 3 1 x22)])∧(x19=x15)∧(∃x23:ByteArray,(∃x24:Int,((Runs Fs4 22 [(.o (Mir.D.sl 2 x20)),(aS a1)] [] (.tup [(aS x23),(aI x24)]) [])∧(sel (x7 != 0) (∃x25:Int,((Runs Fs4 23 (qC_ a0_0 a0_1) [] (aI x25) [])∧(sel (x7==81) (sel x18 (qcF_ x2 x3 x4 x5 x6 R) (sel (x7==80) (sel x18 (qcF_ x2 x3 x4 x5 x6 R) (sel (x24==80) (qcF_ x2 x3 x4 x5 x6 R) (qcG_ x7 x18 x2 x3 x4 x5 x6 R x25 x17 x24))) (qcG_ x7 x18 x2 x3 x4 x5 x6 R x25 x17 x24))) (sel (x7==80) (sel x18 (qcF_ x2 x3 x4 x5 x6 R) (sel (x24==80) (qcF_ x2 x3 x4 x5 x6 R) (qcG_ x7 x18 x2 x3 x4 x5 x6 R x25 x17 x24))) (qcG_ x7 x18 x2 x3 x4 x5 x6 R x25 x17 x24))))) (∃x68:Bool,((Runs Fs4 18 [(qH_ x2 x3 x4 x5 x6)] [] (aB x68) [])∧(sel (Bool.not x68) (R (.n (.bool false))) (∃x69:Bool,((Runs Fs4 24 [(.agg [(aL a0_0),(aL x3),(aL a0_2),(aI 0),(aI a0_4)]),(qH_ x2 x3 x4 x5 x6),(aL []),(aL [])] [] (aB x69) [])∧(sel (Bool.not x69) (R (.n (.bool false))) (sel x18 (∃x70:Bool,((qcD_ x70)∧(R (.n (.bool x70))))) (∃x71:Unit,(∃x72:Nat,(∃x73:Nat,(∃x74:Int,(∃x75:Bool,(∃x76:Nat,(∃x77:LD,(∃x78:Nat,(∃x79:LD,((Runs Fs4 21 [(qH_ x2 x3 x4 x5 x6)] [] (.ptr 2100101 0) [(qbD_ x72 x73 x74 x75),(hR 2190001 x76 48 2 x77),(hR 2190002 x78 3 1 x79)])∧(∃x80:Bool,((qcD_ x80)∧(sel x80 (sel (x24==0) (sel (Bool.not x75) ((x19=x15)∧(∃x81:LD,((Runs Fs4 26 [(.o (Mir.D.sl 2 x20)),(aS a1)] [] (.o (Mir.D.sl 2 x81)) [])∧(x76=x72)∧(∃x82:Bool,((Runs Fs4 25 [(.o (Mir.D.sl 2 x77)),(.o (Mir.D.sl 2 x81))] [] (aB x82) [])∧(sel x82 ((x21=x16)∧(x78=x73)∧(∃x83:Bool,((Runs Fs4 24 [(qH_ a0_0 a0_1 a0_2 a0_3 a0_4),(qH_ x2 x3 x4 x5 x6),(aL x22),(aL x79)] [] (aB x83) [])∧(R (.n (.bool x83)))))) (R (.n (.bool false))))))))) (R (.n (.bool false)))) (R (.n (.bool false)))) (R (.n (.bool false)))))))))))))))))))))))))))))))))))))))))))))))))))))
def V3e (a0_0:LD) (a0_1:LD) (a0_2:LD) (a0_3:Int) (a0_4:Int) (a1:ByteArray) (R:Mir.AV→Prop):=PLift.up (by delta V3 qbD_ qcD_ qcG_ qC_ qcE_ qE_ qH_ qcH_ qcF_;exact rfl:V3 a0_0 a0_1 a0_2 a0_3 a0_4 a1 R=_)
theorem vc3 (a0_0:LD) (a0_1:LD) (a0_2:LD) (a0_3:Int) (a0_4:Int) (a1:ByteArray) (R:Mir.AV→Prop):Vc Fs4 c3.body (argsQ c3 [(.agg [(.o (.sl 1 a0_0)),(.o (.sl 1 a0_1)),(.o (.sl 1 a0_2)),(.n (.int .i64 a0_3)),(.n (.int .i64 a0_4))]),(.n (.str a1))]) [] (endQ c3 R)=V3 a0_0 a0_1 a0_2 a0_3 a0_4 a1 R:=by kernel_rfl
theorem p22 (l:List Pr) (hl:Small l.length) (key:ByteArray):Runs Fs2 22 [.o (.sl 2 (psD l)),.n (.str key)] [] (sduo (refGet l key)) []:=by
 refine vc_eq fs22 rfl ?_
 rw[vc22,(V22e _ _ _).down,psD_len]
 refine ⟨fun i=>0≤i∧i≤l.length∧refGet l key=refGet (l.drop i.toNat) key,fun i=>(l.length - i).toNat,⟨rfl,by omega,by omega,rfl⟩,?_⟩
 rintro i ⟨h0,h1,hinv⟩ _
 refine sel_dec (fun hlt => ?_) (fun hge => ?_)
 · have hi:i.toNat<l.length:=by omega
   rw[List.drop_eq_getElem_cons hi,refGet]at hinv
   refine ⟨rfl,h0,_,psD_at hi,_,_,rfl,Nat.le_refl 2,?_⟩
   rw[beq_dec]
   refine sel_dec (fun h => ?_) (fun h => ?_)
   · rw[hinv,if_pos h];rfl
   · repeat (refine And.intro rfl ?_)
     rw[i64_in _ (by omega)]
     refine ⟨⟨by omega,by omega,?_⟩,by first|omega|(dsimp only;omega)⟩
     rw[hinv,if_neg h,show (i+1).toNat=i.toNat+1 by omega]
 · rw[List.drop_of_length_le (by omega)]at hinv
   rw[hinv];rfl
theorem p3 (w:Wd) (hf:WFits w) (key:ByteArray):Runs Fs4 3 [wdV w,.n (.str key)] [] (.n (.bool true)) []:=by
 have g15:=p15 w
 have g17:=(p17 w hf key).up up4
 have g18:=p18' w hf
 have g19:=p19 key
 refine vc_eq fs3 rfl ?_
 rw[wdV,vc3,(V3e _ _ _ _ _ _ _).down]
 refine ⟨_,g15,?_⟩
 by_cases hs:smallW w
 · rw[decide_eq_true hs]
   refine sel_intro (fun h=>by cases h) (fun _ => ?_)
   by_cases hr:WRight w
   · by_cases hp:isKeyP key
     · rw[decide_eq_true hr]at g18
       rw[decide_eq_true hp]at g19
       have hn:w.now.length≤2048:=wr_now hr
       obtain ⟨va,vb,gt⟩:=t21 w hf hn
       have hTi:=treeW_inv hn
       have hTl:=hTi.len
       have hTp:=hTi.ps
       have g22:=((p22 (treeW w).ps (by show ((List.length _:Nat):Int)≤_;omega) key).up up3).up up4
       have g23:=p23 w hr.1
       have hkeep:∀x:Wd,WRight x→x.base=w.base→x.gen=w.gen→x.now.length=w.now.length→x.pages.length=w.pages.length→(∀b:Int,0≤b→tr w.base b.toNat=true→pgAt x b=pgAt w b) →
           Runs Fs4 24 [wdV ⟨w.base,x.now,w.pages,0,w.gen⟩,wdV x,.o (.sl 1 (il [])),.o (.sl 1 (il []))] [] (.n (.bool true)) []:=fun x hx h1 h2 h3 h4 h5=>
         p24 ⟨w.base,x.now,w.pages,0,w.gen⟩ x [] [] (keeps_any h1 h2 h3 h4 h5) (by have:=hr.1.1;dsimp only;omega) (by have:=hr.2.1;dsimp only;omega) (by have:=wr_now hx;exact this) (wr_fits hx).s (by decide) (by decide) (fun b hb=>by cases hb)
       by_cases hb:(treeW w).bad=true
       · rcases delW_any hr hp with (e|e|e)|⟨x,e,hx,h1,h2,h3,h4,h5⟩
         · rw[e]at g17
           refine ⟨_,_,_,_,_,_,g17,_,g18,selF ⟨_,g19,selF ⟨(),_,_,_,_,_,_,_,_,gt,rfl,_,_,g22,selT ⟨_,g23,selF (selF (selT ?_))⟩⟩⟩⟩
           rw[hb];exact selT ⟨_,p16,selT ⟨_,p20t,selT rfl⟩⟩
         · rw[e]at g17
           refine ⟨_,_,_,_,_,_,g17,_,g18,selF ⟨_,g19,selF ⟨(),_,_,_,_,_,_,_,_,gt,rfl,_,_,g22,selT ⟨_,g23,selF (selT ?_)⟩⟩⟩⟩
           rw[hb];exact selT ⟨_,p16,selT ⟨_,p20t,selT rfl⟩⟩
         · rw[e]at g17
           refine ⟨_,_,_,_,_,_,g17,_,g18,selF ⟨_,g19,selF ⟨(),_,_,_,_,_,_,_,_,gt,rfl,_,_,g22,selT ⟨_,g23,selT ?_⟩⟩⟩⟩
           rw[hb];exact selT ⟨_,p16,selT ⟨_,p20t,selT rfl⟩⟩
         · rw[e]at g17
           have gx:=p18' x (wr_fits hx)
           rw[decide_eq_true hx]at gx
           refine ⟨_,_,_,_,_,_,g17,_,g18,selF ⟨_,g19,selF ⟨(),_,_,_,_,_,_,_,_,gt,rfl,_,_,g22,selF ⟨_,gx,selF ⟨_,hkeep x hx h1 h2 h3 h4 h5,selF ?_⟩⟩⟩⟩⟩
           rw[hb];exact selT ⟨_,p16,rfl⟩
       · have hb:(treeW w).bad=false:=by simpa using hb
         obtain ⟨h,P,B,ht,eT⟩:=tree_sound hb
         obtain ⟨hP,hB⟩:=treeP_small hr ht
         have hlow:=isTree_low hr ht
         rw[eT]at gt g22
         dsimp only at g22
         rcases delW_tree hr hp ht with ⟨hno,e⟩|⟨⟨q,hq1,hq2⟩,⟨e,hc⟩|⟨x,e,hx,_,h',B',W,hq,_,hx'⟩⟩
         · rw[e]at g17
           rw[refGet_no hno]at g22
           exact ⟨_,_,_,_,_,_,g17,_,g18,selF ⟨_,g19,selF ⟨(),_,_,_,_,_,_,_,_,gt,rfl,_,_,g22,selT ⟨_,g23,selF (selT (selF (selT ⟨_,p16,selT ⟨_,p20t,selT rfl⟩⟩)))⟩⟩⟩⟩
         · rw[e]at g17
           have eg:refGet P key=(q.2,0):=by rw[←hq2];exact refGet_in (isTree_incP ht) hq1
           rw[eg]at g22
           refine ⟨_,_,_,_,_,_,g17,_,g18,selF ⟨_,g19,selF ⟨(),_,_,_,_,_,_,_,_,gt,rfl,_,_,g22,selT ⟨_,g23,selF (selF (selT (selF ?_)))⟩⟩⟩⟩
           dsimp only
           rw[i64_in (2*(h:Int)) (by omega),i64_in _ (by omega),decide_eq_true (by omega)]
           exact selT ⟨_,p16,selT ⟨_,p20t,selT rfl⟩⟩
         · rw[e]at g17
           have eg:refGet P key=(q.2,0):=by rw[←hq2];exact refGet_in (isTree_incP ht) hq1
           rw[eg]at g22
           have gx:=p18' x (wr_fits hx)
           rw[decide_eq_true hx]at gx
           obtain ⟨xa,xb,gtx⟩:=t21 x (wr_fits hx) (wr_now hx)
           rw[tree_full hx']at gtx
           obtain ⟨hP',hB'⟩:=treeP_small hx hx'
           have hpg:∀b:Int,0≤b→tr w.base b.toNat=true→pgAt x b=pgAt w b:=fun b h0 htb=>hq.page b h0 fun hW=>by
            have:=(hq.wr b hW).2.2.2.1
            rw[this]at htb;cases htb
           have g24:=hkeep x hx hq.base hq.gen hq.nlen hq.plen hpg
           have k24:=p24 w x B B' (keeps_of hr hq (fun b hb=>(treeB_rg hx hx' b hb).1)) hr.1.1 hr.2.1 hn (wr_fits hx).s (by omega) (by omega) (fun b hb=>by
            have:=treeB_rg hx hx' b hb
            have:=hq.nlen
            dsimp only at this
            omega)
           have g26:=p26 P (by omega) key
           rw[wioR_ok (isTree_incP ht)]at g26
           have g25:=p25t (wioP key P) (wioP key P) rfl (by omega)
           exact ⟨_,_,_,_,_,_,g17,_,g18,selF ⟨_,g19,selF ⟨(),_,_,_,_,_,_,_,_,gt,rfl,_,_,g22,selF ⟨_,gx,selF ⟨_,g24,selF (selF ⟨(),_,_,_,_,_,_,_,_,gtx,_,p16,selT (selT (selT ⟨rfl,_,g26,rfl,_,g25,selT ⟨rfl,rfl,_,k24,rfl⟩⟩))⟩)⟩⟩⟩⟩⟩
     · have e:delW w key=(wd0,1):=by rw[delW,if_pos (fun h=>hp h.2)]
       rw[e]at g17
       rw[decide_eq_true hr]at g18
       rw[decide_eq_false hp]at g19
       exact ⟨_,_,_,_,_,_,g17,_,g18,selF ⟨_,g19,selT ⟨_,p16,selT (selT ⟨_,p20t,rfl⟩)⟩⟩⟩
   · have e:delW w key=(wd0,1):=by rw[delW,if_pos (fun h=>hr h.1)]
     rw[e]at g17
     rw[decide_eq_false hr]at g18
     exact ⟨_,_,_,_,_,_,g17,_,g18,selT ⟨_,p16,selT (selT ⟨_,p20t,rfl⟩)⟩⟩
 · rw[decide_eq_false hs]
   exact selT ⟨_,p16,rfl⟩
theorem p3x (x:wdT.T) (h:wdT.fit x) (key:ByteArray):Runs Fs4 3 [wdT.av x,.n (.str key)] [] (.n (.bool true)) []:=by
 rw[wd_av];exact p3 (toWd x) (wd_fit x h) key
end Go.Proofs.YtclgengkohbjjaaGreatDoor.M
