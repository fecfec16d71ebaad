import Derived.Test.YtclgengkohbjjaaGreatDoorR4EdY
namespace Go.Proofs.YtclgengkohbjjaaGreatDoor.M
set_option linter.unusedVariables false
set_option linter.unusedSimpArgs false
open Go Go.Mir
set_option linter.unusedVariables false
theorem p58 (key val:ByteArray):Runs Fs3 58 [.n (.str key),.n (.str val)] [] (.n (.bool (decide (isPair key val)))) []:=by
 refine vc_eq fs58 rfl ?_
 rw[vc58,V58]
 refine sel_dec (fun h1=>sel_dec (fun h2 => ?_) (fun h2 => ?_)) (fun h1 => ?_)
 · congr 2
   rw[decide_eq_decide,isPair]
   omega
 · rw[decide_eq_false (by unfold isPair;omega)]
 · rw[decide_eq_false (by unfold isPair;omega)]
theorem ff_root (w:Wd) (r:Int) (i:Nat):ffUp { w with root:=r } i=ffUp w i:=by
 induction i with
 | zero=>rfl
 | succ i ih=>
   simp only[ffUp,ih]
   rfl
theorem store_root (e:Ed) (r:Int) (n:Nd):storeE { e with w := { e.w with root:=r } } n=((storeE e n).1,{ (storeE e n).2 with w := { (storeE e n).2.w with root:=r } }):=by
 unfold storeE
 dsimp only
 split
 · rfl
 · split
   · rfl
   · rw[show firstFree { e.w with root:=r } = firstFree e.w from ff_root e.w r _]
     cases firstFree e.w <;> rfl
theorem wr_root {w:Wd} {r:Int} (h:WRight w) (hr:r=0∨(10≤r∧r<w.now.length)):WRight { w with root:=r }:=⟨h.1,h.2.1,h.2.2.1,h.2.2.2.1,hr,h.2.2.2.2.2⟩
theorem p30 (w:Wd) (hf:WFits w) (key val:ByteArray):Runs Fs3 30 [wdV w,.n (.str key),.n (.str val)] [] (wuo (putW w key val)) []:=by
 have g1:=(p48 w hf).up up3
 have g2:=p58 key val
 refine vc_eq fs30 rfl ?_
 rw[wdV,vc30,(V30e _ _ _ _ _ _ _ _).down]
 refine ⟨_,g1,?_⟩
 by_cases hr:WRight w
 · rw[decide_eq_true hr]
   refine sel_intro (fun h=>by cases h) (fun _=>⟨_,g2,?_⟩)
   by_cases hp:isPair key val
   · rw[decide_eq_true hp]
     refine sel_intro (fun h=>by cases h) (fun _ => ?_)
     have hlen:w.pages.length≤100000:=by have:=hr.2.1;have:=hr.1.2.2.1;omega
     have hI:=Inv.start hr
     rw[putW,if_neg (by simpa using ⟨hr,hp⟩)]
     refine ⟨(),_,_,_,_,_,_,_,_,p50 w hlen,sel_intro (fun h0 => ?_) (fun h0 => ?_)⟩
     · have h0:w.root=0:=by simpa using h0
       rw[putR,if_pos h0]
       have c1:=p52 ⟨w,0⟩ 0 (fun _=>hr) ⟨true,[key],[val],[]⟩ ⟨by simp,by simp,by simp⟩
       have c2:=p53 (setRoot (storeE ⟨w,0⟩ ⟨true,[key],[val],[]⟩)) 0
       exact ⟨rfl,rfl,_,_,_,_,_,_,_,_,_,c1,_,_,_,_,_,_,_,_,_,_,_,_,_,_,_,c2,rfl⟩
     · have h0:w.root≠0:=by simpa using h0
       have c1:=p59 key val 9 ⟨w,0⟩ 0 w.root 1 (by omega) (by omega) (by omega) hI
       obtain ⟨q1,q2⟩:=put_inv (key:=key) (val:=val) 9 ⟨w,0⟩ w.root 1 hI
       rw[putR,if_neg h0]
       dsimp only
       generalize putE key val 9 ⟨w,0⟩ w.root 1=r at c1 q1 q2 ⊢
       obtain ⟨s,e1⟩:=r
       dsimp only at c1 q1 q2 ⊢
       refine ⟨_,_,_,_,_,_,_,_,_,_,_,_,_,_,c1,sel_intro (fun ht => ?_) (fun ht => ?_)⟩
       · rw[if_pos ht]
         have hl:(setRoot (s.left,e1)).bad=0→WRight (setRoot (s.left,e1)).w:=fun hb=>wr_root q1.right (.inr (by
          have:=(q2 hb).1
          have h2:=q1.nlen
          unfold Blk at this
          show 10≤s.left∧s.left<(e1.w.now.length:Int)
          omega))
         have c2:=p52 (setRoot (s.left,e1)) 0 hl ⟨false,[s.key],[],[s.left,s.right]⟩ ⟨by simp,by simp,by simp⟩
         have e3:storeE (setRoot (s.left,e1)) ⟨false,[s.key],[],[s.left,s.right]⟩=_:=store_root e1 s.left ⟨false,[s.key],[],[s.left,s.right]⟩
         rw[e3]at c2
         have c3:=p53 (setRoot (storeE e1 ⟨false,[s.key],[],[s.left,s.right]⟩)) 0
         exact ⟨rfl,rfl,_,_,_,_,_,_,_,_,_,c2,_,_,_,_,_,_,_,_,_,_,_,_,_,_,_,c3,rfl⟩
       · rw[if_neg (by rw[ht];simp)]
         have c3:=p53 (setRoot (s.left,e1)) 0
         exact ⟨_,_,_,_,_,_,_,_,_,_,_,_,_,_,_,c3,rfl⟩
   · rw[decide_eq_false hp]
     refine sel_intro (fun _ => ?_) (fun h=>by cases h)
     rw[putW,if_pos (fun h=>hp h.2)];rfl
 · rw[decide_eq_false hr]
   refine sel_intro (fun _ => ?_) (fun h=>by cases h)
   rw[putW,if_pos (fun h=>hr h.1)];rfl
theorem sl_del (l:List ByteArray) (a b:Nat):(sl_ l).take a++(sl_ l).drop b=sl_ (l.take a++l.drop b):=by simp[sl_,List.map_take,List.map_drop]
theorem il_del (l:List Int) (a b:Nat):(il l).take a++(il l).drop b=il (l.take a++l.drop b):=by simp[il,List.map_take,List.map_drop]
theorem del_s {i1 v:Nat} (l:List ByteArray) (k:Nat) (hk:k<l.length) {H:Heap} (h1:H.get i1=some (.row false false v 9 1 (sl_ l))):
  Runs Fs3 101 [.row i1 v,.n (.int .i64 k),.n (.int .i64 (k+1:Nat))] H (.row i1 (v+1)) (H.ins i1 (.row false false (v+1) 9 1 (sl_ (delAt l k)))):=by
 refine upd_runs fs101 h1 (els':=sl_ (delAt l k)) (r:=[.n (.int .i64 k),.n (.int .i64 (k+1:Nat))]) ?_
 simp only[delL]
 rw[if_pos ⟨by omega,by omega,by rw[sl_len];omega,by intro h;have:=congrArg List.length h;rw[sl_len]at this;have h0:l.length=0:=this;omega⟩,show Int.toNat (k:Int)=k from rfl,show Int.toNat ((k+1:Nat):Int)=k+1 from rfl,sl_del,delAt]
theorem del_i {i1 v:Nat} (l:List Int) (k:Nat) (hk:k<l.length) {H:Heap} (h1:H.get i1=some (.row false false v 3 1 (il l))):
  Runs Fs3 104 [.row i1 v,.n (.int .i64 k),.n (.int .i64 (k+1:Nat))] H (.row i1 (v+1)) (H.ins i1 (.row false false (v+1) 3 1 (il (delAt l k)))):=by
 refine upd_runs fs104 h1 (els':=il (delAt l k)) (r:=[.n (.int .i64 k),.n (.int .i64 (k+1:Nat))]) ?_
 simp only[delL]
 rw[if_pos ⟨by omega,by omega,by rw[il_len];omega,by intro h;have:=congrArg List.length h;rw[il_len]at this;have h0:l.length=0:=this;omega⟩,show Int.toNat (k:Int)=k from rfl,show Int.toNat ((k+1:Nat):Int)=k+1 from rfl,il_del,delAt]
def Shp (n:Nd):Prop:=n.keys.length≤8∧((n.leaf=true∧n.vals.length=n.keys.length∧n.kids=[])∨(n.leaf=false∧n.vals=[]∧n.kids.length=n.keys.length+1))
theorem shp_of {n:Nd} (hs:Stands n) (h8:n.keys.length≤8):Shp n:=by
 refine ⟨h8,?_⟩
 cases hl:n.leaf with
 | true=>exact .inl ⟨rfl,(st_leaf hs hl).2,(st_leaf hs hl).1⟩
 | false=>exact .inr ⟨rfl,(st_inner hs hl).1,(st_inner hs hl).2⟩
theorem Shp.lens {n:Nd} (h:Shp n):n.keys.length≤8∧n.vals.length≤8∧n.kids.length≤9:=by
 obtain ⟨h8,⟨_,h1,h2⟩|⟨_,h1,h2⟩⟩:=h
 · rw[h2];exact ⟨h8,by omega,by simp⟩
 · rw[h1];exact ⟨h8,by simp,by omega⟩
theorem Shp.fits {n:Nd} (h:Shp n):NdFits n:=by
 obtain ⟨h1,h2,h3⟩:=h.lens
 exact ⟨by omega,by omega,by omega⟩
theorem Shp.leaf {n:Nd} (h:Shp n) (hl:n.leaf=true):n.vals.length=n.keys.length∧n.kids=[]:=by
 rcases h.2 with ⟨_,h1,h2⟩|⟨h0,_⟩
 · exact ⟨h1,h2⟩
 · rw[hl]at h0;cases h0
theorem Shp.inner {n:Nd} (h:Shp n) (hl:n.leaf=false):n.vals=[]∧n.kids.length=n.keys.length+1:=by
 rcases h.2 with ⟨h0,_⟩|⟨_,h1,h2⟩
 · rw[hl]at h0;cases h0
 · exact ⟨h1,h2⟩
theorem p73 (n:Nd) (i:Nat) (hi:i<n.keys.length) (hv:n.vals.length=n.keys.length) (hl:n.keys.length≤1000):Runs Fs3 73 [ndV n,.n (.int .i64 i)] [] (ndV (witN n i)) []:=by
 refine vc_eq fs73 rfl ?_
 rw[ndV,vc73,(V73e _ _ _ _ _ _).down,i64_in ((i:Int)+1) (by omega)]
 refine ⟨_,_,clone_runs fs70 (sl_ n.keys) (by rw[sl_len];omega),_,del_s n.keys i hi rfl,_,_,clone_runs fs70 (sl_ n.vals) (by rw[sl_len];omega),_,del_s n.vals i (by omega) rfl,rfl,rfl,?_⟩
 rfl
theorem p140_2 (a b:List ByteArray) (h:a.length+b.length≤1000):Runs Fs3 140 [.o (.sl 1 [.sl 1 (sl_ a),.sl 1 (sl_ b)])] [] (.o (.sl 1 (sl_ (a++b)))) []:=by
 have:=p140 [sl_ a,sl_ b] (by simp) (by simp[sl_len];omega)
 simpa[sl_app] using this
theorem p141_2 (a b:List Int) (h:a.length+b.length≤1000):Runs Fs3 141 [.o (.sl 1 [.sl 1 (il a),.sl 1 (il b)])] [] (.o (.sl 1 (il (a++b)))) []:=by
 have:=p141 [il a,il b] (by simp) (by simp[il_len];omega)
 simpa[il_app] using this
theorem p140_3 (a b c:List ByteArray) (h:a.length+b.length+c.length≤1000):Runs Fs3 140 [.o (.sl 1 [.sl 1 (sl_ a),.sl 1 (sl_ b),.sl 1 (sl_ c)])] [] (.o (.sl 1 (sl_ (a++(b++c))))) []:=by
 have:=p140 [sl_ a,sl_ b,sl_ c] (by simp) (by simp[sl_len];omega)
 simpa[sl_app] using this
def EvenV (a:Nd) (k:ByteArray) (b:Nd):AV := .tup [ndV (splL (joinN a k b) (cutAt a b)),.n (.str (splK (joinN a k b) (cutAt a b))),ndV (splR (joinN a k b) (cutAt a b))]
theorem p105 (a:Nd) (k:ByteArray) (b:Nd) (ha:Shp a) (hb:Shp b) (hab:a.leaf=b.leaf) (hx:b.keys.length<a.keys.length∨2≤b.keys.length):Runs Fs3 105 [ndV a,.n (.str k),ndV b] [] (EvenV a k b) []:=by
 obtain ⟨a1,a2,a3⟩:=ha.lens
 obtain ⟨b1,b2,b3⟩:=hb.lens
 refine vc_eq fs105 rfl ?_
 rw[ndV,ndV,vc105,(V105e _ _ _ _ _ _ _ _ _ _).down,sl_len,sl_len]
 refine ⟨rfl,_,p140_2 a.keys b.keys (by omega),?_⟩
 have tail:∀c:Nat,cutAt a b=c→c<a.keys.length+b.keys.length →
     (a.leaf=true→((0=0)∧(∃x1:LD,Runs Fs3 140 [aL [.sl 1 (sl_ a.vals),.sl 1 (sl_ b.vals)]] [] (aL x1) []∧(rn 1)∧((0:Int)≤c)∧((c:Int)≤((sl_ (a.keys++b.keys)).length:Int))∧((0:Int)≤c)∧((c:Int)≤((Int.toNat (c:Int):Nat):Int))∧(rn 1)∧((0:Int)≤c)∧((c:Int)≤(x1.length:Int))∧((0:Int)≤c)∧((c:Int)≤((Int.toNat (c:Int):Nat):Int))∧(rn 1)∧((0:Int)≤c) ∧
       (∃x2:Mir.D,((sl_ (a.keys++b.keys))[Int.toNat (c:Int)]?=some x2)∧(∃x3:ByteArray,((D.cells x2)[0]?=some (Mir.D.str x3))∧(rn 1)∧((0:Int)≤c)∧((c:Int)≤((sl_ (a.keys++b.keys)).length:Int))∧(rn 1)∧((0:Int)≤c)∧((c:Int)≤(x1.length:Int)) ∧
         (.tup [(.agg [(.n (.bool true)),(.o (.sl 1 (List.drop 0 (List.take (Int.toNat (c:Int)) (sl_ (a.keys++b.keys)))))),(.o (.sl 1 (List.drop 0 (List.take (Int.toNat (c:Int)) x1)))),(.o (.sl 1 []))]),(.n (.str x3)),(.agg [(.n (.bool true)),(.o (.sl 1 (List.drop (Int.toNat (c:Int)) (List.take (List.length (sl_ (a.keys++b.keys))) (sl_ (a.keys++b.keys)))))),(.o (.sl 1 (List.drop (Int.toNat (c:Int)) (List.take (List.length x1) x1)))),(.o (.sl 1 []))])]:AV)=EvenV a k b))))) ∧
     (a.leaf=false→((0=0)∧(∃x4:LD,Runs Fs3 140 [aL [.sl 1 (sl_ a.keys),.sl 1 [.str k],.sl 1 (sl_ b.keys)]] [] (aL x4) []∧(0=0)∧(∃x5:LD,Runs Fs3 141 [aL [.sl 1 (il a.kids),.sl 1 (il b.kids)]] [] (aL x5) []∧(rn 1)∧((0:Int)≤c)∧((c:Int)≤(x4.length:Int))∧((0:Int)≤c)∧((c:Int)≤((Int.toNat (c:Int):Nat):Int))∧(rn 1)∧((0:Int)≤((c+1:Nat):Int))∧(((c+1:Nat):Int)≤(x5.length:Int))∧((0:Int)≤((c+1:Nat):Int))∧(((c+1:Nat):Int)≤((Int.toNat ((c+1:Nat):Int):Nat):Int))∧(rn 1)∧((0:Int)≤c) ∧
       (∃x6:Mir.D,(x4[Int.toNat (c:Int)]?=some x6)∧(∃x7:ByteArray,((D.cells x6)[0]?=some (Mir.D.str x7))∧(rn 1)∧((0:Int)≤((c+1:Nat):Int))∧(((c+1:Nat):Int)≤(x4.length:Int))∧(rn 1)∧((0:Int)≤((c+1:Nat):Int))∧(((c+1:Nat):Int)≤(x5.length:Int)) ∧
         (.tup [(.agg [(.n (.bool false)),(.o (.sl 1 (List.drop 0 (List.take (Int.toNat (c:Int)) x4)))),(.o (.sl 1 [])),(.o (.sl 1 (List.drop 0 (List.take (Int.toNat ((c+1:Nat):Int)) x5))))]),(.n (.str x7)),(.agg [(.n (.bool false)),(.o (.sl 1 (List.drop (Int.toNat ((c+1:Nat):Int)) (List.take (List.length x4) x4)))),(.o (.sl 1 [])),(.o (.sl 1 (List.drop (Int.toNat ((c+1:Nat):Int)) (List.take (List.length x5) x5))))])]:AV)=EvenV a k b)))))):=by
   intro c hc hlt
   have ec:∀j:Nat,Int.toNat (j:Int)=j:=fun j=>rfl
   refine ⟨fun hl => ?_,fun hl => ?_⟩
   · obtain ⟨x1,x2⟩:=ha.leaf hl
     obtain ⟨y1,y2⟩:=hb.leaf (hab▸hl)
     have hck:c<(a.keys++b.keys).length:=by rw[List.length_append];omega
     have hlen1:(sl_ (a.keys++b.keys)).length=a.keys.length+b.keys.length:=by rw[sl_len,List.length_append]
     have hlen2:(sl_ (a.vals++b.vals)).length=a.keys.length+b.keys.length:=by rw[sl_len,List.length_append];omega
     refine ⟨rfl,_,p140_2 a.vals b.vals (by omega),rfl,by omega,by omega,by omega,by rw[ec];omega,rfl,by omega,by omega,by omega,by rw[ec];omega,rfl,by omega,_,sl_at hck,_,rfl,rfl,by omega,by omega,rfl,by omega,by omega,?_⟩
     rw[ec,List.take_of_length_le (l:=sl_ (a.keys++b.keys)) (Nat.le_refl _),List.take_of_length_le (l:=sl_ (a.vals++b.vals)) (Nat.le_refl _),List.drop_zero,List.drop_zero,sl_tk,sl_tk,sl_drop,sl_drop,EvenV,hc]
     have ej:joinN a k b=⟨true,a.keys++b.keys,a.vals++b.vals,[]⟩:=by rw[joinN,if_pos hl]
     rw[ej,splL,splR,splK,if_pos rfl,if_pos rfl]
     dsimp only
     rw[List.getElem?_eq_getElem hck]
     rfl
   · obtain ⟨x1,x2⟩:=ha.inner hl
     obtain ⟨y1,y2⟩:=hb.inner (hab▸hl)
     have hck:c<(a.keys++([k]++b.keys)).length:=by simp only[List.length_append,List.length_singleton];omega
     have hlen1:(sl_ (a.keys++([k]++b.keys))).length=a.keys.length+b.keys.length+1:=by rw[sl_len];simp only[List.length_append,List.length_singleton];omega
     have hlen2:(il (a.kids++b.kids)).length=a.keys.length+b.keys.length+2:=by rw[il_len,List.length_append];omega
     refine ⟨rfl,_,p140_3 a.keys [k] b.keys (by simp only[List.length_singleton];omega),rfl,_,p141_2 a.kids b.kids (by omega),rfl,by omega,by omega,by omega,by rw[ec];omega,rfl,by omega,by omega,by omega,by rw[ec];omega,rfl,by omega,_,sl_at hck,_,rfl,rfl,by omega,by omega,rfl,by omega,by omega,?_⟩
     rw[ec,ec,List.take_of_length_le (l:=sl_ (a.keys++([k]++b.keys))) (Nat.le_refl _),List.take_of_length_le (l:=il (a.kids++b.kids)) (Nat.le_refl _),List.drop_zero,List.drop_zero,sl_tk,il_tk,sl_drop,il_drop,EvenV,hc]
     have ej:joinN a k b=⟨false,a.keys++k :: b.keys,[],a.kids++b.kids⟩:=by rw[joinN,if_neg (by rw[hl];simp)]
     rw[ej,splL,splR,splK,if_neg (by simp),if_neg (by simp)]
     dsimp only
     rw[List.getElem?_eq_getElem (l:=a.keys++k :: b.keys) hck]
     rfl
 refine sel_dec (fun h => ?_) (fun h => ?_)
 · have hc:cutAt a b=a.keys.length - 1:=if_pos (by omega)
   obtain ⟨t1,t2⟩:=tail _ hc (by omega)
   have e1:IntKind.wrap .i64 ((a.keys.length:Int) - 1)=((a.keys.length - 1:Nat):Int):=by rw[i64_in _ (by omega)];omega
   rw[e1,show IntKind.wrap .i64 (((a.keys.length - 1:Nat):Int)+1)=((a.keys.length - 1+1:Nat):Int) by rw[i64_in _ (by omega)];omega]
   exact sel_intro t1 t2
 · have hc:cutAt a b=a.keys.length+1:=if_neg (by omega)
   obtain ⟨t1,t2⟩:=tail _ hc (by omega)
   have e1:IntKind.wrap .i64 ((a.keys.length:Int)+1)=((a.keys.length+1:Nat):Int):=by rw[i64_in _ (by omega)];omega
   rw[e1,show IntKind.wrap .i64 (((a.keys.length+1:Nat):Int)+1)=((a.keys.length+1+1:Nat):Int) by rw[i64_in _ (by omega)];omega]
   exact sel_intro t1 t2
theorem set_del {α:Type} {l:List α} {i:Nat} {c:α} (h:i+1<l.length):delAt (l.set i c) (i+1)=l.take i++c :: l.drop (i+2):=by
 rw[delAt,take_snoc (by rw[List.length_set];omega),List.getElem_set_self,List.take_set_of_le (Nat.le_refl _),List.drop_set_of_lt (by omega),List.append_assoc];rfl
theorem set_two {α:Type} {l:List α} {i:Nat} {c s:α} (h:i+1<l.length):(l.set i c).set (i+1) s=l.take i++c :: s :: l.drop (i+2):=by
 rw[set_right (c:=c) (by rw[List.getElem?_set_self (by omega)]) (by rw[List.length_set];omega),List.take_set_of_le (Nat.le_refl _),List.drop_set_of_lt (by omega)]
theorem joinN_fits {a b:Nd} (k:ByteArray) (ha:Shp a) (hb:Shp b):NdFits (joinN a k b)∧(joinN a k b).keys.length≤17∧(joinN a k b).vals.length≤16∧(joinN a k b).kids.length≤18:=by
 obtain ⟨a1,a2,a3⟩:=ha.lens
 obtain ⟨b1,b2,b3⟩:=hb.lens
 have key:(joinN a k b).keys.length≤17∧(joinN a k b).vals.length≤16∧(joinN a k b).kids.length≤18:=by
  unfold joinN
  split
  · refine ⟨?_,?_,?_⟩ <;> (dsimp only;simp only[List.length_append,List.length_cons,List.length_nil];omega)
  · refine ⟨?_,?_,?_⟩ <;> (dsimp only;simp only[List.length_append,List.length_cons,List.length_nil];omega)
 exact ⟨⟨by omega,by omega,by omega⟩,key⟩
theorem spl_fits {n:Nd} (h:NdFits n∧n.keys.length≤17∧n.vals.length≤16∧n.kids.length≤18) (c:Nat):NdFits (splL n c)∧NdFits (splR n c):=by
 obtain ⟨_,h1,h2,h3⟩:=h
 unfold splL splR
 refine ⟨?_,?_⟩
 · split <;> refine ⟨?_,?_,?_⟩ <;> (dsimp only;simp only[List.length_take,List.length_nil];omega)
 · split <;> refine ⟨?_,?_,?_⟩ <;> (dsimp only;simp only[List.length_drop,List.length_nil];omega)
def hP (key:ByteArray) (e:Ed) (v:Nat):Heap:=(1700504,.box [.ptr 5000202 0,.n (.str key)]) :: hE e v
def hF (key:ByteArray) (e:Ed) (v:Nat) (fz:Bool) (a b:Nat) (K C:List D):Heap:=(1700504,.box [.ptr 5000202 0,.n (.str key)]) :: (hE e v++[(5151502,.row fz false a 9 1 K),(5151505,.row fz false b 3 1 C)])
theorem p102 (key:ByteArray) (e:Ed) (v:Nat):Runs Fs3 102 [.ptr 1700504 0] (hP key e v) (.tup []) (hP key (failE e) v):=by
 refine vc_mut fs102 rfl (by kernel_rfl) ?_
 unfold hP hE hEz
 rw[vc102h,(V102he _ _ _ _ _ _ _ _ _).down]
 refine sel_intro (fun h => ?_) (fun h => ?_)
 · rw[failE,if_pos (by simpa using h)]
   exact ⟨rfl,rfl⟩
 · rw[failE,if_neg (by simpa using h)]
   exact ⟨rfl,rfl⟩
set_option maxRecDepth 100000 in
set_option maxHeartbeats 8000000 in
theorem p75 {w0:Wd} (key:ByteArray) (e:Ed) (v:Nat) (hI:Inv w0 e) (n:Nd) (hn:Shp n) (hnl:n.leaf=false) (hnk:1≤n.keys.length) (i:Nat) (hi:i≤n.keys.length) (kid:Nd) (hk:Shp kid) (hk4:kid.keys.length<4) (d:Int) (hd:1≤d∧d≤100):
  ∃fz a b K C,Runs Fs3 75 [.ptr 1700504 0,.agg [.n (.bool n.leaf),.row 5151502 0,.o (.sl 1 (sl_ n.vals)),.row 5151505 0],.n (.int .i64 i),ndV kid,.n (.int .i64 d)] (hF key e v false 0 0 (sl_ n.keys) (il n.kids)) (ndV (fillE e n i kid d).1) (hF key (fillE e n i kid d).2 v fz a b K C):=by
 have main:∃r H',Runs Fs3 75 [.ptr 1700504 0,.agg [.n (.bool n.leaf),.row 5151502 0,.o (.sl 1 (sl_ n.vals)),.row 5151505 0],.n (.int .i64 i),ndV kid,.n (.int .i64 d)] (hF key e v false 0 0 (sl_ n.keys) (il n.kids)) r H'∧(r=ndV (fillE e n i kid d).1∧∃fz a b K C,H'=hF key (fillE e n i kid d).2 v fz a b K C):=by
  refine vc_objs (R:=fun r H'=>r=ndV (fillE e n i kid d).1∧∃fz a b K C,H'=hF key (fillE e n i kid d).2 v fz a b K C) fs75 rfl (by kernel_rfl) ?_
  obtain ⟨n1,n2⟩:=hn.inner hnl
  obtain ⟨n3,_,n4⟩:=hn.lens
  obtain ⟨m1,m2,m3⟩:=hk.lens
  have hlk:i - 1<n.keys.length:=by omega
  have eL:mmI true (IntKind.wrap .i64 ((i:Int) - 1)) 0=((i - 1:Nat):Int):=by
    rw[i64_in _ (by omega)]
    unfold mmI
    simp only[if_true]
    split <;> omega
  rw[ndV]
  show Vc Fs3 c75.body _ [(1700504,.box [.ptr 5000202 0,.n (.str key)]),(5000202,.box [.o (.sl 1 (blD e.w.base)),.o (.sl 1 (blD e.w.now)),.row 5050102 v,.n (.int .i64 e.w.root),.n (.int .i64 e.w.gen),.n (.int .i64 e.bad)]),(5050102,.row false false v 9 1 (sl_ e.w.pages)),(5151502,.row false false 0 9 1 (sl_ n.keys)),(5151505,.row false false 0 3 1 (il n.kids))] (endQH c75 [(1700504,.box [.ptr 5000202 0,.n (.str key)]),(5000202,.box [.o (.sl 1 (blD e.w.base)),.o (.sl 1 (blD e.w.now)),.row 5050102 v,.n (.int .i64 e.w.root),.n (.int .i64 e.w.gen),.n (.int .i64 e.bad)]),(5050102,.row false false v 9 1 (sl_ e.w.pages)),(5151502,.row false false 0 9 1 (sl_ n.keys)),(5151505,.row false false 0 3 1 (il n.kids))] _)
  rw[vc75h,(V75he _ _ _ _ _ _ _ _ _ _ _ _ _ _ _ _ _ _ _ _ _).down,eL]
  have e1:IntKind.wrap .i64 ((i:Int)+1)=((i+1:Nat):Int):=by rw[i64_in _ (by omega)];omega
  have e3:(d+1==1)=false:=by simp;omega
  rw[e1,i64_in (d+1) (by omega)]
  unfold fillE
  dsimp only
  refine sel_intro (fun hli => ?_) (fun hli => ?_)
  · have hli':i - 1=i:=by have:=eq_of_beq hli;omega
    have hic:i+1<n.kids.length:=by omega
    rw[if_pos hli',if_pos hli']
    rw[List.getElem?_eq_getElem hic,Option.getD_some]
    have c1:=p71 e v hI.right n.kids[i+1] (d+1)
    obtain ⟨l1,l2⟩:=load_inv (b:=n.kids[i+1]) (d:=d+1) hI
    refine ⟨⟨rfl,rfl⟩,by omega,by rw[il_len];omega,⟨rfl,rfl⟩,_,il_at hic,_,rfl,_,_,_,_,_,_,_,_,_,_,_,_,c1,?_⟩
    have c9:=p102 key (loadE e n.kids[i+1] (d+1)).2 v
    refine sel_intro (fun hb => ?_) (fun hb => ?_)
    · have hb:(loadE e n.kids[i+1] (d+1)).2.bad≠0:=by simpa using hb
      rw[if_pos (.inl hb)]
      exact ⟨_,_,_,_,_,_,_,_,_,c9,rfl,_,_,_,_,_,rfl⟩
    · have hb:(loadE e n.kids[i+1] (d+1)).2.bad=0:=by simpa using hb
      refine sel_intro (fun hlf => ?_) (fun hlf => ?_)
      · have hlf:(loadE e n.kids[i+1] (d+1)).1.leaf≠kid.leaf:=fun h=>by rw[h]at hlf;simp at hlf
        rw[if_pos (.inr hlf)]
        exact ⟨_,_,_,_,_,_,_,_,_,c9,rfl,_,_,_,_,_,rfl⟩
      · have hlf:(loadE e n.kids[i+1] (d+1)).1.leaf=kid.leaf:=by simpa using hlf
        rw[if_neg (fun h=>h.elim (fun h=>h hb) (fun h=>h hlf))]
        obtain ⟨l3,l4,l5,l6⟩:=l2 hb
        rw[e3]at l5
        have hok:=hold_ok l5
        have sh:=shp_of hok.1 hok.2.1
        have h4:4≤(loadE e n.kids[i+1] (d+1)).1.keys.length:=by rcases hok.2.2 with h|h;cases h;exact h
        obtain ⟨d1,d2⟩:=drop_inv (b:=n.kids[i+1]) l1 hb (by rw[l4];exact l5)
        have c2:=p72 (loadE e n.kids[i+1] (d+1)).2 v l1.right n.kids[i+1]
        refine ⟨⟨rfl,rfl⟩,by omega,by rw[il_len];omega,⟨rfl,rfl⟩,_,il_at hic,_,rfl,_,_,_,_,_,_,_,_,c2,?_⟩
        generalize (loadE e n.kids[i+1] (d+1)).1=nx at l5 hok sh h4 hlf ⊢
        generalize dropE (loadE e n.kids[i+1] (d+1)).2 n.kids[i+1]=e2 at d1 d2 ⊢
        have sa:Shp kid:=hk
        have sb:Shp nx:=sh
        have fa:=sa.fits
        have fb:=sb.fits
        have hab:kid.leaf=nx.leaf:=hlf.symm
        have hx:nx.keys.length<kid.keys.length∨2≤nx.keys.length:=by omega
        refine sel_intro (fun _ => ?_) (fun h=>by rw[hli]at h;cases h)
        refine ⟨⟨rfl,rfl⟩,by omega,by rw[sl_len];omega,⟨rfl,rfl⟩,_,sl_at hlk,_,rfl,?_⟩
        have gj:=p103 kid n.keys[i - 1] nx fa fb
        have gk:((n.keys[i - 1]?).getD empS)=n.keys[i - 1]:=by rw[List.getElem?_eq_getElem hlk];rfl
        have ge:=p105 kid n.keys[i - 1] nx sa sb hab hx
        have fj:=joinN_fits n.keys[i - 1] sa sb
        have even:¬(Stands kid∧Stands nx∧Stands (joinN kid n.keys[i - 1] nx)∧(joinN kid n.keys[i - 1] nx).keys.length≤8) →
            joinE e2 n (i - 1) kid nx=(twoN n (i - 1) (storeE e2 (splL (joinN kid n.keys[i - 1] nx) (cutAt kid nx))).1 (splK (joinN kid n.keys[i - 1] nx) (cutAt kid nx)) (storeE (storeE e2 (splL (joinN kid n.keys[i - 1] nx) (cutAt kid nx))).2 (splR (joinN kid n.keys[i - 1] nx) (cutAt kid nx))).1,(storeE (storeE e2 (splL (joinN kid n.keys[i - 1] nx) (cutAt kid nx))).2 (splR (joinN kid n.keys[i - 1] nx) (cutAt kid nx))).2):=fun h=>by
          unfold joinE
          dsimp only
          rw[gk,if_neg h]
        have s1:=p52 e2 v (fun _=>d1.right) (splL (joinN kid n.keys[i - 1] nx) (cutAt kid nx)) (spl_fits fj _).1
        have s2:=p52 (storeE e2 (splL (joinN kid n.keys[i - 1] nx) (cutAt kid nx))).2 v (fun _=>(store_inv d1).1.right) (splR (joinN kid n.keys[i - 1] nx) (cutAt kid nx)) (spl_fits fj _).2
        have sj:=p52 e2 v (fun _=>d1.right) (joinN kid n.keys[i - 1] nx) fj.1
        rw[EvenV]at ge
        by_cases hj:Stands kid∧Stands nx∧kid.leaf=nx.leaf∧Stands (joinN kid n.keys[i - 1] nx)
        · rw[JoinV,if_pos hj]at gj
          refine ⟨_,_,_,_,_,gj,sel_intro (fun _ => ?_) (fun h=>by simp at h)⟩
          refine sel_dec (fun h8 => ?_) (fun h8 => ?_)
          · have h8:(joinN kid n.keys[i - 1] nx).keys.length≤8:=by rw[sl_len]at h8;omega
            have ej:joinE e2 n (i - 1) kid nx=(oneN n (i - 1) (storeE e2 (joinN kid n.keys[i - 1] nx)).1,(storeE e2 (joinN kid n.keys[i - 1] nx)).2):=by
             unfold joinE
             dsimp only
             rw[gk,if_pos ⟨hj.1,hj.2.1,hj.2.2.2,h8⟩]
            rw[ej]
            generalize storeE e2 (joinN kid n.keys[i - 1] nx)=q at sj ⊢
            rw[show IntKind.wrap .i64 (((i - 1:Nat):Int)+1)=((i - 1+1:Nat):Int) by rw[i64_in _ (by omega)];omega,show IntKind.wrap .i64 (((i - 1:Nat):Int)+2)=((i - 1+1+1:Nat):Int) by rw[i64_in _ (by omega)];omega]
            refine ⟨_,_,_,_,_,_,_,_,_,sj,⟨rfl,rfl⟩,by omega,by rw[il_len];omega,⟨⟨⟨rfl,rfl⟩,rfl⟩,rfl⟩,by rw[il_len];omega,_,del_s n.keys (i - 1) hlk rfl,_,del_i (n.kids.set (i - 1) q.1) (i - 1+1) (by rw[List.length_set];omega) (congrArg (fun z=>some (Ob.row false false 0 3 1 z)) (il_set n.kids (i - 1) q.1)),rfl,rfl,?_⟩
            refine ⟨?_,_,_,_,_,_,rfl⟩
            rw[oneN,ndV,set_del (by omega)];rfl
          · have h8:¬(joinN kid n.keys[i - 1] nx).keys.length≤8:=by rw[sl_len]at h8;omega
            rw[even fun h=>h8 h.2.2.2]
            generalize storeE e2 (splL (joinN kid n.keys[i - 1] nx) (cutAt kid nx))=q at s1 s2 ⊢
            generalize storeE q.2 (splR (joinN kid n.keys[i - 1] nx) (cutAt kid nx))=q2 at s2 ⊢
            rw[show IntKind.wrap .i64 (((i - 1:Nat):Int)+1)=((i - 1+1:Nat):Int) by rw[i64_in _ (by omega)];omega]
            refine ⟨⟨rfl,rfl⟩,by omega,by rw[sl_len];omega,⟨rfl,rfl⟩,_,sl_at hlk,_,rfl,_,_,_,_,_,_,_,_,_,ge,_,_,_,_,_,_,_,_,_,s1,⟨rfl,rfl⟩,by omega,by rw[il_len];omega,⟨⟨⟨rfl,rfl⟩,rfl⟩,rfl⟩,by rw[il_len];omega,_,_,_,_,_,_,_,_,_,s2,⟨rfl,rfl⟩,by omega,by rw[List.length_set,il_len];omega,⟨⟨⟨rfl,rfl⟩,rfl⟩,rfl⟩,by rw[List.length_set,il_len];omega,⟨rfl,rfl⟩,by omega,by rw[sl_len];omega,⟨⟨⟨rfl,rfl⟩,rfl⟩,rfl⟩,by rw[sl_len];omega,rfl,rfl,?_⟩
            refine ⟨?_,_,_,_,_,_,rfl⟩
            rw[show Int.toNat ((i - 1+1:Nat):Int)=i - 1+1 from rfl,show Int.toNat ((i - 1:Nat):Int)=i - 1 from rfl,il_set,il_set,sl_set,twoN,ndV,set_two (by omega),set_split (by omega)]
        · rw[JoinV,if_neg hj]at gj
          refine ⟨_,_,_,_,_,gj,sel_intro (fun h=>by simp at h) (fun _ => ?_)⟩
          rw[even fun h=>hj ⟨h.1,h.2.1,hab,h.2.2.1⟩]
          generalize storeE e2 (splL (joinN kid n.keys[i - 1] nx) (cutAt kid nx))=q at s1 s2 ⊢
          generalize storeE q.2 (splR (joinN kid n.keys[i - 1] nx) (cutAt kid nx))=q2 at s2 ⊢
          rw[show IntKind.wrap .i64 (((i - 1:Nat):Int)+1)=((i - 1+1:Nat):Int) by rw[i64_in _ (by omega)];omega]
          refine ⟨⟨rfl,rfl⟩,by omega,by rw[sl_len];omega,⟨rfl,rfl⟩,_,sl_at hlk,_,rfl,_,_,_,_,_,_,_,_,_,ge,_,_,_,_,_,_,_,_,_,s1,⟨rfl,rfl⟩,by omega,by rw[il_len];omega,⟨⟨⟨rfl,rfl⟩,rfl⟩,rfl⟩,by rw[il_len];omega,_,_,_,_,_,_,_,_,_,s2,⟨rfl,rfl⟩,by omega,by rw[List.length_set,il_len];omega,⟨⟨⟨rfl,rfl⟩,rfl⟩,rfl⟩,by rw[List.length_set,il_len];omega,⟨rfl,rfl⟩,by omega,by rw[sl_len];omega,⟨⟨⟨rfl,rfl⟩,rfl⟩,rfl⟩,by rw[sl_len];omega,rfl,rfl,?_⟩
          refine ⟨?_,_,_,_,_,_,rfl⟩
          rw[show Int.toNat ((i - 1+1:Nat):Int)=i - 1+1 from rfl,show Int.toNat ((i - 1:Nat):Int)=i - 1 from rfl,il_set,il_set,sl_set,twoN,ndV,set_two (by omega),set_split (by omega)]
  · have hli':¬i - 1=i:=fun h=>by rw[h]at hli;simp at hli
    have hic:i - 1<n.kids.length:=by omega
    rw[if_neg hli',if_neg hli']
    rw[List.getElem?_eq_getElem hic,Option.getD_some]
    have c1:=p71 e v hI.right n.kids[i - 1] (d+1)
    obtain ⟨l1,l2⟩:=load_inv (b:=n.kids[i - 1]) (d:=d+1) hI
    refine ⟨⟨rfl,rfl⟩,by omega,by rw[il_len];omega,⟨rfl,rfl⟩,_,il_at hic,_,rfl,_,_,_,_,_,_,_,_,_,_,_,_,c1,?_⟩
    have c9:=p102 key (loadE e n.kids[i - 1] (d+1)).2 v
    refine sel_intro (fun hb => ?_) (fun hb => ?_)
    · have hb:(loadE e n.kids[i - 1] (d+1)).2.bad≠0:=by simpa using hb
      rw[if_pos (.inl hb)]
      exact ⟨_,_,_,_,_,_,_,_,_,c9,rfl,_,_,_,_,_,rfl⟩
    · have hb:(loadE e n.kids[i - 1] (d+1)).2.bad=0:=by simpa using hb
      refine sel_intro (fun hlf => ?_) (fun hlf => ?_)
      · have hlf:(loadE e n.kids[i - 1] (d+1)).1.leaf≠kid.leaf:=fun h=>by rw[h]at hlf;simp at hlf
        rw[if_pos (.inr hlf)]
        exact ⟨_,_,_,_,_,_,_,_,_,c9,rfl,_,_,_,_,_,rfl⟩
      · have hlf:(loadE e n.kids[i - 1] (d+1)).1.leaf=kid.leaf:=by simpa using hlf
        rw[if_neg (fun h=>h.elim (fun h=>h hb) (fun h=>h hlf))]
        obtain ⟨l3,l4,l5,l6⟩:=l2 hb
        rw[e3]at l5
        have hok:=hold_ok l5
        have sh:=shp_of hok.1 hok.2.1
        have h4:4≤(loadE e n.kids[i - 1] (d+1)).1.keys.length:=by rcases hok.2.2 with h|h;cases h;exact h
        obtain ⟨d1,d2⟩:=drop_inv (b:=n.kids[i - 1]) l1 hb (by rw[l4];exact l5)
        have c2:=p72 (loadE e n.kids[i - 1] (d+1)).2 v l1.right n.kids[i - 1]
        refine ⟨⟨rfl,rfl⟩,by omega,by rw[il_len];omega,⟨rfl,rfl⟩,_,il_at hic,_,rfl,_,_,_,_,_,_,_,_,c2,?_⟩
        generalize (loadE e n.kids[i - 1] (d+1)).1=nx at l5 hok sh h4 hlf ⊢
        generalize dropE (loadE e n.kids[i - 1] (d+1)).2 n.kids[i - 1]=e2 at d1 d2 ⊢
        have sa:Shp nx:=sh
        have sb:Shp kid:=hk
        have fa:=sa.fits
        have fb:=sb.fits
        have hab:nx.leaf=kid.leaf:=hlf
        have hx:kid.keys.length<nx.keys.length∨2≤kid.keys.length:=by omega
        refine sel_intro (fun h=>by rw[hli]at h;cases h) (fun _ => ?_)
        refine ⟨⟨rfl,rfl⟩,by omega,by rw[sl_len];omega,⟨rfl,rfl⟩,_,sl_at hlk,_,rfl,?_⟩
        have gj:=p103 nx n.keys[i - 1] kid fa fb
        have gk:((n.keys[i - 1]?).getD empS)=n.keys[i - 1]:=by rw[List.getElem?_eq_getElem hlk];rfl
        have ge:=p105 nx n.keys[i - 1] kid sa sb hab hx
        have fj:=joinN_fits n.keys[i - 1] sa sb
        have even:¬(Stands nx∧Stands kid∧Stands (joinN nx n.keys[i - 1] kid)∧(joinN nx n.keys[i - 1] kid).keys.length≤8) →
            joinE e2 n (i - 1) nx kid=(twoN n (i - 1) (storeE e2 (splL (joinN nx n.keys[i - 1] kid) (cutAt nx kid))).1 (splK (joinN nx n.keys[i - 1] kid) (cutAt nx kid)) (storeE (storeE e2 (splL (joinN nx n.keys[i - 1] kid) (cutAt nx kid))).2 (splR (joinN nx n.keys[i - 1] kid) (cutAt nx kid))).1,(storeE (storeE e2 (splL (joinN nx n.keys[i - 1] kid) (cutAt nx kid))).2 (splR (joinN nx n.keys[i - 1] kid) (cutAt nx kid))).2):=fun h=>by
          unfold joinE
          dsimp only
          rw[gk,if_neg h]
        have s1:=p52 e2 v (fun _=>d1.right) (splL (joinN nx n.keys[i - 1] kid) (cutAt nx kid)) (spl_fits fj _).1
        have s2:=p52 (storeE e2 (splL (joinN nx n.keys[i - 1] kid) (cutAt nx kid))).2 v (fun _=>(store_inv d1).1.right) (splR (joinN nx n.keys[i - 1] kid) (cutAt nx kid)) (spl_fits fj _).2
        have sj:=p52 e2 v (fun _=>d1.right) (joinN nx n.keys[i - 1] kid) fj.1
        rw[EvenV]at ge
        by_cases hj:Stands nx∧Stands kid∧nx.leaf=kid.leaf∧Stands (joinN nx n.keys[i - 1] kid)
        · rw[JoinV,if_pos hj]at gj
          refine ⟨_,_,_,_,_,gj,sel_intro (fun _ => ?_) (fun h=>by simp at h)⟩
          refine sel_dec (fun h8 => ?_) (fun h8 => ?_)
          · have h8:(joinN nx n.keys[i - 1] kid).keys.length≤8:=by rw[sl_len]at h8;omega
            have ej:joinE e2 n (i - 1) nx kid=(oneN n (i - 1) (storeE e2 (joinN nx n.keys[i - 1] kid)).1,(storeE e2 (joinN nx n.keys[i - 1] kid)).2):=by
             unfold joinE
             dsimp only
             rw[gk,if_pos ⟨hj.1,hj.2.1,hj.2.2.2,h8⟩]
            rw[ej]
            generalize storeE e2 (joinN nx n.keys[i - 1] kid)=q at sj ⊢
            rw[show IntKind.wrap .i64 (((i - 1:Nat):Int)+1)=((i - 1+1:Nat):Int) by rw[i64_in _ (by omega)];omega,show IntKind.wrap .i64 (((i - 1:Nat):Int)+2)=((i - 1+1+1:Nat):Int) by rw[i64_in _ (by omega)];omega]
            refine ⟨_,_,_,_,_,_,_,_,_,sj,⟨rfl,rfl⟩,by omega,by rw[il_len];omega,⟨⟨⟨rfl,rfl⟩,rfl⟩,rfl⟩,by rw[il_len];omega,_,del_s n.keys (i - 1) hlk rfl,_,del_i (n.kids.set (i - 1) q.1) (i - 1+1) (by rw[List.length_set];omega) (congrArg (fun z=>some (Ob.row false false 0 3 1 z)) (il_set n.kids (i - 1) q.1)),rfl,rfl,?_⟩
            refine ⟨?_,_,_,_,_,_,rfl⟩
            rw[oneN,ndV,set_del (by omega)];rfl
          · have h8:¬(joinN nx n.keys[i - 1] kid).keys.length≤8:=by rw[sl_len]at h8;omega
            rw[even fun h=>h8 h.2.2.2]
            generalize storeE e2 (splL (joinN nx n.keys[i - 1] kid) (cutAt nx kid))=q at s1 s2 ⊢
            generalize storeE q.2 (splR (joinN nx n.keys[i - 1] kid) (cutAt nx kid))=q2 at s2 ⊢
            rw[show IntKind.wrap .i64 (((i - 1:Nat):Int)+1)=((i - 1+1:Nat):Int) by rw[i64_in _ (by omega)];omega]
            refine ⟨⟨rfl,rfl⟩,by omega,by rw[sl_len];omega,⟨rfl,rfl⟩,_,sl_at hlk,_,rfl,_,_,_,_,_,_,_,_,_,ge,_,_,_,_,_,_,_,_,_,s1,⟨rfl,rfl⟩,by omega,by rw[il_len];omega,⟨⟨⟨rfl,rfl⟩,rfl⟩,rfl⟩,by rw[il_len];omega,_,_,_,_,_,_,_,_,_,s2,⟨rfl,rfl⟩,by omega,by rw[List.length_set,il_len];omega,⟨⟨⟨rfl,rfl⟩,rfl⟩,rfl⟩,by rw[List.length_set,il_len];omega,⟨rfl,rfl⟩,by omega,by rw[sl_len];omega,⟨⟨⟨rfl,rfl⟩,rfl⟩,rfl⟩,by rw[sl_len];omega,rfl,rfl,?_⟩
            refine ⟨?_,_,_,_,_,_,rfl⟩
            rw[show Int.toNat ((i - 1+1:Nat):Int)=i - 1+1 from rfl,show Int.toNat ((i - 1:Nat):Int)=i - 1 from rfl,il_set,il_set,sl_set,twoN,ndV,set_two (by omega),set_split (by omega)]
        · rw[JoinV,if_neg hj]at gj
          refine ⟨_,_,_,_,_,gj,sel_intro (fun h=>by simp at h) (fun _ => ?_)⟩
          rw[even fun h=>hj ⟨h.1,h.2.1,hab,h.2.2.1⟩]
          generalize storeE e2 (splL (joinN nx n.keys[i - 1] kid) (cutAt nx kid))=q at s1 s2 ⊢
          generalize storeE q.2 (splR (joinN nx n.keys[i - 1] kid) (cutAt nx kid))=q2 at s2 ⊢
          rw[show IntKind.wrap .i64 (((i - 1:Nat):Int)+1)=((i - 1+1:Nat):Int) by rw[i64_in _ (by omega)];omega]
          refine ⟨⟨rfl,rfl⟩,by omega,by rw[sl_len];omega,⟨rfl,rfl⟩,_,sl_at hlk,_,rfl,_,_,_,_,_,_,_,_,_,ge,_,_,_,_,_,_,_,_,_,s1,⟨rfl,rfl⟩,by omega,by rw[il_len];omega,⟨⟨⟨rfl,rfl⟩,rfl⟩,rfl⟩,by rw[il_len];omega,_,_,_,_,_,_,_,_,_,s2,⟨rfl,rfl⟩,by omega,by rw[List.length_set,il_len];omega,⟨⟨⟨rfl,rfl⟩,rfl⟩,rfl⟩,by rw[List.length_set,il_len];omega,⟨rfl,rfl⟩,by omega,by rw[sl_len];omega,⟨⟨⟨rfl,rfl⟩,rfl⟩,rfl⟩,by rw[sl_len];omega,rfl,rfl,?_⟩
          refine ⟨?_,_,_,_,_,_,rfl⟩
          rw[show Int.toNat ((i - 1+1:Nat):Int)=i - 1+1 from rfl,show Int.toNat ((i - 1:Nat):Int)=i - 1 from rfl,il_set,il_set,sl_set,twoN,ndV,set_two (by omega),set_split (by omega)]
 obtain ⟨r,H',h,rfl,fz,a,b,K,C,rfl⟩:=main
 exact ⟨fz,a,b,K,C,h⟩
theorem join_shp {e:Ed} {n a b:Nd} {l:Nat} (hn:Shp n) (hnl:n.leaf=false) (hl:l<n.keys.length):Shp (joinE e n l a b).1:=by
 have h8:=hn.1
 obtain ⟨h1,h2⟩:=hn.inner hnl
 unfold joinE
 dsimp only
 split
 · refine ⟨?_,.inr ⟨hnl,h1,?_⟩⟩ <;> (unfold oneN;dsimp only;simp only[List.length_append,List.length_take,List.length_drop,List.length_cons];omega)
 · refine ⟨?_,.inr ⟨hnl,h1,?_⟩⟩ <;> (unfold twoN;dsimp only;simp only[List.length_append,List.length_take,List.length_drop,List.length_cons];omega)
theorem fill_shp {w0:Wd} {e:Ed} {n kid:Nd} {i:Nat} {d:Int} (hI:Inv w0 e) (hn:Shp n) (hnl:n.leaf=false) (hnk:1≤n.keys.length) (hi:i≤n.keys.length) (hb:(fillE e n i kid d).2.bad=0):Shp (fillE e n i kid d).1:=by
 unfold fillE at hb ⊢
 dsimp only at hb ⊢
 generalize ((n.kids[if i - 1=i then i+1 else i - 1]?).getD 0)=blk at hb ⊢
 by_cases hc:(loadE e blk (d+1)).2.bad≠0∨(loadE e blk (d+1)).1.leaf≠kid.leaf
 · rw[if_pos hc]at hb
   exact absurd hb (fail_inv (load_inv (b:=blk) (d:=d+1) hI).1).2
 · rw[if_neg hc]
   split
   · exact join_shp hn hnl (by omega)
   · exact join_shp hn hnl (by omega)
theorem wit_shp {n:Nd} {i:Nat} (hn:Shp n) (hl:n.leaf=true) (hi:i<n.keys.length):Shp (witN n i):=by
 have h8:=hn.1
 obtain ⟨h1,h2⟩:=hn.leaf hl
 refine ⟨?_,.inl ⟨hl,?_,h2⟩⟩ <;> (unfold witN delAt;dsimp only;simp only[List.length_append,List.length_take,List.length_drop];omega)
set_option maxHeartbeats 4000000 in
theorem p51 {w0:Wd} (key:ByteArray):∀(f:Nat) (e:Ed) (v:Nat) (b d:Int),d+f=10→1≤d→1≤f→Inv w0 e →
   Runs Fs3 51 [.ptr 1700504 0,.n (.int .i64 b),.n (.int .i64 d)] (hP key e v) (ndV (remE key f e b d).1) (hP key (remE key f e b d).2 v)∧((remE key f e b d).2.bad=0→Shp (remE key f e b d).1)
 | 0,e,v,b,d,_,_,h,_=>absurd h (by omega)
 | f+1,e,v,b,d,hd,h1,_,hI=>by
   have c1:=p71 e v hI.right b d
   obtain ⟨l1,l2⟩:=load_inv (b:=b) (d:=d) hI
   rw[remE]
   dsimp only
   by_cases hb:(loadE e b d).2.bad=0
   · rw[if_neg (by simpa using hb)]
     obtain ⟨l3,l4,l5,l6⟩:=l2 hb
     have hok:=hold_ok l5
     have hs:=hok.1
     have sh:=shp_of hs hok.2.1
     have hfit:=nd_fits hs
     obtain ⟨k1,k2,k3⟩:=st_lens hs
     obtain ⟨d1,d2⟩:=drop_inv l1 hb (by rw[l4];exact l5)
     have c2:=p72 (loadE e b d).2 v l1.right b
     have hbf:((loadE e b d).2.bad != 0)=false:=by simpa using hb
     generalize (loadE e b d).1=n at c1 l5 hok hs sh hfit k1 k2 k3 ⊢
     generalize (loadE e b d).2=e1 at c1 l1 hb hbf d1 d2 c2 ⊢
     have hd9:d≤8:=l6
     generalize dropE e1 b=e2 at c2 d1 d2 ⊢
     -- what is to be shown, by the condition
     have go:∀ {r:Nd} {e':Ed},V51h key (blD e.w.base) (blD e.w.now) v e.w.root e.w.gen e.bad (sl_ e.w.pages) b d (fun r' H'=>r'=ndV r∧H'=hP key e' v) →
         Runs Fs3 51 [.ptr 1700504 0,.n (.int .i64 b),.n (.int .i64 d)] (hP key e v) (ndV r) (hP key e' v):=fun {r e'} hV=>by
       refine vc_mut fs51 rfl (by kernel_rfl) ?_
       have:=vc51h key (blD e.w.base) (blD e.w.now) v e.w.root e.w.gen e.bad (sl_ e.w.pages) b d (fun r' H'=>r'=ndV r∧H'=hP key e' v)
       exact this▸hV
     cases hl:n.leaf with
     | true=>
       rw[if_pos rfl]
       have hsr:=srch_le n.keys key
       obtain ⟨v1,v2⟩:=st_leaf hs hl
       have c3:=(p64 n key hfit hs).up up3
       by_cases ha:isAt n.keys key=true
       · rw[if_pos ha]
         have hsl:=at_lt ha
         refine ⟨go ?_,fun _=>wit_shp sh hl hsl⟩
         rw[(V51he _ _ _ _ _ _ _ _ _ _ _).down]
         refine ⟨_,_,_,_,_,_,_,_,_,_,_,_,c1,sel_intro (fun h=>by rw[hbf]at h;cases h) (fun _=>⟨_,_,_,_,_,_,_,_,c2,sel_intro (fun _ => ?_) (fun h=>by rw[hl]at h;cases h)⟩)⟩
         refine ⟨_,_,c3,sel_intro (fun h=>by rw[ha]at h;cases h) (fun _ => ?_)⟩
         exact ⟨_,_,_,_,p73 n (srch n.keys key) hsl v2 (by omega),rfl,rfl⟩
       · rw[if_neg ha]
         have ha:isAt n.keys key=false:=by simpa using ha
         refine ⟨go ?_,fun h=>by cases h⟩
         rw[(V51he _ _ _ _ _ _ _ _ _ _ _).down]
         refine ⟨_,_,_,_,_,_,_,_,_,_,_,_,c1,sel_intro (fun h=>by rw[hbf]at h;cases h) (fun _=>⟨_,_,_,_,_,_,_,_,c2,sel_intro (fun _ => ?_) (fun h=>by rw[hl]at h;cases h)⟩)⟩
         exact ⟨_,_,c3,sel_intro (fun _=>⟨rfl,rfl⟩) (fun h=>by rw[ha]at h;cases h)⟩
     | false=>
       rw[if_neg (by simp)]
       obtain ⟨v1,v2⟩:=st_inner hs hl
       have hk:=kid_lt hs hl key
       have hki:=kidI_of hs.2.1 key
       have hkle:=kidOf_le n.keys key
       rw[hki]at hk
       have c3:=(p63i n key hfit hs hl).up up3
       rw[hki]at c3
       have hnk:1≤n.keys.length:=by
         rcases hs.2.2 with ⟨h,_⟩|⟨_,_,h,_⟩
         · rw[hl]at h;cases h
         · exact h
       obtain ⟨ih,ih2⟩:=p51 key f e2 v ((n.kids[kidOf n.keys key]?).getD 0) (d+1) (by omega) (by omega) (by omega) d1
       have ri:=rem_inv (key:=key) f e2 ((n.kids[kidOf n.keys key]?).getD 0) (d+1) d1
       generalize hrr:remE key f e2 ((n.kids[kidOf n.keys key]?).getD 0) (d+1)=r at ih ih2 ri ⊢
       rw[List.getElem?_eq_getElem hk,Option.getD_some]at ih
       obtain ⟨kid,e3⟩:=r
       dsimp only at ih ih2 ri ⊢
       by_cases hb3:e3.bad=0
       · rw[if_neg (by simpa using hb3)]
         have hb3f:(e3.bad != 0)=false:=by simpa using hb3
         have i3:Inv w0 e3:=by
           rcases ri with h|h
           · omega
           · exact h.1
         have ks:=ih2 hb3
         obtain ⟨q1,q2,q3⟩:=ks.lens
         by_cases h4:4≤kid.keys.length
         · rw[aftE,if_pos h4]
           have c4:=p52 e3 v (fun _=>i3.right) kid ks.fits
           refine ⟨go ?_,fun _=>⟨sh.1,.inr ⟨hl,v1,by dsimp only;rw[List.length_set];exact v2⟩⟩⟩
           rw[(V51he _ _ _ _ _ _ _ _ _ _ _).down]
           refine ⟨_,_,_,_,_,_,_,_,_,_,_,_,c1,sel_intro (fun h=>by rw[hbf]at h;cases h) (fun _=>⟨_,_,_,_,_,_,_,_,c2,sel_intro (fun h=>by rw[hl]at h;cases h) (fun _ => ?_)⟩)⟩
           rw[i64_in (d+1) (by omega)]
           refine ⟨_,c3,rfl,by omega,_,il_at hk,_,rfl,_,_,_,_,_,_,_,_,_,_,_,_,_,ih,sel_intro (fun h=>by rw[hb3f]at h;cases h) (fun _ => ?_)⟩
           refine ⟨_,_,clone_runs fs70 (sl_ n.keys) (by rw[sl_len];omega),_,_,clone_runs fs74 (il n.kids) (by rw[il_len];omega),sel_dec (fun _ => ?_) (fun h=>absurd (by rw[sl_len];omega) h)⟩
           refine ⟨_,_,_,_,_,_,_,_,_,c4,⟨rfl,rfl⟩,by omega,by rw[il_len];omega,⟨⟨⟨rfl,rfl⟩,rfl⟩,rfl⟩,by rw[il_len];omega,rfl,rfl,?_,rfl⟩
           rw[show Int.toNat ((kidOf n.keys key:Nat):Int)=kidOf n.keys key from rfl,il_set,hl];rfl
         · rw[aftE,if_neg h4]
           obtain ⟨fz,a,b2,K,C,c4⟩:=p75 key e3 v i3 n sh hl hnk (kidOf n.keys key) hkle kid ks (by omega) d ⟨h1,by omega⟩
           refine ⟨go ?_,fun h=>fill_shp i3 sh hl hnk hkle h⟩
           rw[(V51he _ _ _ _ _ _ _ _ _ _ _).down]
           refine ⟨_,_,_,_,_,_,_,_,_,_,_,_,c1,sel_intro (fun h=>by rw[hbf]at h;cases h) (fun _=>⟨_,_,_,_,_,_,_,_,c2,sel_intro (fun h=>by rw[hl]at h;cases h) (fun _ => ?_)⟩)⟩
           rw[i64_in (d+1) (by omega)]
           refine ⟨_,c3,rfl,by omega,_,il_at hk,_,rfl,_,_,_,_,_,_,_,_,_,_,_,_,_,ih,sel_intro (fun h=>by rw[hb3f]at h;cases h) (fun _ => ?_)⟩
           refine ⟨_,_,clone_runs fs70 (sl_ n.keys) (by rw[sl_len];omega),_,_,clone_runs fs74 (il n.kids) (by rw[il_len];omega),sel_dec (fun h=>absurd h (by rw[sl_len];omega)) (fun _ => ?_)⟩
           exact ⟨_,_,_,_,_,_,_,_,_,_,_,_,_,_,_,_,_,_,c4,rfl,rfl⟩
       · rw[if_pos hb3]
         have hb3f:(e3.bad != 0)=true:=by simpa using hb3
         refine ⟨go ?_,fun h=>absurd h hb3⟩
         rw[(V51he _ _ _ _ _ _ _ _ _ _ _).down]
         refine ⟨_,_,_,_,_,_,_,_,_,_,_,_,c1,sel_intro (fun h=>by rw[hbf]at h;cases h) (fun _=>⟨_,_,_,_,_,_,_,_,c2,sel_intro (fun h=>by rw[hl]at h;cases h) (fun _ => ?_)⟩)⟩
         rw[i64_in (d+1) (by omega)]
         exact ⟨_,c3,rfl,by omega,_,il_at hk,_,rfl,_,_,_,_,_,_,_,_,_,_,_,_,_,ih,sel_intro (fun _=>⟨rfl,rfl⟩) (fun h=>by rw[hb3f]at h;cases h)⟩
   · rw[if_pos hb]
     refine ⟨?_,fun h=>absurd h hb⟩
     refine vc_mut fs51 rfl (by kernel_rfl) ?_
     unfold hP hE hEz
     rw[vc51h,(V51he _ _ _ _ _ _ _ _ _ _ _).down]
     exact ⟨_,_,_,_,_,_,_,_,_,_,_,_,c1,sel_intro (fun _=>⟨rfl,rfl⟩) (fun h=>absurd h (by simpa using hb))⟩
theorem p49 (key:ByteArray):Runs Fs3 49 [.n (.str key)] [] (.n (.bool (decide (isKeyP key)))) []:=by
 refine vc_eq fs49 rfl ?_
 rw[vc49,V49]
 refine sel_dec (fun h1 => ?_) (fun h1 => ?_)
 · congr 2
   rw[decide_eq_decide,isKeyP]
   omega
 · rw[decide_eq_false (by unfold isKeyP;omega)]
theorem p17 (w:Wd) (hf:WFits w) (key:ByteArray):Runs Fs3 17 [wdV w,.n (.str key)] [] (wuo (delW w key)) []:=by
 have g1:=(p48 w hf).up up3
 have g2:=p49 key
 refine vc_eq fs17 rfl ?_
 rw[wdV,vc17,(V17e _ _ _ _ _ _ _).down]
 refine ⟨_,g1,?_⟩
 by_cases hr:WRight w
 · rw[decide_eq_true hr]
   refine sel_intro (fun h=>by cases h) (fun _=>⟨_,g2,?_⟩)
   by_cases hp:isKeyP key
   · rw[decide_eq_true hp]
     refine sel_intro (fun h=>by cases h) (fun _ => ?_)
     have hlen:w.pages.length≤100000:=by have:=hr.2.1;have:=hr.1.2.2.1;omega
     have hI:=Inv.start hr
     rw[delW,if_neg (by simpa using ⟨hr,hp⟩)]
     refine sel_intro (fun h0 => ?_) (fun h0 => ?_)
     · rw[if_pos (by simpa using h0)];rfl
     · rw[if_neg (by simpa using h0)]
       obtain ⟨c1,q1⟩:=p51 key 9 ⟨w,0⟩ 0 w.root 1 (by omega) (by omega) (by omega) hI
       have ri:=rem_inv (key:=key) 9 ⟨w,0⟩ w.root 1 hI
       rw[delR]
       generalize remE key 9 ⟨w,0⟩ w.root 1=r at c1 q1 ri ⊢
       obtain ⟨n,e1⟩:=r
       dsimp only at c1 q1 ri ⊢
       refine ⟨(),_,_,_,_,_,_,_,_,p50 w hlen,_,_,_,_,_,_,_,_,_,_,_,_,_,c1,sel_intro (fun hb => ?_) (fun hb => ?_)⟩
       · have hb:e1.bad≠0:=by simpa using hb
         rw[if_pos hb,endE,if_pos (show (setRoot (0,e1)).bad≠0 from hb)];rfl
       · have hb:e1.bad=0:=by simpa using hb
         rw[if_neg (by simpa using hb)]
         have sh:=q1 hb
         have i1:Inv w e1:=by
           rcases ri with h|h
           · omega
           · exact h.1
         refine sel_dec (fun hk => ?_) (fun hk => ?_)
         · have hk:n.keys≠[]:=by rw[sl_len]at hk;intro h;rw[h]at hk;simp at hk
           rw[if_pos hk]
           have c2:=p52 e1 0 (fun _=>i1.right) n sh.fits
           have c3:=p53 (setRoot (storeE e1 n)) 0
           exact ⟨_,_,_,_,_,_,_,_,_,c2,_,_,_,_,_,_,_,_,_,_,_,_,_,_,_,c3,rfl⟩
         · have hk:n.keys=[]:=by rw[sl_len]at hk;exact List.length_eq_zero_iff.1 (by omega)
           rw[if_neg (by simpa using hk)]
           refine sel_intro (fun hl => ?_) (fun hl => ?_)
           · rw[if_pos hl]
             have c3:=p53 (setRoot (0,e1)) 0
             exact ⟨_,_,_,_,_,_,_,_,_,_,_,_,_,_,_,c3,rfl⟩
           · rw[if_neg (by rw[hl];simp)]
             obtain ⟨s1,s2⟩:=sh.inner hl
             have h0:0<n.kids.length:=by omega
             rw[List.getElem?_eq_getElem h0,Option.getD_some]
             have c3:=p53 (setRoot (n.kids[0],e1)) 0
             exact ⟨rfl,by decide,_,il_at h0,_,rfl,_,_,_,_,_,_,_,_,_,_,_,_,_,_,_,c3,rfl⟩
   · rw[decide_eq_false hp]
     refine sel_intro (fun _ => ?_) (fun h=>by cases h)
     rw[delW,if_pos (fun h=>hp h.2)];rfl
 · rw[decide_eq_false hr]
   refine sel_intro (fun _ => ?_) (fun h=>by cases h)
   rw[delW,if_pos (fun h=>hr h.1)];rfl
theorem putW_right {w:Wd} {key val:ByteArray} (h:(putW w key val).2=0):WRight (putW w key val).1:=by
 by_cases hc:WRight w∧isPair key val
 · rcases putW_any hc.1 hc.2 with (e|e)|⟨x,e,hx,_⟩
   · rw[e]at h;cases h
   · rw[e]at h;cases h
   · rw[e];exact hx
 · rw[putW,if_pos hc]at h;cases h
theorem delW_right {w:Wd} {key:ByteArray} (h:(delW w key).2=0):WRight (delW w key).1:=by
 by_cases hc:WRight w∧isKeyP key
 · rcases delW_any hc.1 hc.2 with (e|e|e)|⟨x,e,hx,_⟩
   · rw[e]at h;cases h
   · rw[e]at h;cases h
   · rw[e]at h;cases h
   · rw[e];exact hx
 · rw[delW,if_pos hc]at h;cases h
theorem chW_right {w:Wd} {c:Chg} (hw:WRight w) (h:(chW w c).2=0):WRight (chW w c).1:=by
 unfold chW at h ⊢
 split
 · rename_i hc
   rw[if_pos hc]at h
   exact putW_right h
 · rename_i hc
   rw[if_neg hc]at h
   split
   · exact hw
   · rename_i hk
     rw[if_neg hk]at h
     split
     · exact hw
     · rename_i h8
       rw[if_neg h8]at h
       exact delW_right h
abbrev wT:=List D×(List D×(List D×(Int×(Int×Unit))))
def wdC (w:Wd):wT:=(blD w.base,blD w.now,sl_ w.pages,w.root,w.gen,())
theorem drop_at' {α:Type} {l:List α} {i:Nat} (h:i<l.length):l.drop i=l[i] :: l.drop (i+1):=List.drop_eq_getElem_cons h
theorem p42 (w:Wd) (hf:WFits w) (l:List ByteArray) (hl:Small l.length):Runs Fs3 42 [wdV w,.o (.sl 1 (sl_ l))] [] (wuo (allW delW w l)) []:=by
 have g1:=(p48 w hf).up up3
 refine vc_eq fs42 rfl ?_
 rw[wdV,vc42,(V42e _ _ _ _ _ _ _).down,sl_len l]
 refine ⟨_,g1,?_⟩
 by_cases hr:WRight w
 · rw[decide_eq_true hr,allW,if_neg (by simpa using hr)]
   refine sel_intro (fun h=>by cases h) (fun _ => ?_)
   refine ⟨fun i q _=>0≤i∧i≤l.length∧∃w',q=wdC w'∧WRight w'∧foldW delW w l=foldW delW w' (l.drop i.toNat),fun i _ _=>(l.length - i).toNat,⟨rfl,by omega,by omega,w,rfl,hr,rfl⟩,?_⟩
   rintro i q z ⟨h0,h1,w',rfl,hr',hq⟩ _
   refine sel_dec (fun hlt => ?_) (fun hge => ?_)
   · have hi:i.toNat<l.length:=by omega
     rw[drop_at' hi,foldW]at hq
     have c:=p17 w' (wr_fits hr') l[i.toNat]
     refine ⟨rfl,h0,_,sl_at hi,_,rfl,_,_,_,_,_,_,c,sel_intro (fun hb => ?_) (fun hb => ?_)⟩
     · have hb:(delW w' l[i.toNat]).2≠0:=by simpa using hb
       rw[hq,if_pos hb];rfl
     · have hb:(delW w' l[i.toNat]).2=0:=by simpa using hb
       rw[if_neg (by simpa using hb)]at hq
       repeat (refine And.intro rfl ?_)
       rw[i64_in _ (by omega)]
       refine ⟨⟨by omega,by omega,(delW w' l[i.toNat]).1,rfl,delW_right hb,?_⟩,by first|omega|(dsimp only;omega)⟩
       rw[show (i+1).toNat=i.toNat+1 by omega];exact hq
   · rw[List.drop_eq_nil_of_le (by omega),foldW]at hq
     rw[hq];rfl
 · rw[decide_eq_false hr,allW,if_pos hr]
   exact sel_intro (fun _=>rfl) (fun h=>by cases h)
def cgD (l:List Chg):List Mir.D:=l.map fun c => .rcd [.str c.key,.str c.val,.bool c.gone]
theorem cgD_len (l:List Chg):(cgD l).length=l.length:=by simp[cgD]
theorem cgD_at {l:List Chg} {i:Nat} (h:i<l.length):(cgD l)[i]?=some (.rcd [.str l[i].key,.str l[i].val,.bool l[i].gone]):=by simp[cgD,h]
theorem p41 (w:Wd) (hf:WFits w) (l:List Chg) (hl:Small l.length):Runs Fs3 41 [wdV w,.o (.sl 3 (cgD l))] [] (wuo (allW chW w l)) []:=by
 have g1:=(p48 w hf).up up3
 refine vc_eq fs41 rfl ?_
 rw[wdV,vc41,(V41e _ _ _ _ _ _ _).down,cgD_len l]
 refine ⟨_,g1,?_⟩
 by_cases hr:WRight w
 · rw[decide_eq_true hr,allW,if_neg (by simpa using hr)]
   refine sel_intro (fun h=>by cases h) (fun _ => ?_)
   refine ⟨fun i q _=>0≤i∧i≤l.length∧∃w',q=wdC w'∧WRight w'∧foldW chW w l=foldW chW w' (l.drop i.toNat),fun i _ _=>(l.length - i).toNat,⟨rfl,by omega,by omega,w,rfl,hr,rfl⟩,?_⟩
   rintro i q z ⟨h0,h1,w',rfl,hr',hq⟩ _
   refine sel_dec (fun hlt => ?_) (fun hge => ?_)
   · have hi:i.toNat<l.length:=by omega
     have stay:∀ {w2:Wd},WRight w2→chW w' l[i.toNat]=(w2,0)→0≤i+1∧i+1≤(l.length:Int)∧∃w3,wdC w2=wdC w3∧WRight w3∧foldW chW w l=foldW chW w3 (l.drop (i+1).toNat):=fun {w2} h2 he=>by
       refine ⟨by omega,by omega,w2,rfl,h2,?_⟩
       rw[hq,drop_at' hi,foldW,he,if_neg (by simp),show (i+1).toNat=i.toNat+1 by omega]
     have stop:∀ {e:Int} {w2:Wd},chW w' l[i.toNat]=(w2,e)→e≠0→foldW chW w l=(wd0,e):=fun {e w2} he h0=>by
       rw[hq,drop_at' hi,foldW,he,if_pos h0]
     refine ⟨rfl,h0,_,cgD_at hi,_,_,_,rfl,by simp[D.cells],?_⟩
     generalize l[i.toNat]=c at stay stop
     refine sel_intro (fun hg => ?_) (fun hg => ?_)
     · have hg:c.gone=false:=by simpa using hg
       have e:chW w' c=putW w' c.key c.val:=by rw[chW,if_pos hg]
       refine ⟨_,_,_,_,_,_,p30 w' (wr_fits hr') c.key c.val,sel_intro (fun hb => ?_) (fun hb => ?_)⟩
       · have hb:(putW w' c.key c.val).2≠0:=by simpa using hb
         rw[stop (e:=(putW w' c.key c.val).2) (w2:=(putW w' c.key c.val).1) e hb];rfl
       · have hb:(putW w' c.key c.val).2=0:=by simpa using hb
         repeat (refine And.intro rfl ?_)
         rw[i64_in _ (by omega)]
         exact ⟨stay (putW_right hb) (e.trans (Prod.ext rfl hb)),by first|omega|(dsimp only;omega)⟩
     · have hg:c.gone≠false:=by simpa using hg
       refine ⟨_,p49 c.key,?_⟩
       by_cases hp:isKeyP c.key
       · rw[decide_eq_true hp]
         refine sel_intro (fun h=>by cases h) (fun _ => ?_)
         have ev:(c.val.toList==(ByteArray.mk (List.toArray [])).toList)=decide (c.val=empS):=beq_dec c.val empS
         rw[ev]
         by_cases hv:c.val=empS
         · rw[decide_eq_true hv]
           refine sel_intro (fun h=>by cases h) (fun _ => ?_)
           have e:chW w' c=if (delW w' c.key).2=80 then (w',0) else delW w' c.key:=by
             rw[chW,if_neg hg,if_neg (fun h=>h.elim (fun h=>h hp) (fun h=>h hv))]
           refine ⟨_,_,_,_,_,_,p17 w' (wr_fits hr') c.key,sel_intro (fun h8 => ?_) (fun h8 => ?_)⟩
           · have h8:(delW w' c.key).2=80:=by simpa using h8
             rw[if_pos h8]at e
             repeat (refine And.intro rfl ?_)
             rw[i64_in _ (by omega)]
             exact ⟨stay hr' e,by first|omega|(dsimp only;omega)⟩
           · have h8:(delW w' c.key).2≠80:=by simpa using h8
             rw[if_neg h8]at e
             refine sel_intro (fun hb => ?_) (fun hb => ?_)
             · have hb:(delW w' c.key).2≠0:=by simpa using hb
               rw[stop (e:=(delW w' c.key).2) (w2:=(delW w' c.key).1) e hb];rfl
             · have hb:(delW w' c.key).2=0:=by simpa using hb
               repeat (refine And.intro rfl ?_)
               rw[i64_in _ (by omega)]
               exact ⟨stay (delW_right hb) (e.trans (Prod.ext rfl hb)),by first|omega|(dsimp only;omega)⟩
         · rw[decide_eq_false hv]
           refine sel_intro (fun _ => ?_) (fun h=>by cases h)
           rw[stop (e:=1) (w2:=w') (by rw[chW,if_neg hg,if_pos (.inr hv)]) (by decide)];rfl
       · rw[decide_eq_false hp]
         refine sel_intro (fun _ => ?_) (fun h=>by cases h)
         rw[stop (e:=1) (w2:=w') (by rw[chW,if_neg hg,if_pos (.inl hp)]) (by decide)];rfl
   · rw[List.drop_eq_nil_of_le (by omega),foldW]at hq
     rw[hq];rfl
 · rw[decide_eq_false hr,allW,if_pos hr]
   exact sel_intro (fun _=>rfl) (fun h=>by cases h)
end Go.Proofs.YtclgengkohbjjaaGreatDoor.M
