import Derived.Test.YtegndijbpiccgaaGreatDoorR5Dv
import Derived.Test.YtegndijbpiccgaaGreatDoorR5FunB
import Derived.Test.YtegndijbpiccgaaGreatDoorMirO
namespace Go.Proofs.YtegndijbpiccgaaGreatDoor.M
set_option linter.unusedVariables false
set_option linter.unusedSimpArgs false
open Go Go.Mir
set_option linter.unusedVariables false
structure Su where
 g:Int
 r:Int
 m:Int
 z:Int
def su0:Su:=⟨0,0,0,0⟩
def suV (s:Su):AV := .agg [.n (.int .i64 s.g),.n (.int .i64 s.r),.n (.int .i64 s.m),.n (.int .i64 s.z)]
def suOK (s:Su):Prop:=1≤s.g∧s.g≤1099511627776∧24≤s.z∧s.z≤2048∧(s.r=0∨(10≤s.r∧s.r<s.z))∧10≤s.m∧s.m<s.z∧s.m≠s.r
instance (s:Su):Decidable (suOK s):=by unfold suOK;infer_instance
def suH (s:Su):Heap:=[(6600000,.box [.n (.int .i64 s.g),.n (.int .i64 s.r),.n (.int .i64 s.m),.n (.int .i64 s.z)])]
theorem p110 (x:Int) (s:Su):Runs Fs 110 [.n (.int .i64 x),.ptr 6600000 0] (suH s) (.n (.bool (decide (10≤x∧x<s.z)))) (suH s):=by
 refine vc_look fs110 rfl (by kernel_rfl) ?_
 rw[suH,vc110h,(V110he _ _ _ _ _ _).down]
 refine sel_dec (fun h=>⟨?_,rfl⟩) (fun h=>⟨?_,rfl⟩)
 · congr 3;simp only[eq_iff_iff];omega
 · congr 2;rw[decide_eq_false (by omega)]
theorem no_su {s:Su} (h:¬suOK s):AV.n (D.bool false) = .n (.bool (decide (suOK s))):=by rw[decide_eq_false h]
theorem p66 (s:Su):Runs Fs 66 [suV s] [] (.n (.bool (decide (suOK s)))) []:=by
 refine vc_eq fs66 rfl ?_
 rw[suV,vc66,(V66e _ _ _ _ _).down]
 refine sel_dec (fun h1 => ?_) (fun h1=>no_su (by unfold suOK;omega))
 refine sel_dec (fun h2 => ?_) (fun h2=>no_su (by unfold suOK;omega))
 refine sel_dec (fun h3 => ?_) (fun h3=>no_su (by unfold suOK;omega))
 refine sel_dec (fun h4 => ?_) (fun h4=>no_su (by unfold suOK;omega))
 have last:(s.r=0∨(10≤s.r∧s.r<s.z))→∃x:Bool,Runs Fs 110 [.n (.int .i64 s.m),.ptr 6600000 0] (suH s) (.n (.bool x)) (suH s)∧sel x (AV.n (D.bool (s.m != s.r)) = .n (.bool (decide (suOK s)))) (AV.n (D.bool false) = .n (.bool (decide (suOK s)))):=fun hr=>by
  refine ⟨_,p110 s.m s,sel_dec (fun h5 => ?_) (fun h5=>no_su (by unfold suOK;omega))⟩
  rw[bne_dec];congr 3;simp only[eq_iff_iff];unfold suOK;omega
 refine sel_intro (fun h=>last (.inl (by simpa using h))) (fun h => ?_)
 have h0:s.r≠0:=by simpa using h
 refine ⟨_,p110 s.r s,sel_dec (fun h5=>last (.inr h5)) (fun h5=>no_su (by unfold suOK;omega))⟩
theorem p68 (s:Su):Runs Fs 68 [suV s] [] (.n (.bool (decide (suOK s)))) []:=by
 refine vc_eq fs68 rfl ?_
 rw[suV,vc68,(V68e _ _ _ _ _).down]
 refine sel_dec (fun h1=>no_su (by unfold suOK;omega)) (fun h1 => ?_)
 refine sel_dec (fun h2=>no_su (by unfold suOK;omega)) (fun h2 => ?_)
 refine sel_dec (fun h3=>no_su (by unfold suOK;omega)) (fun h3 => ?_)
 refine sel_dec (fun h4=>no_su (by unfold suOK;omega)) (fun h4 => ?_)
 have last:(s.r=0∨(10≤s.r∧s.r<s.z))→sel (decide (s.m≥10)) (sel (decide (s.m<s.z)) (AV.n (D.bool (s.m != s.r)) = .n (.bool (decide (suOK s)))) (AV.n (D.bool false) = .n (.bool (decide (suOK s))))) (AV.n (D.bool false) = .n (.bool (decide (suOK s)))):=fun hr=>by
  refine sel_dec (fun h5 => ?_) (fun h5=>no_su (by unfold suOK;omega))
  refine sel_dec (fun h6 => ?_) (fun h6=>no_su (by unfold suOK;omega))
  rw[bne_dec];congr 3;simp only[eq_iff_iff];unfold suOK;omega
 refine sel_intro (fun h => ?_) (fun h=>last (.inl (by simpa using h)))
 have h0:s.r≠0:=by simpa using h
 refine sel_dec (fun h5=>no_su (by unfold suOK;omega)) (fun h5 => ?_)
 refine sel_dec (fun h6=>no_su (by unfold suOK;omega)) (fun h6=>last (.inr (by omega)))
def SuB (s:Su):ByteArray:=cat [strOf (be s.r 2),strOf (be s.m 2),strOf (be s.z 2)]
def SuS (s:Su):ByteArray:=PageS 4 s.g (SuB s)
def SuPut (s:Su):AV:=if suOK s then .tup [.n (.str (SuS s)),.n (.int .i64 0)] else sErr 1
theorem suB_size (s:Su):(SuB s).size=6:=by
 rw[SuB,cat3_size];simp only[strOf_size,be_length]
theorem suB_data (s:Su):(SuB s).data.toList=beB s.r 2++(beB s.m 2++beB s.z 2):=by
 rw[SuB,cat3];simp only[strOf_data,be_bytes]
theorem su_pgOK {s:Su} (h:suOK s):pgOK 4 s.g (SuB s):=by
 have:=suB_size s
 obtain ⟨h1,h2,_⟩:=h
 exact ⟨by omega,by omega,by omega,h2,by omega⟩
theorem p38 (s:Su):Runs Fs 38 [suV s] [] (SuPut s) []:=by
 refine vc_eq fs38 rfl ?_
 rw[suV,vc38,(V38e _ _ _ _ _).down]
 refine ⟨_,p66 s,?_⟩
 by_cases h:suOK s
 · rw[decide_eq_true h]
   refine sel_intro (fun h=>by cases h) (fun _ => ?_)
   obtain ⟨h1,h2,h3,h4,h5,h6,h7,h8⟩:=id h
   have g1:=p79_good s.r 2 (by omega) (by omega) (by omega) (by simp;omega)
   have g2:=p79_good s.m 2 (by omega) (by omega) (by omega) (by simp;omega)
   have g3:=p79_good s.z 2 (by omega) (by omega) (by omega) (by simp;omega)
   have g4:=p83 [strOf (be s.r 2),strOf (be s.m 2),strOf (be s.z 2)] (by simp) (by simp only[sizes,strOf_size,be_length];omega)
   have g5:=p36 4 s.g (SuB s)
   rw[PutPR,if_pos (su_pgOK h)]at g5
   refine ⟨_,_,g1,_,_,g2,_,_,g3,rfl,_,g4,_,_,g5,?_⟩
   rw[SuPut,if_pos h];rfl
 · rw[decide_eq_false h]
   refine sel_intro (fun _ => ?_) (fun h=>by cases h)
   rw[SuPut,if_neg h];rfl
theorem two_bytes (n:Int) (h0:0≤n) (h1:n<65536):[D.int .u8 (IntKind.wrap .u8 (IntKind.wrap .i64 (Int.tdiv n 256))),D.int .u8 (IntKind.wrap .u8 (Int.tmod n 256))]=be n 2:=by
 have e:be n 2=[D.int .u8 (n / 256 % 256),D.int .u8 (n % 256)]:=by
  rw[be_succ,be_succ]
  simp[be]
 rw[e,u8_wrap,u8_wrap,i64_in _ (by rw[Int.tdiv_eq_ediv_of_nonneg h0];omega),Int.tdiv_eq_ediv_of_nonneg h0,Int.tmod_eq_emod_of_nonneg h0]
 congr 3
 omega
theorem p39 (s:Su) (h:suOK s):Runs Fs 39 [suV s] [] (.n (.str (SuS s))) []:=by
 refine vc_eq fs39 rfl ?_
 rw[suV,vc39,V39]
 obtain ⟨h1,h2,h3,h4,h5,h6,h7,h8⟩:=id h
 have e:[D.int .u8 (IntKind.wrap .u8 (IntKind.wrap .i64 (Int.tdiv s.r 256))),D.int .u8 (IntKind.wrap .u8 (Int.tmod s.r 256)),D.int .u8 (IntKind.wrap .u8 (IntKind.wrap .i64 (Int.tdiv s.m 256))),D.int .u8 (IntKind.wrap .u8 (Int.tmod s.m 256)),D.int .u8 (IntKind.wrap .u8 (IntKind.wrap .i64 (Int.tdiv s.z 256))),D.int .u8 (IntKind.wrap .u8 (Int.tmod s.z 256))]=be s.r 2++(be s.m 2++be s.z 2):=by
  rw[←two_bytes s.r (by omega) (by omega),←two_bytes s.m (by omega) (by omega),←two_bytes s.z (by omega) (by omega)];rfl
 rw[e]
 have e2:ByteArray.mk (List.toArray (List.map Mir.byteOf (be s.r 2++(be s.m 2++be s.z 2))))=SuB s:=by
  refine bytes_ext ?_
  rw[suB_data]
  simp only[List.map_append,be_bytes]
 rw[e2]
 have g:=p84 4 s.g (SuB s) (su_pgOK h)
 refine ⟨by decide,by decide,by decide,by decide,by decide,by decide,rfl,.inl rfl,?_,_,g,rfl⟩
 simp only[be,List.all_append,Bool.and_eq_true]
 exact ⟨all_be _ _,all_be _ _,all_be _ _⟩
def suOf (g:Int) (b:ByteArray):Su:=⟨g,num (piece b 0 2),num (piece b 2 2),num (piece b 4 2)⟩
def sGet (p:AV):Su×Int:=
 match p with
 | .tup [.agg [.n (.int _ k),.n (.int _ g),.n (.str b)],.n (.int _ e)]=>
   if e≠0 then (su0,e) else if k≠4 then (su0,40) else if b.size≠6 then (su0,4) else if suOK (suOf g b) then (suOf g b,0) else (su0,4)
 | _=>(su0,0)
def SGet (s:ByteArray):Su×Int:=sGet (GetPR s)
def duo (x:Su×Int):AV := .tup [suV x.1,.n (.int .i64 x.2)]
theorem sGet_err {e:Int} (he:e≠0):sGet (pErr e)=(su0,e):=by
 simp only[sGet,pErr,pg,if_pos he]
theorem sGet_ok (k g:Int) (b:ByteArray):sGet (.tup [pg k g b,.n (.int .i64 0)])=if k≠4 then (su0,40) else if b.size≠6 then (su0,4) else if suOK (suOf g b) then (suOf g b,0) else (su0,4):=by
 simp only[sGet,pg];rw[if_neg (by simp)]
theorem p89 (s:ByteArray) (hs:(s.size:Int)≤9223372036854775807):Runs Fs 89 [.n (.str s)] [] (duo (SGet s)) []:=by
 refine vc_eq fs89 rfl ?_
 rewrite[vc89,(V89e _ _).down,SGet]
 refine ⟨rfl,?_⟩
 rcases getP_cases s with ⟨e,he,h⟩|⟨k,g,b,h,hok,_⟩
 · have g:=p90_err s hs [4] e he h
   rw[h,sGet_err he]
   refine ⟨_,_,_,_,g,sel_intro (fun _=>rfl) (fun h=>absurd (by simpa using h) he)⟩
 · have h53:=p90_ok s hs [4] (by simp) k g b h
   rw[h,sGet_ok]
   by_cases hk:k=4
   · rw[if_pos (by simp[hk])]at h53
     rw[if_neg (by simp[hk])]
     obtain ⟨_,_,_,_,hb⟩:=hok
     refine ⟨_,_,_,_,h53,sel_intro (fun h=>by cases h) (fun _ => ?_)⟩
     have short:∀a:Int,a=0∨a=2∨a=4→a≤b.size→¬((b.size:Int) - a<2)∨b.size≠6:=fun a ha hab=>by omega
     refine ⟨fun at_ i _ p q=>0≤i∧i≤3∧at_=2*i∧2*i≤b.size∧p=(k,g,b,())∧q=(g,(if 0<i then num (piece b 0 2) else 0),(if 1<i then num (piece b 2 2) else 0),(if 2<i then num (piece b 4 2) else 0),()),
       fun _ i _ _ _=>(3 - i).toNat,⟨rfl,by omega,by omega,by omega,by omega,rfl,rfl⟩,?_⟩
     rintro at_ i q0 p q ⟨h0,h1,rfl,h2,rfl,rfl⟩ _
     refine sel_dec (fun hlt => ?_) (fun hge => ?_)
     · have g4:=p134 b (by omega) (2*i) 2
       refine ⟨h0,by omega,?_⟩
       have bad:(b.size:Int) - 2*i<2→duo (su0,4)=duo (if b.size≠6 then (su0,4) else if suOK (suOf g b) then (suOf g b,0) else (su0,4)):=fun hz=>by
         rw[if_pos (by omega)]
       refine sel_intro (fun hi => ?_) (fun hi=>sel_intro (fun hi2 => ?_) (fun hi2=>sel_intro (fun hi3 => ?_) (fun hi3 => ?_)))
       · have hi:i=0:=by simpa using hi
         subst hi
         by_cases hz:(b.size:Int) - 2*0<2
         · rw[getR_short (by omega) hz]at g4
           exact ⟨_,_,_,g4,sel_intro (fun _=>bad hz) (fun h=>by cases h)⟩
         · rw[getR_good (by omega) hz]at g4
           refine ⟨_,_,_,g4,sel_intro (fun h=>by cases h) (fun _ => ?_)⟩
           repeat (refine And.intro rfl ?_)
           rw[i64_in _ (by omega)]
           exact ⟨⟨by omega,by omega,by omega,by omega,rfl,rfl⟩,by dsimp only;omega⟩
       · have hi2:i=1:=by simpa using hi2
         subst hi2
         by_cases hz:(b.size:Int) - 2*1<2
         · rw[getR_short (by omega) hz]at g4
           exact ⟨_,_,_,g4,sel_intro (fun _=>bad hz) (fun h=>by cases h)⟩
         · rw[getR_good (by omega) hz]at g4
           refine ⟨_,_,_,g4,sel_intro (fun h=>by cases h) (fun _ => ?_)⟩
           repeat (refine And.intro rfl ?_)
           rw[i64_in _ (by omega)]
           exact ⟨⟨by omega,by omega,by omega,by omega,rfl,rfl⟩,by dsimp only;omega⟩
       · have hi3:i=2:=by simpa using hi3
         subst hi3
         by_cases hz:(b.size:Int) - 2*2<2
         · rw[getR_short (by omega) hz]at g4
           exact ⟨_,_,_,g4,sel_intro (fun _=>bad hz) (fun h=>by cases h)⟩
         · rw[getR_good (by omega) hz]at g4
           refine ⟨_,_,_,g4,sel_intro (fun h=>by cases h) (fun _ => ?_)⟩
           repeat (refine And.intro rfl ?_)
           rw[i64_in _ (by omega)]
           exact ⟨⟨by omega,by omega,by omega,by omega,rfl,rfl⟩,by dsimp only;omega⟩
       · exfalso
         have a1:i≠0:=by simpa using hi
         have a2:i≠1:=by simpa using hi2
         have a3:i≠2:=by simpa using hi3
         omega
     · obtain rfl:i=3:=by omega
       refine sel_intro (fun hne => ?_) (fun hne => ?_)
       · have hne:(2*3:Int)≠b.size:=by simpa using hne
         rw[if_pos (by omega)];rfl
       · have hne:(2*3:Int)=b.size:=by simpa using hne
         rw[if_neg (show ¬b.size≠6 by omega)]
         simp only[if_pos (show (0:Int)<3 by decide),if_pos (show (1:Int)<3 by decide),if_pos (show (2:Int)<3 by decide)]
         refine ⟨_,p66 (suOf g b),?_⟩
         by_cases hS:suOK (suOf g b)
         · rw[decide_eq_true hS,if_pos hS];rfl
         · rw[decide_eq_false hS,if_neg hS];rfl
   · rw[if_neg (by simp[hk])]at h53
     rw[if_pos hk]
     exact ⟨_,_,_,_,h53,sel_intro (fun _=>rfl) (fun h=>by cases h)⟩
theorem sget_cases (s:ByteArray):((SGet s).2=0∧suOK (SGet s).1)∨((SGet s).2≠0∧(SGet s).1=su0):=by
 unfold SGet
 rcases getP_cases s with ⟨e,he,h⟩|⟨k,g,b,h,hok,_⟩
 · rw[h,sGet_err he];exact .inr ⟨he,rfl⟩
 · rw[h,sGet_ok]
   split
   · exact .inr ⟨by decide,rfl⟩
   split
   · exact .inr ⟨by decide,rfl⟩
   split
   · rename_i h;exact .inl ⟨rfl,h⟩
   · exact .inr ⟨by decide,rfl⟩
def sAt (l:List ByteArray) (j:Nat):Su×Int:=SGet ((l[j]?).getD empS)
theorem sAt_get {l:List ByteArray} {j:Nat} (h:j<l.length):sAt l j=SGet l[j]:=by
 unfold sAt;rw[List.getElem?_eq_getElem h];rfl
theorem sAt_gen {l:List ByteArray} {j:Nat} (h:(sAt l j).2=0):1≤(sAt l j).1.g:=by
 rcases sget_cases ((l[j]?).getD empS) with ⟨_,h2⟩|⟨h1,_⟩
 · exact h2.1
 · exact absurd h h1
def Best (l:List ByteArray) (lo hi:Nat) (b:Su) (a:Int):Prop:=
 (a = -1∧b=su0∧∀j,lo≤j→j<hi→(sAt l j).2≠0) ∨
 (∃k:Nat,a=k∧lo≤k∧k<hi∧sAt l k=(b,0)∧∀j,lo≤j→j<hi→(sAt l j).2=0→(j<k→(sAt l j).1.g<b.g)∧(k<j→(sAt l j).1.g≤b.g))
theorem best_none (l:List ByteArray) (i:Nat):Best l i i su0 (-1) := .inl ⟨rfl,rfl,fun j h1 h2=>by omega⟩
theorem best_pass {l:List ByteArray} {lo i:Nat} {b:Su} {a:Int} (h:Best l lo i b a) (hn:(sAt l i).2≠0∨¬(sAt l i).1.g > b.g):Best l lo (i+1) b a:=by
 rcases h with ⟨h1,rfl,h2⟩|⟨k,rfl,h1,h2,h3,h4⟩
 · refine .inl ⟨h1,rfl,fun j hj hj2 => ?_⟩
   by_cases e:j=i
   · subst e
     rcases hn with hn|hn
     · exact hn
     · intro h0
       have:=sAt_gen h0
       simp only[su0]at hn
       omega
   · exact h2 j hj (by omega)
 · refine .inr ⟨k,rfl,h1,by omega,h3,fun j hj hj2 h0 => ?_⟩
   by_cases e:j=i
   · subst e
     refine ⟨fun h=>by omega,fun _ => ?_⟩
     rcases hn with hn|hn
     · exact absurd h0 hn
     · omega
   · exact h4 j hj (by omega) h0
theorem best_take {l:List ByteArray} {lo i:Nat} {b:Su} {a:Int} (hlo:lo≤i) (h:Best l lo i b a) (h0:(sAt l i).2=0) (hg:(sAt l i).1.g > b.g):Best l lo (i+1) (sAt l i).1 i:=by
 refine .inr ⟨i,rfl,hlo,by omega,?_,fun j hj hj2 h0'=>⟨fun hji => ?_,fun hji=>by omega⟩⟩
 · rw[←h0]
 · rcases h with ⟨h1,rfl,h2⟩|⟨k,rfl,h1,h2,h3,h4⟩
   · exact absurd h0' (h2 j hj hji)
   · by_cases e:j=k
     · subst e;rw[h3];exact hg
     · obtain ⟨g1,g2⟩:=h4 j hj hji h0'
       by_cases hlt:j<k
       · have:=g1 hlt;omega
       · have:=g2 (by omega);omega
theorem best_one {l:List ByteArray} {lo hi:Nat} {b b':Su} {a a':Int} (h:Best l lo hi b a) (h':Best l lo hi b' a'):b=b'∧a=a':=by
 rcases h with ⟨h1,rfl,h2⟩|⟨k,rfl,h1,h2,h3,h4⟩ <;> rcases h' with ⟨g1,rfl,g2⟩|⟨k',rfl,g1,g2,g3,g4⟩
 · exact ⟨rfl,by omega⟩
 · exact absurd (by rw[g3]) (h2 k' g1 g2)
 · exact absurd (by rw[h3]) (g2 k h1 h2)
 · by_cases e:k=k'
   · subst e;rw[h3]at g3;simp only[Prod.mk.injEq,and_true]at g3;exact ⟨g3,rfl⟩
   · exfalso
     have p1:=h4 k' g1 g2 (by rw[g3])
     have p2:=g4 k h1 h2 (by rw[h3])
     rw[g3]at p1
     rw[h3]at p2
     dsimp only at p1 p2
     rcases Nat.lt_or_gt_of_ne e with hlt|hlt
     · have:=p1.2 hlt;have:=p2.1 hlt;omega
     · have:=p1.1 hlt;have:=p2.2 hlt;omega
def chooV (b:Su) (a:Int):AV:=if a<0 then .tup [suV su0,.n (.int .i64 0),.n (.int .i64 120)] else .tup [suV b,.n (.int .i64 a),.n (.int .i64 0)]
theorem sg_eta (s:ByteArray):duo (SGet s) = .tup [.agg [.n (.int .i64 (SGet s).1.g),.n (.int .i64 (SGet s).1.r),.n (.int .i64 (SGet s).1.m),.n (.int .i64 (SGet s).1.z)],.n (.int .i64 (SGet s).2)]:=rfl
theorem p42 (l:List ByteArray) (hl:Fits' l):∃b a,Best l 0 l.length b a∧Runs Fs 42 [.o (.sl 1 (sl_ l))] [] (chooV b a) []:=by
 have key:∃r,Runs Fs 42 [.o (.sl 1 (sl_ l))] [] r []∧∃b a,r=chooV b a∧Best l 0 l.length b a:=by
  refine vc_runs (R:=fun r=>∃b a,r=chooV b a∧Best l 0 l.length b a) fs42 rfl ?_
  have hL:=hl.1
  rw[vc42,(V42e _ _).down,sl_len]
  refine ⟨fun at_ i q=>0≤i∧i≤l.length∧∃b:Su,q=(b.g,b.r,b.m,b.z,())∧Best l 0 i.toNat b at_,fun _ i _=>(l.length - i).toNat,⟨rfl,by omega,by omega,su0,rfl,best_none l 0⟩,?_⟩
  rintro at_ i q ⟨h0,h1,b,rfl,hb⟩ _
  refine sel_dec (fun h => ?_) (fun h => ?_)
  · have hi:i.toNat<l.length:=by omega
    have g:=p89 l[i.toNat] (hl.2 _ (List.getElem_mem hi))
    have hs:=sAt_get hi
    rw[sg_eta]at g
    rw[←hs]at g
    refine ⟨rfl,h0,_,sl_at hi,_,rfl,_,_,_,_,_,g,?_⟩
    have e1:(i+1).toNat=i.toNat+1:=by omega
    refine sel_intro (fun hz=>sel_dec (fun hg => ?_) (fun hg => ?_)) (fun hz => ?_)
    · repeat (refine And.intro rfl ?_)
      rw[i64_in _ (by omega)]
      have:=best_take (by omega) hb (by simpa using hz) hg
      rw[show ((i.toNat:Nat):Int)=i by omega]at this
      exact ⟨⟨by omega,by omega,_,rfl,by rw[e1];exact this⟩,by dsimp only;omega⟩
    · repeat (refine And.intro rfl ?_)
      rw[i64_in _ (by omega)]
      exact ⟨⟨by omega,by omega,b,rfl,by rw[e1];exact best_pass hb (.inr hg)⟩,by dsimp only;omega⟩
    · repeat (refine And.intro rfl ?_)
      rw[i64_in _ (by omega)]
      exact ⟨⟨by omega,by omega,b,rfl,by rw[e1];exact best_pass hb (.inl (by simpa using hz))⟩,by dsimp only;omega⟩
  · rw[show i.toNat=l.length by omega]at hb
    refine sel_dec (fun hlt=>⟨b,at_,by rw[chooV,if_pos hlt];rfl,hb⟩) (fun hlt=>⟨b,at_,by rw[chooV,if_neg hlt];rfl,hb⟩)
 obtain ⟨r,hr,b,a,rfl,hb⟩:=key
 exact ⟨b,a,hb,hr⟩
theorem sget_emp:(SGet empS).2≠0:=by
 obtain ⟨e,he,h⟩:=get_none
 have:SGet empS=(su0,e):=by
  unfold SGet
  rw[show empS=noB from rfl,h,sGet_err he]
 rw[this];exact he
def chS (b:Su) (a:Int):Su:=if a<0 then su0 else b
def chA (a:Int):Int:=if a<0 then 0 else a
def chE (a:Int):Int:=if a<0 then 120 else 0
theorem chooV_eq (b:Su) (a:Int):chooV b a = .tup [.agg [.n (.int .i64 (chS b a).g),.n (.int .i64 (chS b a).r),.n (.int .i64 (chS b a).m),.n (.int .i64 (chS b a).z)],.n (.int .i64 (chA a)),.n (.int .i64 (chE a))]:=by
 unfold chooV chS chA chE
 by_cases h:a<0
 · simp only[if_pos h];rfl
 · simp only[if_neg h];rfl
theorem get_selfQ {k g:Int} {b:ByteArray} (h:pgOK k g b):GetPR (PageS k g b) = .tup [pg k g b,.n (.int .i64 0)]:=
 get_back' k g b _ h (by have:=pageS_size k g b h;omega) (by
  refine bytes_ext ?_
  rw[trimS_data,PageS,trimS_data,tz_idem])
theorem suS_size (s:Su):(SuS s).size≤19:=by
 have:=trimS_size (SealS (PageB 4 s.g (SuB s)))
 rw[sealS_size,pageB_size,suB_size]at this
 exact this
theorem suOf_B {s:Su} (h:suOK s):suOf s.g (SuB s)=s:=by
 obtain ⟨h1,h2,h3,h4,h5,h6,h7,h8⟩:=h
 have hd:=suB_data s
 have e0:piece (SuB s) 0 2=beB s.r 2:=piece_mid (A:=[]) (C:=beB s.m 2++beB s.z 2) hd rfl (beB_length _ _)
 have e1:piece (SuB s) 2 2=beB s.m 2:=piece_mid (A:=beB s.r 2) (C:=beB s.z 2) hd (beB_length _ _) (beB_length _ _)
 have e2:piece (SuB s) 4 2=beB s.z 2:=piece_mid (A:=beB s.r 2++beB s.m 2) (B:=beB s.z 2) (C:=[]) (by rw[hd];simp only[List.append_assoc,List.append_nil]) (by simp[beB_length]) (beB_length _ _)
 have m:∀n:Int,0≤n→n<65536→n % 256 ^ 2=n:=fun n a b=>by
  show n % 65536=n
  omega
 unfold suOf
 rw[e0,e1,e2,num_beB,num_beB,num_beB,m _ (by omega) (by omega),m _ (by omega) (by omega),m _ (by omega) (by omega)]
theorem sget_self {s:Su} (h:suOK s):SGet (SuS s)=(s,0):=by
 unfold SGet SuS
 rw[get_selfQ (su_pgOK h),sGet_ok,if_neg (by simp),if_neg (by rw[suB_size];simp),suOf_B h,if_pos h]
def RecS (gen no:Int) (body:ByteArray):ByteArray:=PageS 5 gen (RecB no body)
theorem rget_no {s:ByteArray} {gen:Int} (h:(RGet s gen).2.2=0):0≤(RGet s gen).1∧(RGet s gen).1≤7∧(RGet s gen).2.1.size≤4000:=by
 unfold RGet at h ⊢
 rcases getP_cases s with ⟨e,he,h'⟩|⟨k,g,b,h',hok,_⟩
 · rw[h',rGet_err he]at h;exact absurd h he
 · rw[h',rGet_ok]at h ⊢
   by_cases h1:k≠5
   · rw[if_pos h1]at h;cases h
   rw[if_neg h1]at h ⊢
   by_cases h2:g≠gen∨b.size<1∨481<b.size∨7<num (piece b 0 1)
   · rw[if_pos h2]at h;cases h
   · rw[if_neg h2]
     have:=(num_bound (piece b 0 1)).1
     refine ⟨this,by omega,?_⟩
     show (b.extract 1 b.size).size≤4000
     rw[ByteArray.size_extract]
     omega
def scan (gen:Int):Nat→List ByteArray→List ByteArray
 | _,[]=>[]
 | i,b :: r=>if (RGet b gen).2.2=0∧(RGet b gen).1=i then (RGet b gen).2.1 :: scan gen (i+1) r else []
theorem scan_end (gen:Int) (i:Nat):scan gen i []=[]:=rfl
theorem scan_go {gen:Int} {i:Nat} {b:ByteArray} {r:List ByteArray} (h:(RGet b gen).2.2=0) (h2:(RGet b gen).1=i):scan gen i (b :: r)=(RGet b gen).2.1 :: scan gen (i+1) r:=by rw[scan,if_pos ⟨h,h2⟩]
theorem scan_stop {gen:Int} {i:Nat} {b:ByteArray} {r:List ByteArray} (h:(RGet b gen).2.2≠0∨(RGet b gen).1≠i):scan gen i (b :: r)=[]:=by
 rw[scan,if_neg (by rintro ⟨h1,h2⟩;rcases h with h|h <;> contradiction)]
theorem tri_eq (x:Int×ByteArray×Int):tri x = .tup [.n (.int .i64 x.1),.n (.str x.2.1),.n (.int .i64 x.2.2)]:=rfl
theorem p45 (gen:Int) (l:List ByteArray) (hl:Fits' l):Runs Fs 45 [.n (.int .i64 gen),.o (.sl 1 (sl_ l))] [] (.o (.sl 1 (sl_ (scan gen 0 l)))) []:=by
 refine vc_eq fs45 rfl ?_
 rw[vc45,(V45e _ _ _).down,sl_len]
 have hL:=hl.1
 refine ⟨fun ver i row=>0≤i∧i≤l.length∧i≤8∧∃acc:List ByteArray,row=(ver,sl_ acc)∧(acc.length:Int)=i∧acc++scan gen i.toNat (l.drop i.toNat)=scan gen 0 l,fun _ i _=>(l.length - i).toNat,⟨rfl,by omega,by omega,by omega,[],rfl,by simp,by simp⟩,?_⟩
 rintro ver i row ⟨h0,h1,h8,acc,rfl,ha,hinv⟩ _
 refine sel_dec (fun h => ?_) (fun h => ?_)
 · have hi:i.toNat<l.length:=by omega
   have g:=p93 l[i.toNat] (hl.2 _ (List.getElem_mem hi)) gen
   rw[tri_eq]at g
   rw[List.drop_eq_getElem_cons hi]at hinv
   refine ⟨rfl,h0,_,sl_at hi,_,rfl,_,_,_,g,?_⟩
   refine sel_intro (fun he=>⟨rfl,?_⟩) (fun he=>sel_intro (fun hn=>⟨rfl,?_⟩) (fun hn => ?_))
   · rw[scan_stop (.inl (by simpa using he)),List.append_nil]at hinv
     rw[hinv]
   · rw[scan_stop (.inr (by
      have:(RGet l[i.toNat] gen).1≠i:=by simpa using hn
      omega)),List.append_nil]at hinv
     rw[hinv]
   · have he:(RGet l[i.toNat] gen).2.2=0:=by simpa using he
     have hn:(RGet l[i.toNat] gen).1=i:=by simpa using hn
     have h7:=rget_no he
     rw[scan_go he (by omega)]at hinv
     refine ⟨rfl,.inl rfl,⟨⟨rfl,rfl⟩,rfl⟩,by simp only[sl_len,List.length_singleton];omega,?_⟩
     repeat (refine And.intro rfl ?_)
     rw[i64_in _ (by omega)]
     refine ⟨⟨by omega,by omega,by omega,acc++[(RGet l[i.toNat] gen).2.1],by rw[sl_snoc],by simp;omega,?_⟩,by first|omega|(dsimp only;omega)⟩
     rw[show (i+1).toNat=i.toNat+1 by omega,←hinv];simp
 · rw[List.drop_of_length_le (by omega),scan_end,List.append_nil]at hinv
   exact ⟨rfl,by rw[hinv]⟩
theorem p50 (l:List ByteArray) (hl:(l.length:Int)≤9223372036854775807):Runs Fs 50 [.o (.sl 1 (sl_ l)),.o (.sl 1 (sl_ l))] [] (.n (.bool true)) []:=by
 refine vc_eq fs50 rfl ?_
 rw[vc50,(V50e _ _ _).down,sl_len]
 refine sel_intro (fun h=>by simp at h) (fun _ => ?_)
 refine ⟨fun i=>0≤i∧i≤l.length,fun i=>(l.length - i).toNat,⟨rfl,by omega,by omega⟩,?_⟩
 rintro i ⟨h0,h1⟩ _
 refine sel_dec (fun h => ?_) (fun _=>rfl)
 have hi:i.toNat<l.length:=by omega
 refine ⟨rfl,h0,_,sl_at hi,_,rfl,rfl,h0,_,sl_at hi,_,rfl,?_⟩
 refine sel_intro (fun h=>by simp at h) (fun _ => ?_)
 repeat (refine And.intro rfl ?_)
 rw[i64_in _ (by omega)]
 exact ⟨⟨by omega,by omega⟩,by first|omega|(dsimp only;omega)⟩
def rows (gen:Int):Nat→List ByteArray→List ByteArray
 | _,[]=>[]
 | k,b :: r=>RecS gen k b :: rows gen (k+1) r
end Go.Proofs.YtegndijbpiccgaaGreatDoor.M
