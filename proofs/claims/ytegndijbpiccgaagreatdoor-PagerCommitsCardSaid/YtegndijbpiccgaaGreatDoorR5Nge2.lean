import Derived.Test.YtegndijbpiccgaaGreatDoorR5L
import Derived.Test.YtegndijbpiccgaaGreatDoorR5LV
namespace Go.Proofs.YtegndijbpiccgaaGreatDoor.M
set_option linter.unusedVariables false
set_option linter.unusedSimpArgs false
open Go Go.Mir
set_option linter.unusedVariables false
def bl:List UInt8→List UInt8→Bool:=Op.bytesLess
def lt (a b:ByteArray):Bool:=Op.bytesLess a.toList b.toList
theorem bl_irr:∀a,bl a a=false
 | []=>rfl
 | x :: r=>by
   show Op.bytesLess (x :: r) (x :: r)=false
   simp only[Op.bytesLess]
   simpa[bl] using bl_irr r
theorem bl_cons (x y:UInt8) (r s:List UInt8):bl (x :: r) (y :: s)=(decide (x.toNat<y.toNat)||(decide (x.toNat=y.toNat)&&bl r s)):=by
 show Op.bytesLess (x :: r) (y :: s)=_
 simp only[Op.bytesLess,bl]
 by_cases h1:x<y
 · have:=UInt8.lt_iff_toNat_lt.1 h1
   simp[h1,this]
 · have h1':¬x.toNat<y.toNat:=fun h=>h1 (UInt8.lt_iff_toNat_lt.2 h)
   by_cases h2:x=y
   · subst h2;simp
   · have h2':x.toNat≠y.toNat:=fun h=>h2 (UInt8.toNat_inj.1 h)
     by_cases h3:y<x
     · simp[h1,h1',h2',h3,h2]
     · simp[h1,h1',h2',h3,h2]
theorem bl_trans:∀ {a b c:List UInt8},bl a b=true→bl b c=true→bl a c=true
 | [],[],_,h,_=>by cases h
 | [],_ :: _,[],_,h=>by cases h
 | [],_ :: _,_ :: _,_,_=>rfl
 | _ :: _,[],_,h,_=>by cases h
 | _ :: _,_ :: _,[],_,h=>by cases h
 | x :: r,y :: s,z :: t,h1,h2=>by
   rw[bl_cons]at h1 h2 ⊢
   simp only[Bool.or_eq_true,Bool.and_eq_true,decide_eq_true_eq]at h1 h2 ⊢
   rcases h1 with h1|⟨h1,h1'⟩ <;> rcases h2 with h2|⟨h2,h2'⟩
   · exact .inl (by omega)
   · exact .inl (by omega)
   · exact .inl (by omega)
   · exact .inr ⟨by omega,bl_trans h1' h2'⟩
theorem bl_tri:∀(a b:List UInt8),bl a b=true∨a=b∨bl b a=true
 | [],[] => .inr (.inl rfl)
 | [],_ :: _ => .inl rfl
 | _ :: _,[] => .inr (.inr rfl)
 | x :: r,y :: s=>by
   rw[bl_cons,bl_cons]
   simp only[Bool.or_eq_true,Bool.and_eq_true,decide_eq_true_eq]
   rcases Nat.lt_trichotomy x.toNat y.toNat with h|h|h
   · exact .inl (.inl h)
   · rcases bl_tri r s with h2|h2|h2
     · exact .inl (.inr ⟨h,h2⟩)
     · subst h2
       rw[UInt8.toNat_inj.1 h]
       exact .inr (.inl rfl)
     · exact .inr (.inr (.inr ⟨h.symm,h2⟩))
   · exact .inr (.inr (.inl h))
theorem lt_irr (a:ByteArray):lt a a=false:=bl_irr _
theorem lt_trans {a b c:ByteArray} (h1:lt a b=true) (h2:lt b c=true):lt a c=true:=bl_trans h1 h2
theorem lt_tri (a b:ByteArray):lt a b=true∨a=b∨lt b a=true:=by
 rcases bl_tri a.toList b.toList with h|h|h
 · exact .inl h
 · refine .inr (.inl (bytes_ext ?_))
   rw[←toList_data,←toList_data,h]
 · exact .inr (.inr h)
theorem lt_asym {a b:ByteArray} (h:lt a b=true):lt b a=false:=by
 cases h2:lt b a with
 | false=>rfl
 | true=>have:=lt_trans h h2;rw[lt_irr]at this;cases this
theorem lt_ne {a b:ByteArray} (h:lt a b=true):a≠b:=fun e=>by subst e;rw[lt_irr]at h;cases h
theorem nlt_iff {a b:ByteArray}:lt a b=false ↔ a=b∨lt b a=true:=by
 refine ⟨fun h => ?_,?_⟩
 · rcases lt_tri a b with h2|h2|h2
   · rw[h]at h2;cases h2
   · exact .inl h2
   · exact .inr h2
 · rintro (rfl|h)
   · exact lt_irr _
   · exact lt_asym h
theorem lt_nlt {a b c:ByteArray} (h1:lt a b=true) (h2:lt c b=false):lt a c=true:=by
 rcases nlt_iff.1 h2 with rfl|h
 · exact h1
 · exact lt_trans h1 h
theorem le_eq (a b:ByteArray):((Go.Op.bytesLess (ByteArray.toList a) (ByteArray.toList b))||((ByteArray.toList a)==(ByteArray.toList b))) = !(lt b a):=by
 show (lt a b||(a.toList==b.toList)) = !(lt b a)
 rw[beq_dec]
 rcases lt_tri a b with h|h|h
 · rw[h,lt_asym h];rfl
 · subst h;rw[lt_irr];simp
 · rw[h,lt_asym h,decide_eq_false (fun e=>lt_ne h e.symm)];rfl
structure Nd where
 leaf:Bool
 keys:List ByteArray
 vals:List ByteArray
 kids:List Int
def nd0:Nd:=⟨false,[],[],[]⟩
def il (l:List Int):List Mir.D:=l.map (.int .i64)
theorem il_len (l:List Int):(il l).length=l.length:=by simp[il]
theorem il_at {l:List Int} {i:Nat} (h:i<l.length):(il l)[i]?=some (.int .i64 l[i]):=by simp[il,h]
def ndV (n:Nd):AV := .agg [.n (.bool n.leaf),.o (.sl 1 (sl_ n.keys)),.o (.sl 1 (sl_ n.vals)),.o (.sl 1 (il n.kids))]
theorem nat_eq {a:Nat} {b:Int} (h:(((a:Nat):Int)==b)=true):(a:Int)=b:=by simpa using h
theorem nat_ne {a:Nat} {b:Int} (h:(((a:Nat):Int)==b)=false):(a:Int)≠b:=by simpa using h
theorem nil_of {α:Type} {l:List α} (h:(((l.length:Nat):Int)==0)=true):l=[]:=List.length_eq_zero_iff.1 (by have:=nat_eq h;omega)
abbrev Small (n:Nat):Prop:=(n:Int)≤9223372036854775807
theorem p112 (s:ByteArray):Runs Fs2 112 [.n (.str s)] [] (.n (.bool (decide ((s.size:Int) > 4096)))) []:=by
 refine vc_eq fs112 rfl ?_
 rewrite[vc112,(V112e _ _).down];rfl
theorem p218 (s:ByteArray):Runs Fs2 218 [.n (.str s)] [] (.n (.bool (decide ((s.size:Int) > 200)))) []:=by
 refine vc_eq fs218 rfl ?_
 rw[vc218];rfl
theorem p220 (b:Int):Runs Fs2 220 [.n (.int .i64 b)] [] (.n (.bool (decide (b<10∨b≥2048)))) []:=by
 refine vc_eq fs220 rfl ?_
 rw[vc220,V220]
 refine sel_dec (fun h=>by rw[decide_eq_true (.inl h)]) (fun h => ?_)
 congr 2;simp only[decide_eq_decide];omega
theorem any_up {α:Type} {l:List α} {p:α→Bool} {i:Int} (h0:0≤i) (h:¬i<l.length) (hi:∀(j:Nat) (h:j<l.length),(j:Int)<i→p l[j]=false):l.any p=false:=by
 refine List.any_eq_false.2 fun x hx => ?_
 obtain ⟨j,hj,rfl⟩:=List.getElem_of_mem hx
 rw[hi j hj (by omega)];simp
theorem any_at {α:Type} {l:List α} {p:α→Bool} {i:Nat} (h:i<l.length) (hp:p l[i]=true):l.any p=true:=List.any_eq_true.2 ⟨_,List.getElem_mem h,hp⟩
theorem step_up {α:Type} {l:List α} {p:α→Bool} {i:Int} (h0:0≤i) (hlt:i.toNat<l.length) (hp:p l[i.toNat]=false) (hi:∀(j:Nat) (h:j<l.length),(j:Int)<i→p l[j]=false):∀(j:Nat) (h:j<l.length),(j:Int)<i+1→p l[j]=false:=fun j h hj=>by
 by_cases e:(j:Int)<i
 · exact hi j h e
 · obtain rfl:j=i.toNat:=by omega
   exact hp
theorem p146p (l:List ByteArray) (hl:Small l.length):∃r:Int,decide (r≥0)=l.any (fun s=>decide ((s.size:Int) > 4096))∧Runs Fs2 146 [.o (.sl 1 (sl_ l)),.fn 112 []] [] (.n (.int .i64 r)) []:=by
 have key:∃r,Runs Fs2 146 [.o (.sl 1 (sl_ l)),.fn 112 []] [] r []∧∃k:Int,r = .n (.int .i64 k)∧decide (k≥0)=l.any (fun s=>decide ((s.size:Int) > 4096)):=by
  refine vc_runs (R:=fun r=>∃k:Int,r = .n (.int .i64 k)∧decide (k≥0)=l.any (fun s=>decide ((s.size:Int) > 4096))) fs146 rfl ?_
  rw[vc146p,(V146pe _ _).down,sl_len]
  refine ⟨fun i=>0≤i∧i≤l.length∧∀(j:Nat) (h:j<l.length),(j:Int)<i→decide ((l[j].size:Int) > 4096)=false,fun i=>(l.length - i).toNat,⟨rfl,by omega,by omega,fun j _ hj=>by omega⟩,?_⟩
  rintro i ⟨h0,h1,hok⟩ _
  refine sel_dec (fun h => ?_) (fun h=>⟨-1,rfl,?_⟩)
  · have hi:i.toNat<l.length:=by omega
    refine ⟨rfl,h0,_,sl_at hi,_,rfl,_,p112 _,sel_intro (fun hb=>⟨i,rfl,?_⟩) (fun hb => ?_)⟩
    · rw[decide_eq_true h0];exact (any_at (p:=fun s:ByteArray=>decide ((s.size:Int) > 4096)) hi hb).symm
    · repeat (refine And.intro rfl ?_)
      rw[i64_in _ (by omega)]
      exact ⟨⟨by omega,by omega,step_up (p:=fun s:ByteArray=>decide ((s.size:Int) > 4096)) h0 hi hb hok⟩,by first|omega|(dsimp only;omega)⟩
  · exact (any_up (p:=fun s:ByteArray=>decide ((s.size:Int) > 4096)) h0 h hok).symm
 obtain ⟨r,hr,k,rfl,hk⟩:=key
 exact ⟨k,hk,hr⟩
theorem p111p (l:List ByteArray) (hl:Small l.length):Runs Fs2 111 [.o (.sl 1 (sl_ l)),.fn 112 []] [] (.n (.bool (l.any fun s=>decide ((s.size:Int) > 4096)))) []:=by
 refine vc_eq fs111 rfl ?_
 rewrite[vc111p,(V111pe _ _).down]
 obtain ⟨r,hr,h⟩:=p146p l hl
 exact ⟨r,h,by rw[hr]⟩
theorem p146q (l:List ByteArray) (hl:Small l.length):∃r:Int,decide (r≥0)=l.any (fun s=>decide ((s.size:Int) > 200))∧Runs Fs2 146 [.o (.sl 1 (sl_ l)),.fn 218 []] [] (.n (.int .i64 r)) []:=by
 have key:∃r,Runs Fs2 146 [.o (.sl 1 (sl_ l)),.fn 218 []] [] r []∧∃k:Int,r = .n (.int .i64 k)∧decide (k≥0)=l.any (fun s=>decide ((s.size:Int) > 200)):=by
  refine vc_runs (R:=fun r=>∃k:Int,r = .n (.int .i64 k)∧decide (k≥0)=l.any (fun s=>decide ((s.size:Int) > 200))) fs146 rfl ?_
  rw[vc146q,(V146qe _ _).down,sl_len]
  refine ⟨fun i=>0≤i∧i≤l.length∧∀(j:Nat) (h:j<l.length),(j:Int)<i→decide ((l[j].size:Int) > 200)=false,fun i=>(l.length - i).toNat,⟨rfl,by omega,by omega,fun j _ hj=>by omega⟩,?_⟩
  rintro i ⟨h0,h1,hok⟩ _
  refine sel_dec (fun h => ?_) (fun h=>⟨-1,rfl,?_⟩)
  · have hi:i.toNat<l.length:=by omega
    refine ⟨rfl,h0,_,sl_at hi,_,rfl,_,p218 _,sel_intro (fun hb=>⟨i,rfl,?_⟩) (fun hb => ?_)⟩
    · rw[decide_eq_true h0];exact (any_at (p:=fun s:ByteArray=>decide ((s.size:Int) > 200)) hi hb).symm
    · repeat (refine And.intro rfl ?_)
      rw[i64_in _ (by omega)]
      exact ⟨⟨by omega,by omega,step_up (p:=fun s:ByteArray=>decide ((s.size:Int) > 200)) h0 hi hb hok⟩,by first|omega|(dsimp only;omega)⟩
  · exact (any_up (p:=fun s:ByteArray=>decide ((s.size:Int) > 200)) h0 h hok).symm
 obtain ⟨r,hr,k,rfl,hk⟩:=key
 exact ⟨k,hk,hr⟩
theorem p111q (l:List ByteArray) (hl:Small l.length):Runs Fs2 111 [.o (.sl 1 (sl_ l)),.fn 218 []] [] (.n (.bool (l.any fun s=>decide ((s.size:Int) > 200)))) []:=by
 refine vc_eq fs111 rfl ?_
 rewrite[vc111q,(V111qe _ _).down]
 obtain ⟨r,hr,h⟩:=p146q l hl
 exact ⟨r,h,by rw[hr]⟩
theorem p239p (l:List Int) (hl:Small l.length):∃r:Int,decide (r≥0)=l.any (fun b=>decide (b<10∨b≥2048))∧Runs Fs2 239 [.o (.sl 1 (il l)),.fn 220 []] [] (.n (.int .i64 r)) []:=by
 have key:∃r,Runs Fs2 239 [.o (.sl 1 (il l)),.fn 220 []] [] r []∧∃k:Int,r = .n (.int .i64 k)∧decide (k≥0)=l.any (fun b=>decide (b<10∨b≥2048)):=by
  refine vc_runs (R:=fun r=>∃k:Int,r = .n (.int .i64 k)∧decide (k≥0)=l.any (fun b=>decide (b<10∨b≥2048))) fs239 rfl ?_
  rw[vc239p,(V239pe _ _).down,il_len]
  refine ⟨fun i=>0≤i∧i≤l.length∧∀(j:Nat) (h:j<l.length),(j:Int)<i→decide (l[j]<10∨l[j]≥2048)=false,fun i=>(l.length - i).toNat,⟨rfl,by omega,by omega,fun j _ hj=>by omega⟩,?_⟩
  rintro i ⟨h0,h1,hok⟩ _
  refine sel_dec (fun h => ?_) (fun h=>⟨-1,rfl,?_⟩)
  · have hi:i.toNat<l.length:=by omega
    refine ⟨rfl,h0,_,il_at hi,_,rfl,_,p220 _,sel_intro (fun hb=>⟨i,rfl,?_⟩) (fun hb => ?_)⟩
    · rw[decide_eq_true h0];exact (any_at (p:=fun b:Int=>decide (b<10∨b≥2048)) hi hb).symm
    · repeat (refine And.intro rfl ?_)
      rw[i64_in _ (by omega)]
      exact ⟨⟨by omega,by omega,step_up (p:=fun b:Int=>decide (b<10∨b≥2048)) h0 hi hb hok⟩,by first|omega|(dsimp only;omega)⟩
  · exact (any_up (p:=fun b:Int=>decide (b<10∨b≥2048)) h0 h hok).symm
 obtain ⟨r,hr,k,rfl,hk⟩:=key
 exact ⟨k,hk,hr⟩
theorem p219p (l:List Int) (hl:Small l.length):Runs Fs2 219 [.o (.sl 1 (il l)),.fn 220 []] [] (.n (.bool (l.any fun b=>decide (b<10∨b≥2048)))) []:=by
 refine vc_eq fs219 rfl ?_
 rewrite[vc219p,(V219pe _ _).down]
 obtain ⟨r,hr,h⟩:=p239p l hl
 exact ⟨r,h,by rw[hr]⟩
def kOK (l:List ByteArray) (i:Nat):Prop:=∀(j:Nat) (h:j<l.length),j<i→1≤l[j].size∧l[j].size≤32∧(∀(h2:0<j),lt (l[j - 1]'(by omega)) l[j]=true)
def KOK (l:List ByteArray):Prop:=kOK l l.length
def Stands (n:Nd):Prop:=n.keys.length≤9∧KOK n.keys ∧
 ((n.leaf=true∧n.kids=[]∧n.vals.length=n.keys.length∧∀v∈n.vals,v.size≤200) ∨
  (n.leaf=false∧n.vals=[]∧1≤n.keys.length∧n.kids.length=n.keys.length+1∧∀b∈n.kids,10≤b∧b<2048))
noncomputable instance (n:Nd):Decidable (Stands n):=Classical.propDecidable _
def NdOK (n:Nd) (root:Bool):Prop:=Stands n∧n.keys.length≤8∧(root=true∨4≤n.keys.length)
noncomputable instance (n:Nd) (root:Bool):Decidable (NdOK n root):=Classical.propDecidable _
theorem no_st {n:Nd} (h:¬Stands n):AV.n (D.bool false) = .n (.bool (decide (Stands n))):=by rw[decide_eq_false h]
theorem kOK_zero (l:List ByteArray):kOK l 0:=fun j _ h=>by omega
theorem kOK_step {l:List ByteArray} {i:Nat} (h:kOK l i) (hi:i<l.length) (h1:1≤l[i].size) (h2:l[i].size≤32) (h3:∀(h0:0<i),lt (l[i - 1]'(by omega)) l[i]=true):kOK l (i+1):=fun j hj hji=>by
 by_cases e:j=i
 · subst e;exact ⟨h1,h2,h3⟩
 · exact h j hj (by omega)
theorem kOK_bad {l:List ByteArray} {i:Nat} (hi:i<l.length) (h:¬(1≤l[i].size∧l[i].size≤32∧(∀(h0:0<i),lt (l[i - 1]'(by omega)) l[i]=true))):¬KOK l:=fun hk=>h (hk i hi hi)
def NdFits (n:Nd):Prop:=Small n.keys.length∧Small n.vals.length∧Small n.kids.length
theorem p197 (n:Nd) (hf:NdFits n):Runs Fs2 197 [ndV n] [] (.n (.bool (decide (Stands n)))) []:=by
 obtain ⟨f1,f2,f3⟩:=hf
 refine vc_eq fs197 rfl ?_
 rw[ndV,vc197,(V197e _ _ _ _ _).down,sl_len,sl_len,il_len]
 refine sel_dec (fun h=>no_st (by unfold Stands;omega)) (fun h9 => ?_)
 refine ⟨fun i=>0≤i∧i≤n.keys.length∧kOK n.keys i.toNat,fun i=>(n.keys.length - i).toNat,⟨rfl,by omega,by omega,kOK_zero _⟩,?_⟩
 rintro i ⟨h0,h1,hk⟩ _
 refine sel_dec (fun hlt => ?_) (fun hge => ?_)
 · have hi:i.toNat<n.keys.length:=by omega
   have bad:¬(1≤n.keys[i.toNat].size∧n.keys[i.toNat].size≤32∧(∀(h0:0<i.toNat),lt (n.keys[i.toNat - 1]'(by omega)) n.keys[i.toNat]=true))→¬Stands n:=fun h hs=>kOK_bad hi h hs.2.1
   have e1:(i+1).toNat=i.toNat+1:=by omega
   refine ⟨rfl,h0,_,sl_at hi,_,rfl,sel_dec (fun h=>no_st (bad (by omega))) (fun ha=>sel_dec (fun h=>no_st (bad (by omega))) (fun hb=>sel_dec (fun hp => ?_) (fun hp => ?_)))⟩
   · have hj:(IntKind.wrap .i64 (i - 1)).toNat=i.toNat - 1:=by rw[i64_in _ (by omega)];omega
     have hj':i.toNat - 1<n.keys.length:=by omega
     refine ⟨rfl,by rw[i64_in _ (by omega)];omega,_,by rw[hj];exact sl_at hj',_,rfl,?_⟩
     rw[le_eq]
     refine sel_intro (fun hc=>no_st (bad fun h => ?_)) (fun hc => ?_)
     · rw[h.2.2 (by omega)]at hc;cases hc
     · repeat (refine And.intro rfl ?_)
       rw[i64_in _ (by omega)]
       refine ⟨⟨by omega,by omega,?_⟩,by first|omega|(dsimp only;omega)⟩
       rw[e1]
       exact kOK_step hk hi (by omega) (by omega) fun _=>by simpa using hc
   · repeat (refine And.intro rfl ?_)
     rw[i64_in _ (by omega)]
     refine ⟨⟨by omega,by omega,?_⟩,by first|omega|(dsimp only;omega)⟩
     rw[e1]
     exact kOK_step hk hi (by omega) (by omega) fun h=>by omega
 · rw[show i.toNat=n.keys.length by omega]at hk
   refine sel_intro (fun hl => ?_) (fun hl => ?_)
   · refine sel_intro (fun h => ?_) (fun h=>no_st fun hs => ?_)
     · have hz:n.kids=[]:=nil_of h
       refine sel_intro (fun h => ?_) (fun h=>no_st fun hs => ?_)
       · have hv:n.vals.length=n.keys.length:=by have:=nat_eq h;omega
         refine ⟨_,p111q n.vals f2,?_⟩
         congr 2
         refine (Bool.eq_iff_iff.2 ⟨fun h => ?_,fun h => ?_⟩)
         · refine decide_eq_true ⟨by omega,hk,.inl ⟨hl,hz,hv,fun v hm => ?_⟩⟩
           have h2:(n.vals.any fun s=>decide ((s.size:Int) > 200))=false:=by simpa using h
           have:=List.any_eq_false.1 h2 v hm
           have:¬(v.size:Int) > 200:=by simpa using this
           omega
         · have hs:=of_decide_eq_true h
           rcases hs.2.2 with ⟨_,_,_,hv2⟩|⟨h2,_⟩
           · have:(n.vals.any fun s=>decide ((s.size:Int) > 200))=false:=List.any_eq_false.2 fun v hm=>by
               have:=hv2 v hm
               simp;omega
             rw[this];rfl
           · rw[hl]at h2;cases h2
       · have hv:(n.vals.length:Int)≠n.keys.length:=by simpa using h
         rcases hs.2.2 with ⟨_,_,h3,_⟩|⟨h2,_⟩
         · omega
         · rw[hl]at h2;cases h2
     · have hv:(n.kids.length:Int)≠0:=by simpa using h
       rcases hs.2.2 with ⟨_,h3,_⟩|⟨h2,_⟩
       · rw[h3]at hv;exact hv rfl
       · rw[hl]at h2;cases h2
   · refine sel_intro (fun h => ?_) (fun h=>no_st fun hs => ?_)
     · have hz:n.vals=[]:=nil_of h
       refine sel_dec (fun h1 => ?_) (fun h1=>no_st fun hs => ?_)
       · rw[i64_in _ (by omega)]
         refine sel_intro (fun h => ?_) (fun h=>no_st fun hs => ?_)
         · have hv:n.kids.length=n.keys.length+1:=by have:=nat_eq h;omega
           refine ⟨_,p219p n.kids f3,?_⟩
           congr 2
           refine (Bool.eq_iff_iff.2 ⟨fun h => ?_,fun h => ?_⟩)
           · refine decide_eq_true ⟨by omega,hk,.inr ⟨hl,hz,by omega,hv,fun b hm => ?_⟩⟩
             have h2:(n.kids.any fun b=>decide (b<10∨b≥2048))=false:=by simpa using h
             have:=List.any_eq_false.1 h2 b hm
             have:¬(b<10∨b≥2048):=by simpa using this
             omega
           · have hs:=of_decide_eq_true h
             rcases hs.2.2 with ⟨h2,_⟩|⟨_,_,_,_,hv2⟩
             · rw[hl]at h2;cases h2
             · have:(n.kids.any fun b=>decide (b<10∨b≥2048))=false:=List.any_eq_false.2 fun b hm=>by
                have:=hv2 b hm
                simp;omega
               rw[this];rfl
         · have hv:(n.kids.length:Int)≠n.keys.length+1:=by simpa using h
           rcases hs.2.2 with ⟨h2,_⟩|⟨_,_,_,h3,_⟩
           · rw[hl]at h2;cases h2
           · omega
       · rcases hs.2.2 with ⟨h2,_⟩|⟨_,_,h3,_,_⟩
         · rw[hl]at h2;cases h2
         · omega
     · have hv:(n.vals.length:Int)≠0:=by simpa using h
       rcases hs.2.2 with ⟨h2,_⟩|⟨_,h3,_⟩
       · rw[hl]at h2;cases h2
       · rw[h3]at hv;exact hv rfl
theorem p185 (n:Nd) (hf:NdFits n):Runs Fs2 185 [ndV n] [] (.n (.bool (decide (Stands n)))) []:=by
 obtain ⟨f1,f2,f3⟩:=hf
 refine vc_eq fs185 rfl ?_
 rw[ndV,vc185,(V185e _ _ _ _ _).down,sl_len,sl_len,il_len]
 refine sel_dec (fun h=>no_st (by unfold Stands;omega)) (fun h9 => ?_)
 refine ⟨fun i=>0≤i∧i≤n.keys.length∧kOK n.keys i.toNat,fun i=>(n.keys.length - i).toNat,⟨rfl,by omega,by omega,kOK_zero _⟩,?_⟩
 rintro i ⟨h0,h1,hk⟩ _
 refine sel_dec (fun hlt => ?_) (fun hge => ?_)
 · have hi:i.toNat<n.keys.length:=by omega
   have bad:¬(1≤n.keys[i.toNat].size∧n.keys[i.toNat].size≤32∧(∀(h0:0<i.toNat),lt (n.keys[i.toNat - 1]'(by omega)) n.keys[i.toNat]=true))→¬Stands n:=fun h hs=>kOK_bad hi h hs.2.1
   have e1:(i+1).toNat=i.toNat+1:=by omega
   refine ⟨rfl,h0,_,sl_at hi,_,rfl,sel_dec (fun h=>no_st (bad (by omega))) (fun ha=>sel_dec (fun h=>no_st (bad (by omega))) (fun hb=>sel_dec (fun hp => ?_) (fun hp => ?_)))⟩
   · have hj:(IntKind.wrap .i64 (i - 1)).toNat=i.toNat - 1:=by rw[i64_in _ (by omega)];omega
     have hj':i.toNat - 1<n.keys.length:=by omega
     refine ⟨rfl,by rw[i64_in _ (by omega)];omega,_,by rw[hj];exact sl_at hj',_,rfl,?_⟩
     rw[le_eq]
     refine sel_intro (fun hc=>no_st (bad fun h => ?_)) (fun hc => ?_)
     · rw[h.2.2 (by omega)]at hc;cases hc
     · repeat (refine And.intro rfl ?_)
       rw[i64_in _ (by omega)]
       refine ⟨⟨by omega,by omega,?_⟩,by first|omega|(dsimp only;omega)⟩
       rw[e1]
       exact kOK_step hk hi (by omega) (by omega) fun _=>by simpa using hc
   · repeat (refine And.intro rfl ?_)
     rw[i64_in _ (by omega)]
     refine ⟨⟨by omega,by omega,?_⟩,by first|omega|(dsimp only;omega)⟩
     rw[e1]
     exact kOK_step hk hi (by omega) (by omega) fun h=>by omega
 · rw[show i.toNat=n.keys.length by omega]at hk
   refine ⟨fun i=>0≤i∧i≤n.vals.length∧∀(j:Nat) (h:j<n.vals.length),(j:Int)<i→n.vals[j].size≤200,fun i=>(n.vals.length - i).toNat,⟨rfl,by omega,by omega,fun j _ h=>by omega⟩,?_⟩
   rintro i ⟨h0,h1,hv⟩ _
   refine sel_dec (fun hlt => ?_) (fun hge => ?_)
   · have hi:i.toNat<n.vals.length:=by omega
     refine ⟨rfl,h0,_,sl_at hi,_,rfl,sel_dec (fun h=>no_st fun hs => ?_) (fun h => ?_)⟩
     · rcases hs.2.2 with ⟨_,_,_,h3⟩|⟨_,h3,_⟩
       · have:=h3 _ (List.getElem_mem hi);omega
       · rw[h3]at hi;simp at hi
     · repeat (refine And.intro rfl ?_)
       rw[i64_in _ (by omega)]
       refine ⟨⟨by omega,by omega,fun j hj hji => ?_⟩,by first|omega|(dsimp only;omega)⟩
       by_cases e:(j:Int)<i
       · exact hv j hj e
       · obtain rfl:j=i.toNat:=by omega
         omega
   · have hv':∀v∈n.vals,v.size≤200:=fun v hm=>by
       obtain ⟨j,hj,rfl⟩:=List.getElem_of_mem hm
       exact hv j hj (by omega)
     refine ⟨fun i=>0≤i∧i≤n.kids.length∧∀(j:Nat) (h:j<n.kids.length),(j:Int)<i→10≤n.kids[j]∧n.kids[j]<2048,fun i=>(n.kids.length - i).toNat,⟨rfl,by omega,by omega,fun j _ h=>by omega⟩,?_⟩
     rintro i ⟨h0,h1,hb⟩ _
     have kb:∀(hi:i.toNat<n.kids.length),¬(10≤n.kids[i.toNat]∧n.kids[i.toNat]<2048)→¬Stands n:=fun hi h hs=>by
       rcases hs.2.2 with ⟨_,h3,_⟩|⟨_,_,_,_,h3⟩
       · rw[h3]at hi;simp at hi
       · exact h (h3 _ (List.getElem_mem hi))
     refine sel_dec (fun hlt => ?_) (fun hge => ?_)
     · have hi:i.toNat<n.kids.length:=by omega
       refine ⟨rfl,h0,_,il_at hi,_,rfl,sel_dec (fun h=>no_st (kb hi (by omega))) (fun h=>sel_dec (fun h2=>no_st (kb hi (by omega))) (fun h2 => ?_))⟩
       repeat (refine And.intro rfl ?_)
       rw[i64_in _ (by omega)]
       refine ⟨⟨by omega,by omega,fun j hj hji => ?_⟩,by first|omega|(dsimp only;omega)⟩
       by_cases e:(j:Int)<i
       · exact hb j hj e
       · obtain rfl:j=i.toNat:=by omega
         omega
     · have hb':∀b∈n.kids,10≤b∧b<2048:=fun b hm=>by
         obtain ⟨j,hj,rfl⟩:=List.getElem_of_mem hm
         exact hb j hj (by omega)
       have other:∀ {a:Bool},n.leaf=a→∀ {x:Bool},n.leaf=x→x=a:=fun h _ h2=>h2▸h
       refine sel_intro (fun hl => ?_) (fun hl => ?_)
       · refine sel_intro (fun h => ?_) (fun h=>no_st fun hs => ?_)
         · have e:=nat_eq h
           congr 2
           refine Bool.eq_iff_iff.2 ⟨fun h=>decide_eq_true ⟨by omega,hk,.inl ⟨hl,nil_of h,by omega,hv'⟩⟩,fun h => ?_⟩
           rcases (of_decide_eq_true h).2.2 with ⟨_,h3,_⟩|⟨h3,_⟩
           · rw[h3];rfl
           · rw[hl]at h3;cases h3
         · have e:=nat_ne h
           rcases hs.2.2 with ⟨_,_,h3,_⟩|⟨h3,_⟩
           · omega
           · rw[hl]at h3;cases h3
       · refine sel_intro (fun h=>sel_dec (fun h1 => ?_) (fun h1=>no_st fun hs => ?_)) (fun h=>no_st fun hs => ?_)
         · rw[i64_in _ (by omega)]
           congr 2
           refine Bool.eq_iff_iff.2 ⟨fun h2 => ?_,fun h2 => ?_⟩
           · have e:=nat_eq h2
             exact decide_eq_true ⟨by omega,hk,.inr ⟨hl,nil_of h,by omega,by omega,hb'⟩⟩
           · rcases (of_decide_eq_true h2).2.2 with ⟨h3,_⟩|⟨_,_,_,h3,_⟩
             · rw[hl]at h3;cases h3
             · rw[h3];simp
         · rcases hs.2.2 with ⟨h3,_⟩|⟨_,_,h3,_⟩
           · rw[hl]at h3;cases h3
           · omega
         · have e:=nat_ne h
           rcases hs.2.2 with ⟨h3,_⟩|⟨_,h3,_⟩
           · rw[hl]at h3;cases h3
           · rw[h3]at e;exact e rfl
theorem p195 (n:Nd) (root:Bool) (hf:NdFits n):Runs Fs2 195 [ndV n,.n (.bool root)] [] (.n (.bool (decide (NdOK n root)))) []:=by
 have no:¬NdOK n root→AV.n (D.bool false) = .n (.bool (decide (NdOK n root))):=fun h=>by rw[decide_eq_false h]
 refine vc_eq fs195 rfl ?_
 rw[ndV,vc195,(V195e _ _ _ _ _ _).down,sl_len]
 refine ⟨_,p197 n hf,?_⟩
 by_cases hs:Stands n
 · rw[decide_eq_true hs]
   refine sel_intro (fun _=>sel_dec (fun h8=>sel_intro (fun hr => ?_) (fun hr => ?_)) (fun h8=>no (by unfold NdOK;omega))) (fun h=>by cases h)
   · rw[decide_eq_true (p:=NdOK n root) ⟨hs,by omega,.inl hr⟩]
   · congr 2
     simp only[decide_eq_decide]
     exact ⟨fun h=>⟨hs,by omega,.inr (by omega)⟩,fun h=>by
      rcases h.2.2 with h2|h2
      · rw[hr]at h2;cases h2
      · omega⟩
 · rw[decide_eq_false hs]
   exact sel_intro (fun h=>by cases h) (fun _=>no fun h=>hs h.1)
theorem p154 (n:Nd) (root:Bool) (hf:NdFits n):Runs Fs2 154 [ndV n,.n (.bool root)] [] (.n (.bool (decide (NdOK n root)))) []:=by
 have no:¬NdOK n root→AV.n (D.bool false) = .n (.bool (decide (NdOK n root))):=fun h=>by rw[decide_eq_false h]
 refine vc_eq fs154 rfl ?_
 rw[ndV,vc154,(V154e _ _ _ _ _ _).down,sl_len]
 refine ⟨_,p185 n hf,?_⟩
 by_cases hs:Stands n
 · rw[decide_eq_true hs]
   refine sel_intro (fun _=>sel_dec (fun h8=>sel_intro (fun hr => ?_) (fun hr => ?_)) (fun h8=>no (by unfold NdOK;omega))) (fun h=>by cases h)
   · rw[decide_eq_true (p:=NdOK n root) ⟨hs,by omega,.inl hr⟩]
   · congr 2
     simp only[decide_eq_decide]
     exact ⟨fun h=>⟨hs,by omega,.inr (by omega)⟩,fun h=>by
      rcases h.2.2 with h2|h2
      · rw[hr]at h2;cases h2
      · omega⟩
 · rw[decide_eq_false hs]
   exact sel_intro (fun h=>by cases h) (fun _=>no fun h=>hs h.1)
def hS (l:List ByteArray) (x:ByteArray):Heap:=[(19800000,.box [.o (.sl 1 (sl_ l))]),(19800001,.box [.n (.str x)])]
theorem kok_mono {l:List ByteArray} (h:KOK l):∀(i j:Nat) (hi:i<l.length) (hj:j<l.length),i<j→lt l[i] l[j]=true:=by
 intro i j hi hj hij
 induction j with
 | zero=>omega
 | succ j ih=>
   have h1:=(h (j+1) hj hj).2.2 (by omega)
   have e:j+1 - 1=j:=by omega
   simp only[e]at h1
   by_cases hc:i=j
   · subst hc;exact h1
   · exact lt_trans (ih (by omega) (by omega)) h1
def nxk (s:ByteArray) (n e k:Int):Int×Int×Int:=if e≠0 then (0,n,e) else gT s n k
def h99 (s:ByteArray) (n e:Int):Heap:=[(21700302,.box [.n (.str s),.n (.int .i64 n),.n (.int .i64 e)])]
theorem p237 (s:ByteArray) (hs:Small s.size) (n e k:Int):Runs Fs2 237 [.ptr 21700302 0,.n (.int .i64 k)] (h99 s n e) (.n (.int .i64 (nxk s n e k).1)) (h99 s (nxk s n e k).2.1 (nxk s n e k).2.2):=by
 refine vc_mut fs237 rfl (by kernel_rfl) ?_
 rewrite[h99,vc237h,(V237he _ _ _ _ _).down]
 refine sel_intro (fun h => ?_) (fun h => ?_)
 · rw[nxk,if_pos (by simpa using h)];exact ⟨rfl,rfl⟩
 · rw[nxk,if_neg (by simpa using h)]
   have g:=(p134 s hs n k).up up2
   rw[gT_eq]at g
   exact ⟨_,_,_,g,rfl,rfl⟩
theorem p238 (s:ByteArray) (hs:Small s.size) (n e:Int):Runs Fs2 238 [.ptr 21700302 0] (h99 s n e) (.n (.str (tx s n e).1)) (h99 s (tx s n e).2.1 (tx s n e).2.2):=by
 refine vc_mut fs238 rfl (by kernel_rfl) ?_
 rewrite[h99,vc238h,(V238he _ _ _ _).down]
 refine sel_intro (fun h => ?_) (fun h => ?_)
 · rw[tx,if_pos (by simpa using h)];exact ⟨rfl,rfl⟩
 · rw[tx,if_neg (by simpa using h)]
   have g:=(p245 s hs n).up up2
   rw[cT_eq]at g
   exact ⟨_,_,_,g,rfl,rfl⟩
def lfUp (s:ByteArray):Nat→Int→List ByteArray→List ByteArray→Sum Int (List ByteArray×List ByteArray×Int)
 | 0,a,ks,vs => .inr (ks,vs,a)
 | m+1,a,ks,vs=>
   if (cT s a).2.2≠0 then .inl (cT s a).2.2
   else if (cT s (cT s a).2.1).2.2≠0 then .inl (cT s (cT s a).2.1).2.2
   else lfUp s m (cT s (cT s a).2.1).2.1 (ks++[(cT s a).1]) (vs++[(cT s (cT s a).2.1).1])
def inUp (s:ByteArray):Nat→Int→List Int→List ByteArray→Sum Int (List Int×List ByteArray×Int)
 | 0,a,bs,ks => .inr (bs,ks,a)
 | m+1,a,bs,ks=>
   if (gT s a 2).2.2≠0 then .inl (gT s a 2).2.2
   else if (cT s (gT s a 2).2.1).2.2≠0 then .inl (cT s (gT s a 2).2.1).2.2
   else inUp s m (cT s (gT s a 2).2.1).2.1 (bs++[(gT s a 2).1]) (ks++[(cT s (gT s a 2).2.1).1])
noncomputable def nFin (s:ByteArray) (n:Nd) (a:Int):Nd×Int:=if a≠s.size∨¬NdOK n true then (nd0,4) else (n,0)
noncomputable def nCont (s:ByteArray) (leaf:Bool) (m:Nat) (a:Int) (ks vs:List ByteArray) (bs:List Int):Nd×Int:=
 if leaf then match lfUp s m a ks vs with
  | .inl e=>(nd0,e)
  | .inr (ks,vs,a)=>nFin s ⟨true,ks,vs,bs⟩ a
 else match inUp s m a bs ks with
  | .inl e=>(nd0,e)
  | .inr (bs,ks,a)=>if (gT s a 2).2.2≠0 then (nd0,(gT s a 2).2.2) else nFin s ⟨false,ks,vs,bs++[(gT s a 2).1]⟩ (gT s a 2).2.1
noncomputable def NGet (kind:Int) (s:ByteArray):Nd×Int:=
 if kind≠1∧kind≠2 then (nd0,81)
 else if (gT s 0 1).2.2≠0 then (nd0,(gT s 0 1).2.2)
 else nCont s (kind==1) (gT s 0 1).1.toNat (gT s 0 1).2.1 [] [] []
def nduo (x:Nd×Int):AV := .tup [ndV x.1,.n (.int .i64 x.2)]
def ndN (n:Nd):AV := .agg [.n (.bool n.leaf),.n (.sl 1 (sl_ n.keys)),.n (.sl 1 (sl_ n.vals)),.n (.sl 1 (il n.kids))]
def nduN (x:Nd×Int):AV := .tup [ndN x.1,.n (.int .i64 x.2)]
theorem lf_k {s:ByteArray} {m:Nat} {a:Int} {ks vs:List ByteArray} (h:(cT s a).2.2≠0):lfUp s (m+1) a ks vs = .inl (cT s a).2.2:=by rw[lfUp,if_pos h]
theorem lf_v {s:ByteArray} {m:Nat} {a:Int} {ks vs:List ByteArray} (h:(cT s a).2.2=0) (h2:(cT s (cT s a).2.1).2.2≠0):lfUp s (m+1) a ks vs = .inl (cT s (cT s a).2.1).2.2:=by rw[lfUp,if_neg (by rw[h];simp),if_pos h2]
theorem lf_go {s:ByteArray} {m:Nat} {a:Int} {ks vs:List ByteArray} (h:(cT s a).2.2=0) (h2:(cT s (cT s a).2.1).2.2=0):lfUp s (m+1) a ks vs=lfUp s m (cT s (cT s a).2.1).2.1 (ks++[(cT s a).1]) (vs++[(cT s (cT s a).2.1).1]):=by rw[lfUp,if_neg (by rw[h];simp),if_neg (by rw[h2];simp)]
theorem in_b {s:ByteArray} {m:Nat} {a:Int} {bs:List Int} {ks:List ByteArray} (h:(gT s a 2).2.2≠0):inUp s (m+1) a bs ks = .inl (gT s a 2).2.2:=by rw[inUp,if_pos h]
theorem in_k {s:ByteArray} {m:Nat} {a:Int} {bs:List Int} {ks:List ByteArray} (h:(gT s a 2).2.2=0) (h2:(cT s (gT s a 2).2.1).2.2≠0):inUp s (m+1) a bs ks = .inl (cT s (gT s a 2).2.1).2.2:=by rw[inUp,if_neg (by rw[h];simp),if_pos h2]
theorem in_go {s:ByteArray} {m:Nat} {a:Int} {bs:List Int} {ks:List ByteArray} (h:(gT s a 2).2.2=0) (h2:(cT s (gT s a 2).2.1).2.2=0):inUp s (m+1) a bs ks=inUp s m (cT s (gT s a 2).2.1).2.1 (bs++[(gT s a 2).1]) (ks++[(cT s (gT s a 2).2.1).1]):=by rw[inUp,if_neg (by rw[h];simp),if_neg (by rw[h2];simp)]
theorem nc_true (s:ByteArray) (m:Nat) (a:Int) (ks vs:List ByteArray) (bs:List Int):nCont s true m a ks vs bs=match lfUp s m a ks vs with
 | .inl e=>(nd0,e)
 | .inr (ks,vs,a)=>nFin s ⟨true,ks,vs,bs⟩ a:=by rw[nCont,if_pos rfl]
theorem nc_false (s:ByteArray) (m:Nat) (a:Int) (ks vs:List ByteArray) (bs:List Int):nCont s false m a ks vs bs=match inUp s m a bs ks with
 | .inl e=>(nd0,e)
 | .inr (bs,ks,a)=>if (gT s a 2).2.2≠0 then (nd0,(gT s a 2).2.2) else nFin s ⟨false,ks,vs,bs++[(gT s a 2).1]⟩ (gT s a 2).2.1:=by rw[nCont,if_neg (by simp)]
theorem il_snoc (l:List Int) (b:Int):il l++[D.int .i64 b]=il (l++[b]):=by simp[il]
theorem nFits_small {n:Nd} (h1:n.keys.length≤300) (h2:n.vals.length≤300) (h3:n.kids.length≤300):NdFits n:=⟨by omega,by omega,by omega⟩
set_option maxRecDepth 10000 in
set_option maxHeartbeats 17100000 in
theorem p217 (kind:Int) (s:ByteArray) (hs:Small s.size):Runs Fs2 217 [.n (.int .i64 kind),.n (.str s)] [] (nduN (NGet kind s)) []:=by
 refine vc_eq fs217 rfl ?_
 rw[vc217,(V217e _ _ _).down]
 have g0:=p237 s hs 0 0 1
 have e0:nxk s 0 0 1=gT s 0 1:=if_neg (by simp)
 rw[e0]at g0
 have hb0:=gT_byte s 0
 have bad:kind≠1→kind≠2→NGet kind s=(nd0,81):=fun h1 h2=>by rw[NGet,if_pos ⟨h1,h2⟩]
 have start:¬(kind≠1∧kind≠2)→NGet kind s=if (gT s 0 1).2.2≠0 then (nd0,(gT s 0 1).2.2) else nCont s (kind==1) (gT s 0 1).1.toNat (gT s 0 1).2.1 [] [] []:=fun h=>by rw[NGet,if_neg h]
 refine sel_intro (fun h1=>sel_intro (fun h2=>by rw[bad (by simpa using h1) (by simpa using h2)];rfl) (fun h2 => ?_)) (fun h1 => ?_)
 all_goals
  have hst:=start (by
    rintro ⟨k1,k2⟩
    simp only[bne_eq_false_iff_eq,bne_iff_ne]at h1
    first
      | exact k1 h1
      | (simp only[bne_eq_false_iff_eq]at h2;exact k2 h2))
  generalize hleaf:(kind==1)=leaf at hst
  refine ⟨_,_,_,_,g0,?_⟩
  refine ⟨fun i S N K V B=>0≤i∧S.1=s∧N.1=leaf∧N.2.1=K.1∧N.2.2.1=V.1∧N.2.2.2.1=B.1∧∃(ks vs:List ByteArray) (bs:List Int),K.2=sl_ ks∧V.2=sl_ vs∧B.2=il bs∧(ks.length:Int)≤i∧(vs.length:Int)≤i∧(bs.length:Int)≤i ∧
      (leaf=true→bs=[])∧(leaf=false→vs=[])∧i≤256 ∧
      ((S.2.2.1=0∧i≤(gT s 0 1).1∧NGet kind s=nCont s leaf ((gT s 0 1).1 - i).toNat S.2.1 ks vs bs)∨(S.2.2.1≠0∧NGet kind s=(nd0,S.2.2.1))),fun i _ _ _ _ _=>((gT s 0 1).1 - i).toNat,
    ⟨rfl,Int.le_refl _,rfl,rfl,rfl,rfl,rfl,[],[],[],rfl,rfl,rfl,by simp,by simp,by simp,fun _=>rfl,fun _=>rfl,by omega,?_⟩,?_⟩
  · by_cases h2:(gT s 0 1).2.2=0
    · refine .inl ⟨h2,hb0.1,?_⟩
      rw[hst,if_neg (by rw[h2];simp),Int.sub_zero]
    · exact .inr ⟨h2,by rw[hst,if_pos h2]⟩
  rintro i ⟨S,N,E,_⟩ ⟨lf,va,vb,vc,_⟩ ⟨ka,K⟩ ⟨kb,V⟩ ⟨kc,B⟩ ⟨h0,hS,hlf,rfl,rfl,rfl,ks,vs,bs,rfl,rfl,rfl,lk,lv,lb,nb,nv,hi256,hinv⟩ _
  dsimp only at hS hlf hinv ⊢
  subst hS hlf
  refine sel_dec (fun hlt => ?_) (fun hge => ?_)
  · refine sel_intro (fun hE => ?_) (fun hE => ?_)
    · have hE:E=0:=by simpa using hE
      subst hE
      have hU:=(hinv.resolve_right fun h=>h.1 rfl).2.2
      obtain ⟨j,hj⟩:∃j,((gT S 0 1).1 - i).toNat=j+1:=⟨((gT S 0 1).1 - i).toNat - 1,by omega⟩
      have hj':((gT S 0 1).1 - (i+1)).toNat=j:=by omega
      rw[hj]at hU
      refine sel_intro (fun hl => ?_) (fun hl => ?_)
      · subst hl
        have g1:=p238 S hs N 0
        rw[show tx S N 0=cT S N from if_neg (by simp)]at g1
        have g2:=p238 S hs (cT S N).2.1 (cT S N).2.2
        refine ⟨_,_,_,_,g1,rfl,.inl rfl,⟨⟨rfl,rfl⟩,rfl⟩,by simp[sl_len];omega,_,_,_,_,g2,rfl,.inl rfl,⟨⟨rfl,rfl⟩,rfl⟩,by simp[sl_len];omega,?_⟩
        repeat (refine And.intro rfl ?_)
        rw[i64_in _ (by omega),sl_snoc,sl_snoc]
        refine ⟨⟨by omega,rfl,rfl,rfl,rfl,rfl,_,_,_,rfl,rfl,rfl,(by simp;omega),(by simp;omega),by omega,fun _=>nb rfl,(fun h=>by cases h),by omega,?_⟩,by first|omega|(dsimp only;omega)⟩
        rw[hj']
        by_cases hk:(cT S N).2.2=0
        · rw[tx,if_neg (by rw[hk];simp)]
          by_cases hv:(cT S (cT S N).2.1).2.2=0
          · refine .inl ⟨hv,by omega,?_⟩
            rw[hU,nc_true,nc_true,lf_go hk hv]
          · refine .inr ⟨hv,?_⟩
            rw[hU,nc_true,lf_v hk hv]
        · rw[tx,if_pos hk]
          refine .inr ⟨hk,?_⟩
          rw[hU,nc_true,lf_k hk]
      · subst hl
        have g1:=p237 S hs N 0 2
        rw[show nxk S N 0 2=gT S N 2 from if_neg (by simp)]at g1
        have g2:=p238 S hs (gT S N 2).2.1 (gT S N 2).2.2
        refine ⟨_,_,_,_,g1,rfl,.inl rfl,⟨⟨rfl,rfl⟩,rfl⟩,by simp[il_len];omega,_,_,_,_,g2,rfl,.inl rfl,⟨⟨rfl,rfl⟩,rfl⟩,by simp[sl_len];omega,?_⟩
        repeat (refine And.intro rfl ?_)
        rw[i64_in _ (by omega),sl_snoc,il_snoc]
        refine ⟨⟨by omega,rfl,rfl,rfl,rfl,rfl,_,_,_,rfl,rfl,rfl,(by simp;omega),by omega,(by simp;omega),(fun h=>by cases h),fun _=>nv rfl,by omega,?_⟩,by first|omega|(dsimp only;omega)⟩
        rw[hj']
        by_cases hk:(gT S N 2).2.2=0
        · rw[tx,if_neg (by rw[hk];simp)]
          by_cases hv:(cT S (gT S N 2).2.1).2.2=0
          · refine .inl ⟨hv,by omega,?_⟩
            rw[hU,nc_false,nc_false,in_go hk hv]
          · refine .inr ⟨hv,?_⟩
            rw[hU,nc_false,in_k hk hv]
        · rw[tx,if_pos hk]
          refine .inr ⟨hk,?_⟩
          rw[hU,nc_false,in_b hk]
    · have hE:E≠0:=by simpa using hE
      have hx:(E=0∧NGet kind S=nCont S lf 0 N ks vs bs)∨(E≠0∧NGet kind S=(nd0,E)) := .inr ⟨hE,(hinv.resolve_left fun h=>hE h.1).2⟩
      refine sel_intro (fun hl => ?_) (fun hl => ?_)
      · have hl:lf=false:=by simpa using hl
        subst hl
        have gx:=p237 S hs N E 2
        rcases hx with ⟨rfl,hN⟩|⟨hE,hN⟩
        · have ex:nxk S N 0 2=gT S N 2:=if_neg (by simp)
          rw[ex]at gx
          rw[nc_false]at hN
          simp only[inUp]at hN
          refine ⟨_,_,_,_,gx,rfl,.inl rfl,⟨⟨rfl,rfl⟩,rfl⟩,by simp[il_len];omega,?_⟩
          refine sel_intro (fun he => ?_) (fun he => ?_)
          · rw[hN,if_pos (by simpa using he)];rfl
          · have he:(gT S N 2).2.2=0:=by simpa using he
            rw[hN,if_neg (by rw[he];simp),il_snoc]
            refine sel_intro (fun hz => ?_) (fun hz=>⟨rfl,rfl,rfl,_,p195 ⟨false,ks,vs,bs++[(gT S N 2).1]⟩ true (nFits_small (by dsimp only;omega) (by dsimp only;omega) (by simp;omega)),?_⟩)
            · rw[nFin,if_pos (.inl (by simpa using hz))];rfl
            · by_cases hk:NdOK ⟨false,ks,vs,bs++[(gT S N 2).1]⟩ true
              · rw[decide_eq_true hk]
                refine sel_intro (fun h=>by cases h) (fun _=>⟨rfl,rfl,rfl,?_⟩)
                rw[nFin,if_neg (by
                  rintro (h|h)
                  · exact h (by simpa using hz)
                  · exact h hk)];rfl
              · rw[decide_eq_false hk]
                refine sel_intro (fun _ => ?_) (fun h=>by cases h)
                rw[nFin,if_pos (.inr hk)];rfl
        · have ex:nxk S N E 2=(0,N,E):=if_pos hE
          rw[ex]at gx
          refine ⟨_,_,_,_,gx,rfl,.inl rfl,⟨⟨rfl,rfl⟩,rfl⟩,by simp[il_len];omega,?_⟩
          refine sel_intro (fun he => ?_) (fun he=>absurd (by simpa using he) hE)
          rw[hN];rfl
      · have hl:lf=true:=by simpa using hl
        subst hl
        rcases hx with ⟨rfl,hN⟩|⟨hE,hN⟩
        · rw[nc_true]at hN
          simp only[lfUp]at hN
          refine sel_intro (fun h=>by simp at h) (fun _ => ?_)
          rw[hN]
          refine sel_intro (fun hz => ?_) (fun hz=>⟨rfl,rfl,rfl,_,p195 ⟨true,ks,vs,bs⟩ true (nFits_small (by dsimp only;omega) (by dsimp only;omega) (by simp;omega)),?_⟩)
          · rw[nFin,if_pos (.inl (by simpa using hz))];rfl
          · by_cases hk:NdOK ⟨true,ks,vs,bs⟩ true
            · rw[decide_eq_true hk]
              refine sel_intro (fun h=>by cases h) (fun _=>⟨rfl,rfl,rfl,?_⟩)
              rw[nFin,if_neg (by
                rintro (h|h)
                · exact h (by simpa using hz)
                · exact h hk)];rfl
            · rw[decide_eq_false hk]
              refine sel_intro (fun _ => ?_) (fun h=>by cases h)
              rw[nFin,if_pos (.inr hk)];rfl
        · refine sel_intro (fun _=>by rw[hN];rfl) (fun h=>absurd (by simpa using h) hE)
  · have hx:(E=0∧NGet kind S=nCont S lf 0 N ks vs bs)∨(E≠0∧NGet kind S=(nd0,E)):=by
      rcases hinv with ⟨h1,h2,h3⟩|h
      · exact .inl ⟨h1,by rw[show ((gT S 0 1).1 - i).toNat=0 by omega]at h3;exact h3⟩
      · exact .inr h
    refine sel_intro (fun hl => ?_) (fun hl => ?_)
    · have hl:lf=false:=by simpa using hl
      subst hl
      have gx:=p237 S hs N E 2
      rcases hx with ⟨rfl,hN⟩|⟨hE,hN⟩
      · have ex:nxk S N 0 2=gT S N 2:=if_neg (by simp)
        rw[ex]at gx
        rw[nc_false]at hN
        simp only[inUp]at hN
        refine ⟨_,_,_,_,gx,rfl,.inl rfl,⟨⟨rfl,rfl⟩,rfl⟩,by simp[il_len];omega,?_⟩
        refine sel_intro (fun he => ?_) (fun he => ?_)
        · rw[hN,if_pos (by simpa using he)];rfl
        · have he:(gT S N 2).2.2=0:=by simpa using he
          rw[hN,if_neg (by rw[he];simp),il_snoc]
          refine sel_intro (fun hz => ?_) (fun hz=>⟨rfl,rfl,rfl,_,p195 ⟨false,ks,vs,bs++[(gT S N 2).1]⟩ true (nFits_small (by dsimp only;omega) (by dsimp only;omega) (by simp;omega)),?_⟩)
          · rw[nFin,if_pos (.inl (by simpa using hz))];rfl
          · by_cases hk:NdOK ⟨false,ks,vs,bs++[(gT S N 2).1]⟩ true
            · rw[decide_eq_true hk]
              refine sel_intro (fun h=>by cases h) (fun _=>⟨rfl,rfl,rfl,?_⟩)
              rw[nFin,if_neg (by
                rintro (h|h)
                · exact h (by simpa using hz)
                · exact h hk)];rfl
            · rw[decide_eq_false hk]
              refine sel_intro (fun _ => ?_) (fun h=>by cases h)
              rw[nFin,if_pos (.inr hk)];rfl
      · have ex:nxk S N E 2=(0,N,E):=if_pos hE
        rw[ex]at gx
        refine ⟨_,_,_,_,gx,rfl,.inl rfl,⟨⟨rfl,rfl⟩,rfl⟩,by simp[il_len];omega,?_⟩
        refine sel_intro (fun he => ?_) (fun he=>absurd (by simpa using he) hE)
        rw[hN];rfl
    · have hl:lf=true:=by simpa using hl
      subst hl
      rcases hx with ⟨rfl,hN⟩|⟨hE,hN⟩
      · rw[nc_true]at hN
        simp only[lfUp]at hN
        refine sel_intro (fun h=>by simp at h) (fun _ => ?_)
        rw[hN]
        refine sel_intro (fun hz => ?_) (fun hz=>⟨rfl,rfl,rfl,_,p195 ⟨true,ks,vs,bs⟩ true (nFits_small (by dsimp only;omega) (by dsimp only;omega) (by simp;omega)),?_⟩)
        · rw[nFin,if_pos (.inl (by simpa using hz))];rfl
        · by_cases hk:NdOK ⟨true,ks,vs,bs⟩ true
          · rw[decide_eq_true hk]
            refine sel_intro (fun h=>by cases h) (fun _=>⟨rfl,rfl,rfl,?_⟩)
            rw[nFin,if_neg (by
              rintro (h|h)
              · exact h (by simpa using hz)
              · exact h hk)];rfl
          · rw[decide_eq_false hk]
            refine sel_intro (fun _ => ?_) (fun h=>by cases h)
            rw[nFin,if_pos (.inr hk)];rfl
      · refine sel_intro (fun _=>by rw[hN];rfl) (fun h=>absurd (by simpa using h) hE)
set_option maxRecDepth 10000 in
set_option maxHeartbeats 17100000 in
theorem p153 (kind:Int) (s:ByteArray) (hs:Small s.size):Runs Fs2 153 [.n (.int .i64 kind),.n (.str s)] [] (nduo (NGet kind s)) []:=by
 refine vc_eq fs153 rfl ?_
 rw[vc153,(V153e _ _ _).down]
 have g0:=(p139 s hs 0 1).up up2
 rw[gT_eq]at g0
 have hb0:=gT_byte s 0
 have bad:kind≠1→kind≠2→NGet kind s=(nd0,81):=fun h1 h2=>by rw[NGet,if_pos ⟨h1,h2⟩]
 have start:¬(kind≠1∧kind≠2)→NGet kind s=if (gT s 0 1).2.2≠0 then (nd0,(gT s 0 1).2.2) else nCont s (kind==1) (gT s 0 1).1.toNat (gT s 0 1).2.1 [] [] []:=fun h=>by rw[NGet,if_neg h]
 refine sel_intro (fun h1=>sel_intro (fun h2=>by rw[bad (by simpa using h1) (by simpa using h2)];rfl) (fun h2 => ?_)) (fun h1 => ?_)
 · obtain rfl:kind=2:=by simpa using h2
   have hst:=start (by simp)
   rw[show ((2:Int)==1)=false from rfl]at hst
   have hbad:(gT s 0 1).2.2≠0→NGet 2 s=(nd0,(gT s 0 1).2.2):=fun h=>by rw[hst,if_pos h]
   refine ⟨_,_,_,g0,?_⟩
   refine ⟨fun N i _ Q K V B=>0≤i∧Q.1=false∧Q.2.1=K.1∧Q.2.2.1=V.1∧Q.2.2.2.1=B.1∧∃(ks:List ByteArray) (bs:List Int),K.2=sl_ ks∧V.2=[]∧B.2=il bs∧(ks.length:Int)≤i∧(bs.length:Int)≤i∧(i≤(gT s 0 1).1) ∧
       ((gT s 0 1).2.2=0→NGet 2 s=nCont s false ((gT s 0 1).1 - i).toNat N ks [] bs),fun _ i _ _ _ _ _=>((gT s 0 1).1 - i).toNat,
     ⟨rfl,Int.le_refl _,rfl,rfl,rfl,rfl,[],[],rfl,rfl,rfl,by simp,by simp,hb0.1,fun h=>by rw[hst,if_neg (by rw[h];simp),Int.sub_zero]⟩,?_⟩
   rintro N i R0 ⟨lf,va,vb,vc,_⟩ ⟨ka,K⟩ ⟨kb,V⟩ ⟨kc,B⟩ ⟨h0,hlf,rfl,rfl,rfl,ks,bs,rfl,rfl,rfl,lk,lb,him,hinv⟩ _
   dsimp only at hlf hinv ⊢
   subst hlf
   refine sel_dec (fun hlt => ?_) (fun hge => ?_)
   · refine sel_intro (fun hE => ?_) (fun hE => ?_)
     · have hE:(gT s 0 1).2.2=0:=by simpa using hE
       have hU:=hinv hE
       obtain ⟨j,hj⟩:∃j,((gT s 0 1).1 - i).toNat=j+1:=⟨((gT s 0 1).1 - i).toNat - 1,by omega⟩
       have hj':((gT s 0 1).1 - (i+1)).toNat=j:=by omega
       rw[hj,nc_false]at hU
       refine sel_intro (fun _ => ?_) (fun h=>absurd h (by decide))
       have g1:=(p139 s hs N 2).up up2
       rw[gT_eq]at g1
       refine ⟨_,_,_,g1,sel_intro (fun he => ?_) (fun he => ?_)⟩
       · rw[hU,in_b (by simpa using he)];rfl
       · have he:(gT s N 2).2.2=0:=by simpa using he
         have g2:=(p184 s hs (gT s N 2).2.1).up up2
         rw[cT_eq]at g2
         refine ⟨rfl,.inl rfl,⟨⟨rfl,rfl⟩,rfl⟩,by simp[il_len];omega,_,_,_,g2,sel_intro (fun hv => ?_) (fun hv => ?_)⟩
         · rw[hU,in_k he (by simpa using hv)];rfl
         · have hv:(cT s (gT s N 2).2.1).2.2=0:=by simpa using hv
           refine ⟨rfl,.inl rfl,⟨⟨rfl,rfl⟩,rfl⟩,by simp[sl_len];omega,sel_intro (fun h=>absurd h (by decide)) (fun _ => ?_)⟩
           repeat (refine And.intro rfl ?_)
           rw[i64_in _ (by omega),sl_snoc,il_snoc]
           refine ⟨⟨by omega,rfl,rfl,rfl,rfl,_,_,rfl,rfl,rfl,(by simp;omega),(by simp;omega),by omega,fun _ => ?_⟩,by first|omega|(dsimp only;omega)⟩
           rw[hj',hU,nc_false,in_go he hv]
     · have hx:(gT s 0 1).2.2=0→NGet 2 s=nCont s false 0 N ks [] bs:=fun h=>absurd h (by simpa using hE)
       refine sel_intro (fun _ => ?_) (fun h=>absurd h (by decide))
       by_cases hE:(gT s 0 1).2.2=0
       · have hN:=hx hE
         rw[nc_false]at hN
         simp only[inUp]at hN
         have gx:=(p139 s hs N 2).up up2
         rw[gT_eq]at gx
         refine sel_intro (fun _ => ?_) (fun h=>absurd h (by simp[hE]))
         refine ⟨_,_,_,gx,rfl,.inl rfl,⟨⟨rfl,rfl⟩,rfl⟩,by simp[il_len];omega,?_⟩
         refine sel_intro (fun he => ?_) (fun he => ?_)
         · rw[hN,if_pos (by simpa using he)];rfl
         · have he:(gT s N 2).2.2=0:=by simpa using he
           rw[hN,if_neg (by rw[he];simp),il_snoc]
           refine sel_intro (fun hz => ?_) (fun hz=>⟨rfl,rfl,rfl,_,p154 ⟨false,ks,[],bs++[(gT s N 2).1]⟩ true (nFits_small (by dsimp only;omega) (by dsimp only;first|omega|(simp;done)) (by simp;first|omega|done)),?_⟩)
           · rw[nFin,if_pos (.inl (by simpa using hz))];rfl
           · by_cases hk:NdOK ⟨false,ks,[],bs++[(gT s N 2).1]⟩ true
             · rw[decide_eq_true hk]
               refine sel_intro (fun h=>by cases h) (fun _=>⟨rfl,rfl,rfl,?_⟩)
               rw[nFin,if_neg (by
                 rintro (h|h)
                 · exact h (by simpa using hz)
                 · exact h hk)];rfl
             · rw[decide_eq_false hk]
               refine sel_intro (fun _ => ?_) (fun h=>by cases h)
               rw[nFin,if_pos (.inr hk)];rfl
       · refine sel_intro (fun h=>absurd (by simpa using h) hE) (fun _ => ?_)
         refine sel_intro (fun _=>by rw[hbad hE];rfl) (fun h=>absurd (by simpa using h) hE)
   · have hx:(gT s 0 1).2.2=0→NGet 2 s=nCont s false 0 N ks [] bs:=fun h=>by
       have:=hinv h
       rw[show ((gT s 0 1).1 - i).toNat=0 by omega]at this
       exact this
     refine sel_intro (fun _ => ?_) (fun h=>absurd h (by decide))
     by_cases hE:(gT s 0 1).2.2=0
     · have hN:=hx hE
       rw[nc_false]at hN
       simp only[inUp]at hN
       have gx:=(p139 s hs N 2).up up2
       rw[gT_eq]at gx
       refine sel_intro (fun _ => ?_) (fun h=>absurd h (by simp[hE]))
       refine ⟨_,_,_,gx,rfl,.inl rfl,⟨⟨rfl,rfl⟩,rfl⟩,by simp[il_len];omega,?_⟩
       refine sel_intro (fun he => ?_) (fun he => ?_)
       · rw[hN,if_pos (by simpa using he)];rfl
       · have he:(gT s N 2).2.2=0:=by simpa using he
         rw[hN,if_neg (by rw[he];simp),il_snoc]
         refine sel_intro (fun hz => ?_) (fun hz=>⟨rfl,rfl,rfl,_,p154 ⟨false,ks,[],bs++[(gT s N 2).1]⟩ true (nFits_small (by dsimp only;omega) (by dsimp only;first|omega|(simp;done)) (by simp;first|omega|done)),?_⟩)
         · rw[nFin,if_pos (.inl (by simpa using hz))];rfl
         · by_cases hk:NdOK ⟨false,ks,[],bs++[(gT s N 2).1]⟩ true
           · rw[decide_eq_true hk]
             refine sel_intro (fun h=>by cases h) (fun _=>⟨rfl,rfl,rfl,?_⟩)
             rw[nFin,if_neg (by
               rintro (h|h)
               · exact h (by simpa using hz)
               · exact h hk)];rfl
           · rw[decide_eq_false hk]
             refine sel_intro (fun _ => ?_) (fun h=>by cases h)
             rw[nFin,if_pos (.inr hk)];rfl
     · refine sel_intro (fun h=>absurd (by simpa using h) hE) (fun _ => ?_)
       refine sel_intro (fun _=>by rw[hbad hE];rfl) (fun h=>absurd (by simpa using h) hE)
 · obtain rfl:kind=1:=by simpa using h1
   have hst:=start (by simp)
   rw[show ((1:Int)==1)=true from rfl]at hst
   have hbad:(gT s 0 1).2.2≠0→NGet 1 s=(nd0,(gT s 0 1).2.2):=fun h=>by rw[hst,if_pos h]
   refine ⟨_,_,_,g0,?_⟩
   refine ⟨fun N i _ Q K V B=>0≤i∧Q.1=true∧Q.2.1=K.1∧Q.2.2.1=V.1∧Q.2.2.2.1=B.1∧∃(ks vs:List ByteArray),K.2=sl_ ks∧V.2=sl_ vs∧B.2=[]∧(ks.length:Int)≤i∧(vs.length:Int)≤i∧(i≤(gT s 0 1).1) ∧
       ((gT s 0 1).2.2=0→NGet 1 s=nCont s true ((gT s 0 1).1 - i).toNat N ks vs []),fun _ i _ _ _ _ _=>((gT s 0 1).1 - i).toNat,
     ⟨rfl,Int.le_refl _,rfl,rfl,rfl,rfl,[],[],rfl,rfl,rfl,by simp,by simp,hb0.1,fun h=>by rw[hst,if_neg (by rw[h];simp),Int.sub_zero]⟩,?_⟩
   rintro N i R0 ⟨lf,va,vb,vc,_⟩ ⟨ka,K⟩ ⟨kb,V⟩ ⟨kc,B⟩ ⟨h0,hlf,rfl,rfl,rfl,ks,vs,rfl,rfl,rfl,lk,lv,him,hinv⟩ _
   dsimp only at hlf hinv ⊢
   subst hlf
   refine sel_dec (fun hlt => ?_) (fun hge => ?_)
   · refine sel_intro (fun hE => ?_) (fun hE => ?_)
     · have hE:(gT s 0 1).2.2=0:=by simpa using hE
       have hU:=hinv hE
       obtain ⟨j,hj⟩:∃j,((gT s 0 1).1 - i).toNat=j+1:=⟨((gT s 0 1).1 - i).toNat - 1,by omega⟩
       have hj':((gT s 0 1).1 - (i+1)).toNat=j:=by omega
       rw[hj,nc_true]at hU
       refine sel_intro (fun h=>absurd h (by decide)) (fun _ => ?_)
       have g1:=(p184 s hs N).up up2
       rw[cT_eq]at g1
       refine ⟨_,_,_,g1,sel_intro (fun he => ?_) (fun he => ?_)⟩
       · rw[hU,lf_k (by simpa using he)];rfl
       · have he:(cT s N).2.2=0:=by simpa using he
         have g2:=(p184 s hs (cT s N).2.1).up up2
         rw[cT_eq]at g2
         refine ⟨rfl,.inl rfl,⟨⟨rfl,rfl⟩,rfl⟩,by simp[sl_len];omega,sel_intro (fun _ => ?_) (fun h=>absurd h (by decide))⟩
         refine ⟨_,_,_,g2,sel_intro (fun hv => ?_) (fun hv => ?_)⟩
         · rw[hU,lf_v he (by simpa using hv)];rfl
         · have hv:(cT s (cT s N).2.1).2.2=0:=by simpa using hv
           refine ⟨rfl,.inl rfl,⟨⟨rfl,rfl⟩,rfl⟩,by simp[sl_len];omega,?_⟩
           repeat (refine And.intro rfl ?_)
           rw[i64_in _ (by omega),sl_snoc,sl_snoc]
           refine ⟨⟨by omega,rfl,rfl,rfl,rfl,_,_,rfl,rfl,rfl,(by simp;omega),(by simp;omega),by omega,fun _ => ?_⟩,by first|omega|(dsimp only;omega)⟩
           rw[hj',hU,nc_true,lf_go he hv]
     · have hx:(gT s 0 1).2.2=0→NGet 1 s=nCont s true 0 N ks vs []:=fun h=>absurd h (by simpa using hE)
       refine sel_intro (fun h=>absurd h (by decide)) (fun _ => ?_)
       by_cases hE:(gT s 0 1).2.2=0
       · have hN:=hx hE
         rw[nc_true]at hN
         simp only[lfUp]at hN
         refine sel_intro (fun h=>absurd h (by simp[hE])) (fun _ => ?_)
         rw[hN]
         refine sel_intro (fun hz => ?_) (fun hz=>⟨rfl,rfl,rfl,_,p154 ⟨true,ks,vs,[]⟩ true (nFits_small (by dsimp only;omega) (by dsimp only;first|omega|(simp;done)) (by simp;first|omega|done)),?_⟩)
         · rw[nFin,if_pos (.inl (by simpa using hz))];rfl
         · by_cases hk:NdOK ⟨true,ks,vs,[]⟩ true
           · rw[decide_eq_true hk]
             refine sel_intro (fun h=>by cases h) (fun _=>⟨rfl,rfl,rfl,?_⟩)
             rw[nFin,if_neg (by
               rintro (h|h)
               · exact h (by simpa using hz)
               · exact h hk)];rfl
           · rw[decide_eq_false hk]
             refine sel_intro (fun _ => ?_) (fun h=>by cases h)
             rw[nFin,if_pos (.inr hk)];rfl
       · refine sel_intro (fun _=>by rw[hbad hE];rfl) (fun h=>absurd (by simpa using h) hE)
   · have hx:(gT s 0 1).2.2=0→NGet 1 s=nCont s true 0 N ks vs []:=fun h=>by
       have:=hinv h
       rw[show ((gT s 0 1).1 - i).toNat=0 by omega]at this
       exact this
     refine sel_intro (fun h=>absurd h (by decide)) (fun _ => ?_)
     by_cases hE:(gT s 0 1).2.2=0
     · have hN:=hx hE
       rw[nc_true]at hN
       simp only[lfUp]at hN
       refine sel_intro (fun h=>absurd h (by simp[hE])) (fun _ => ?_)
       rw[hN]
       refine sel_intro (fun hz => ?_) (fun hz=>⟨rfl,rfl,rfl,_,p154 ⟨true,ks,vs,[]⟩ true (nFits_small (by dsimp only;omega) (by dsimp only;first|omega|(simp;done)) (by simp;first|omega|done)),?_⟩)
       · rw[nFin,if_pos (.inl (by simpa using hz))];rfl
       · by_cases hk:NdOK ⟨true,ks,vs,[]⟩ true
         · rw[decide_eq_true hk]
           refine sel_intro (fun h=>by cases h) (fun _=>⟨rfl,rfl,rfl,?_⟩)
           rw[nFin,if_neg (by
             rintro (h|h)
             · exact h (by simpa using hz)
             · exact h hk)];rfl
         · rw[decide_eq_false hk]
           refine sel_intro (fun _ => ?_) (fun h=>by cases h)
           rw[nFin,if_pos (.inr hk)];rfl
     · refine sel_intro (fun _=>by rw[hbad hE];rfl) (fun h=>absurd (by simpa using h) hE)
end Go.Proofs.YtegndijbpiccgaaGreatDoor.M
