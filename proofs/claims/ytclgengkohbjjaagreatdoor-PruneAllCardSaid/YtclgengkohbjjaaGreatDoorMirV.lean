import Derived.Test.YtclgengkohbjjaaGreatDoorMirL
namespace Go.Mir
set_option linter.unusedVariables false
set_option linter.unusedSimpArgs false
def Cmd.upto:Nat→Cmd→Cmd
 | 0,_ => .skip
 | n+1,.seq a b => .seq a (Cmd.upto n b)
 | _,c=>c
def Cmd.left:Nat→Cmd→Cmd
 | 0,c=>c
 | n+1,.seq _ b=>Cmd.left n b
 | _,_ => .skip
def Cmd.fst:Cmd→Cmd
 | .seq a _=>a
 | c=>c
def Cmd.snd:Cmd→Cmd
 | .seq _ b=>b
 | c=>c
def sparse:Nat→Nat→List (Nat×AV)→Slots
 | 0,_,_=>[]
 | n+1,i,[] => .n .any :: sparse n (i+1) []
 | n+1,i,(k,v) :: r=>match Nat.beq k i with
   | true=>v :: sparse n (i+1) r
   | false => .n .any :: sparse n (i+1) ((k,v) :: r)
theorem exec_cut {call:CallFn} {fuel:Nat}:∀(k:Nat) (c:Cmd) {σ:Slots} {H:Heap},exec call fuel c σ H=match exec call fuel (Cmd.upto k c) σ H with
   | some (.norm,σ',H')=>exec call fuel (Cmd.left k c) σ' H'
   | r=>r
 | 0,c,σ,H=>by simp only[Cmd.upto,exec,Cmd.left]
 | k+1,c,σ,H=>by
   cases c with
   | seq a b=>
     simp only[Cmd.upto,Cmd.left,exec]
     cases h:exec call fuel a σ H with
     | none=>rfl
     | some x=>
       obtain ⟨ex,σ',H'⟩:=x
       cases ex with
       | norm=>exact exec_cut k b
       | exit i=>rfl
       | ret=>rfl
   | _=>
     simp only[Cmd.upto,Cmd.left]
     generalize exec call fuel _ σ H=r
     cases r with
     | none=>rfl
     | some x=>
       obtain ⟨ex,σ',H'⟩:=x
       cases ex <;> simp only[exec]
theorem vc_cut {Fs:Nat→Option Fun} (k:Nat) {f:Nat} {c:FnC} {as:List AV} {r:AV} (hf:Fs f=some (.code c)) (ho:c.own=false)
  (h:Vc Fs (Cmd.upto k c.body) (argsQ c as) [] (thenQ (fun σ H=>Vc Fs (Cmd.left k c.body) σ H (endQ c (· = r))) (endQ c (· = r)))):Runs Fs f as [] r []:=by
 have sem:∃ex σ' H',(∃k0,∀k j,k0≤k→k0≤j→exec (run Fs k) j c.body (argsQ c as) []=some (ex,σ',H'))∧endQ c (· = r) ex σ' H':=by
  obtain ⟨ex,σ1,H1,⟨k0,hk⟩,hq⟩:=vc_sound h
  cases ex with
  | norm=>
    obtain ⟨ex,σ2,H2,⟨k1,hk1⟩,hq2⟩:=vc_sound (show Vc Fs (Cmd.left k c.body) σ1 H1 (endQ c (· = r)) from hq)
    exact ⟨ex,σ2,H2,⟨max k0 k1,fun i j h1 h2=>by rw[exec_cut k,hk i j (by omega) (by omega)];exact hk1 i j (by omega) (by omega)⟩,hq2⟩
  | exit i=>exact ⟨.exit i,σ1,H1,⟨k0,fun i j h1 h2=>by rw[exec_cut k,hk i j h1 h2]⟩,hq⟩
  | ret=>exact ⟨.ret,σ1,H1,⟨k0,fun i j h1 h2=>by rw[exec_cut k,hk i j h1 h2]⟩,hq⟩
 obtain ⟨ex,σ',H1,⟨k0,hk⟩,hq⟩:=sem
 obtain ⟨hex,vs,r',H',h1,h2,h3,rfl⟩:=endQ_ok ho _ _ _ hq
 have key:Runs Fs f as [] (c.rs.wk r') []:=by
  refine ⟨k0+1,fun k hk' => ?_⟩
  obtain ⟨k,rfl⟩:∃i',k=i'+1:=⟨k - 1,by omega⟩
  have:=hk k k (by omega) (by omega)
  unfold argsQ at this
  have hd:(Heap.dom []).any (fun i=>i / 100000==c.fn)=false:=rfl
  rcases hex with rfl|rfl <;> simp only[run,hf,runFn,hd,this,h1,h2] <;> rfl
 rw[←h3];exact key
end Go.Mir
