import Derived.Test.YtmmnobdpccdeoaaGreatDoorZ3ScanA
import Derived.Test.YtmmnobdpccdeoaaGreatDoorZ3Gets
import Derived.Test.YtmmnobdpccdeoaaGreatDoorZ3LW
namespace Go.Proofs.YtmmnobdpccdeoaaGreatDoor.M
set_option linter.unusedVariables false
set_option linter.unusedSimpArgs false
open Go Go.Mir
set_option linter.unusedVariables false

/-! Scanning, on the mirror. -/
def hSc (w : Wd) (fr : ByteArray) (mo : Int) (s : SC) (v : Nat) : Heap := [hB 1500304 [.o (.sl 1 (blD w.base)), .o (.sl 1 (blD w.now)), .o (.sl 1 (sl_ w.pages)), .n (.int .i64 w.root), .n (.int .i64 w.gen), .n (.str fr), .n (.int .i64 mo), .n (.int .i64 s.se), .row 1590001 v, .n (.str s.nx), .n (.bool s.full), .n (.bool s.bad)], hR 1590001 v 51 2 (psD s.out)]
theorem p28c (fr : ByteArray) (mo : Int) (s : SC) (v : Nat) (w : Wd) (hf : WFits w) (hp : w.pages.length = w.now.length) (block : Int) (root : Bool) : Runs Fs2 28 [.ptr 1500304 0, .n (.int .i64 block), .n (.bool root)] (hSc w fr mo s v) (hV (Hold w block root)) (hSc w fr mo s v) := by
  refine vc_look fs28 rfl (by kernel_rfl) ?_
  show Vc Fs2 c28.body (argsQ c28 [.ptr 1500304 0, .n (.int .i64 block), .n (.bool root)]) [(1500304, .box [.o (.sl 1 (blD w.base)), .o (.sl 1 (blD w.now)), .o (.sl 1 (sl_ w.pages)), .n (.int .i64 w.root), .n (.int .i64 w.gen), .n (.str fr), .n (.int .i64 mo), .n (.int .i64 s.se), .row 1590001 v, .n (.str s.nx), .n (.bool s.full), .n (.bool s.bad)]), (1590001, .row false false v 51 2 (psD s.out))] (endQH c28 [(1500304, .box [.o (.sl 1 (blD w.base)), .o (.sl 1 (blD w.now)), .o (.sl 1 (sl_ w.pages)), .n (.int .i64 w.root), .n (.int .i64 w.gen), .n (.str fr), .n (.int .i64 mo), .n (.int .i64 s.se), .row 1590001 v, .n (.str s.nx), .n (.bool s.full), .n (.bool s.bad)]), (1590001, .row false false v 51 2 (psD s.out))] _)
  rw [vc28c, V28c, blD_len]
  refine sel_dec (fun h => by rw [hold_no (.inl h)]; exact ⟨rfl, rfl⟩) (fun h1 => sel_dec (fun h => by rw [hold_no (.inr (.inl h))]; exact ⟨rfl, rfl⟩) (fun h2 => ?_))
  have hi : block.toNat < w.now.length := by omega
  have hj : block.toNat < w.pages.length := by omega
  refine ⟨rfl, by omega, _, blD_at hi, _, rfl, ?_⟩
  rw [← tr_at hi]
  refine sel_intro (fun h => by rw [hold_no (.inr (.inr (.inr (by simpa using h))))]; exact ⟨rfl, rfl⟩) (fun h4 => ?_)
  have h4 : tr w.now block.toNat = true := by simpa using h4
  rw [hold_go (by rw [h4]; simp; omega)]
  refine ⟨rfl, by omega, _, sl_at hj, _, rfl, ?_⟩
  rw [pgAt_get hj]
  have hsz : Small (pgAt w block).size := by rw [← pgAt_get hj]; exact hf.s _ (List.getElem_mem hj)
  refine ⟨rfl, ?_⟩
  rcases getP_cases (pgAt w block) with ⟨e, he, h⟩ | ⟨k, g, b, h, hok, _⟩
  · have g1 := (p38_err _ hsz [1, 2] e he h).up up2
    rw [h, hPage_err he]
    exact ⟨_, _, _, _, g1, sel_intro (fun _ => ⟨rfl, rfl⟩) (fun h => absurd (by simpa using h) he)⟩
  · have h53 := (p38_ok _ hsz [1, 2] (by simp) k g b h).up up2
    rw [h, hPage_ok]
    by_cases hk : k ∈ [(1 : Int), 2]
    · rw [if_pos hk] at h53
      refine ⟨_, _, _, _, h53, sel_intro (fun h => by cases h) (fun _ => sel_dec (fun hg => by rw [if_pos hg]; exact ⟨rfl, rfl⟩) (fun hg => ?_))⟩
      rw [if_neg hg]
      obtain ⟨_, _, _, _, hb⟩ := hok
      have g2 := p39 k b (by omega)
      refine ⟨_, _, _, _, _, g2, sel_intro (fun he => by rw [if_pos (by simpa using he)]; exact ⟨rfl, rfl⟩) (fun he => ?_)⟩
      have he : (NGet k b).2 = 0 := by simpa using he
      rw [if_neg (by rw [he]; simp)]
      have hok2 := (nget_ok he).1
      refine ⟨_, p40 (NGet k b).1 root (ndOK_fits hok2).1, ?_⟩
      by_cases hn : NdOK (NGet k b).1 root
      · rw [decide_eq_true hn, if_pos hn]; exact ⟨rfl, rfl⟩
      · rw [decide_eq_false hn, if_neg hn]; exact ⟨rfl, rfl⟩
    · rw [if_neg hk] at h53
      have hno := kind_out hk b
      refine ⟨_, _, _, _, h53, sel_intro (fun _ => ?_) (fun h => by cases h)⟩
      have : (if g > w.gen then none else if (NGet k b).2 ≠ 0 then none else if NdOK (NGet k b).1 root then some (NGet k b).1 else none) = (none : Option Nd) := by
        split
        · rfl
        · first | rfl | rw [if_pos hno]
      rw [this]; exact ⟨rfl, rfl⟩
theorem last_at {out : List Pr} (h : 0 < out.length) (key : ByteArray) : lastLt out key = lt (out[out.length - 1]'(by omega)).1 key := by
  unfold lastLt
  rw [List.getLast?_eq_getElem?, List.getElem?_eq_getElem (by omega)]
theorem p35 (w : Wd) (fr : ByteArray) (mo : Int) (s : SC) (v : Nat) (key val : ByteArray) (hl : s.out.length ≤ 256) : ∃ v', Runs Fs2 35 [.ptr 1500304 0, .n (.str key), .n (.str val)] (hSc w fr mo s v) (.tup []) (hSc w fr mo (takeS fr mo s (key, val)) v') := by
  have key' : ∃ r H', Runs Fs2 35 [.ptr 1500304 0, .n (.str key), .n (.str val)] (hSc w fr mo s v) r H' ∧ r = .tup [] ∧ ∃ v', H' = hSc w fr mo (takeS fr mo s (key, val)) v' := by
    refine vc_objs (R := fun r H' => r = .tup [] ∧ ∃ v', H' = hSc w fr mo (takeS fr mo s (key, val)) v') fs35 rfl (by kernel_rfl) ?_
    show Vc Fs2 c35.body (argsQ c35 [.ptr 1500304 0, .n (.str key), .n (.str val)]) [(1500304, .box [.o (.sl 1 (blD w.base)), .o (.sl 1 (blD w.now)), .o (.sl 1 (sl_ w.pages)), .n (.int .i64 w.root), .n (.int .i64 w.gen), .n (.str fr), .n (.int .i64 mo), .n (.int .i64 s.se), .row 1590001 v, .n (.str s.nx), .n (.bool s.full), .n (.bool s.bad)]), (1590001, .row false false v 51 2 (psD s.out))] (endQH c35 [(1500304, .box [.o (.sl 1 (blD w.base)), .o (.sl 1 (blD w.now)), .o (.sl 1 (sl_ w.pages)), .n (.int .i64 w.root), .n (.int .i64 w.gen), .n (.str fr), .n (.int .i64 mo), .n (.int .i64 s.se), .row 1590001 v, .n (.str s.nx), .n (.bool s.full), .n (.bool s.bad)]), (1590001, .row false false v 51 2 (psD s.out))] _)
    rw [vc35h, V35h, psD_len]
    refine sel_intro (fun h => ⟨rfl, v, ?_⟩) (fun hf => ?_)
    · rw [takeS, if_pos (.inl h)]; rfl
    show sel (lt key fr) _ _
    refine sel_intro (fun h => ⟨rfl, v, ?_⟩) (fun hfr => ⟨rfl, ?_⟩)
    · rw [takeS, if_pos (.inr h)]; rfl
    have hnot : ¬ (s.full = true ∨ lt (key, val).1 fr = true) := by rw [hf]; simpa using hfr
    have rest : lastLt s.out key = true → sel ((s.out.length : Int) == mo)
        (AV.tup [] = AV.tup [] ∧ ∃ v', ([hB 1500304 [.o (.sl 1 (blD w.base)), .o (.sl 1 (blD w.now)), .o (.sl 1 (sl_ w.pages)), .n (.int .i64 w.root), .n (.int .i64 w.gen), .n (.str fr), .n (.int .i64 mo), .n (.int .i64 s.se), .row 1590001 v, .n (.str key), .n (.bool true), .n (.bool s.bad)], hR 1590001 v 51 2 (psD s.out)] : Heap) = hSc w fr mo (takeS fr mo s (key, val)) v')
        ((rn 0) ∧ ((rn 2) ∨ (@Eq LD [(Mir.D.rcd [(Mir.D.str key),(Mir.D.str val)])] [])) ∧ (((rn v) ∧ (rn 51)) ∧ (rn 2)) ∧ (((s.out.length + (List.length [(Mir.D.rcd [(Mir.D.str key),(Mir.D.str val)])])) * 32 : Nat) ≤ 140737488355328) ∧
          (AV.tup [] = AV.tup [] ∧ ∃ v', ([hB 1500304 [.o (.sl 1 (blD w.base)), .o (.sl 1 (blD w.now)), .o (.sl 1 (sl_ w.pages)), .n (.int .i64 w.root), .n (.int .i64 w.gen), .n (.str fr), .n (.int .i64 mo), .n (.int .i64 s.se), .row 1590001 (v + 1), .n (.str s.nx), .n (.bool s.full), .n (.bool s.bad)], hR 1590001 (v + 1) 51 2 (psD s.out ++ [(Mir.D.rcd [(Mir.D.str key),(Mir.D.str val)])])] : Heap) = hSc w fr mo (takeS fr mo s (key, val)) v')) := fun hlast => by
      refine sel_intro (fun h => ⟨rfl, v, ?_⟩) (fun h => ⟨rfl, .inl rfl, ⟨⟨rfl, rfl⟩, rfl⟩, by simp only [List.length_singleton]; omega, rfl, v + 1, ?_⟩)
      · rw [takeS, if_neg hnot, if_neg (by rw [hlast]; simp), if_pos (by simpa using h)]; rfl
      · rw [takeS, if_neg hnot, if_neg (by rw [hlast]; simp), if_neg (by simpa using h), psD_snoc]; rfl
    refine sel_dec (fun hpos => ?_) (fun hpos => ⟨rfl, rest ?_⟩)
    · have hi : (IntKind.wrap .i64 ((s.out.length : Int) - 1)).toNat < s.out.length := by rw [i64_in _ (by omega)]; omega
      have e1 : (IntKind.wrap .i64 ((s.out.length : Int) - 1)).toNat = s.out.length - 1 := by rw [i64_in _ (by omega)]; omega
      refine ⟨⟨rfl, rfl⟩, by rw [i64_in _ (by omega)]; omega, by rw [i64_in _ (by omega)]; omega, ⟨rfl, rfl⟩, _, psD_at hi, _, rfl, ?_⟩
      have e2 : lt (s.out[(IntKind.wrap .i64 ((s.out.length : Int) - 1)).toNat]'hi).1 key = lastLt s.out key := by
        rw [last_at (by omega)]; simp only [e1]
      show sel (!(lt (s.out[(IntKind.wrap .i64 ((s.out.length : Int) - 1)).toNat]'hi).1 key)) _ _
      rw [e2]
      refine sel_intro (fun h => ⟨rfl, v, ?_⟩) (fun h => ⟨rfl, rest (by simpa using h)⟩)
      rw [takeS, if_neg hnot, if_pos (by simpa using h)]; rfl
    · have : s.out = [] := List.length_eq_zero_iff.1 (by omega)
      rw [this]; rfl
  obtain ⟨r, H', hr, rfl, v', rfl⟩ := key'
  exact ⟨v', hr⟩
end Go.Proofs.YtmmnobdpccdeoaaGreatDoor.M
