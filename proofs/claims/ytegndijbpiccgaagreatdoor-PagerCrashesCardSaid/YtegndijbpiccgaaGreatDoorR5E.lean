import Derived.Test.YtegndijbpiccgaaGreatDoorR5EdR
import Derived.KernelRfl
namespace Go.Proofs.YtegndijbpiccgaaGreatDoor.M
set_option linter.unusedVariables false
set_option linter.unusedSimpArgs false
open Go Go.Mir
def gave (w:Wd)(m:Int):Wd := { w with now:=w.now.set m.toNat false }
def DM (w:Wd)(m:Int)(b:Nat)(s:bA):Wd:=
 ⟨(gave w m).now.set b true,(gave w m).now.set b true,w.pages.set b s,w.root,w.gen+1⟩
theorem rB {w:Wd}{m:Int}{b h:Nat}{s:bA}{P:List Pr}{B:List Int}(hr:WRight w)(ht:IsTree w h P B)(hm:10<=m/\m<w.now.length/\m∉B)(hn:nowIs w.now (B++[m]))(hb:firstFree (gave w m)=some b)(hg:w.gen<1099511627776)(hs:s.size<=4096):
  10<=b/\b<w.now.length/\(b:Int)∉B/\WRight (DM w m b s)/\IsTree (DM w m b s) h P B/\nowIs (DM w m b s).now (B++[(b:Int)]):=by
 obtain⟨hu,hB⟩:=IP hr ht
 obtain⟨f1,f2,f3⟩:=DC hb
 have hlen:(gave w m).now.length=w.now.length:=by simp[gave]
 have hmi:m.toNat<w.now.length:=by omega
 have hmn:((m.toNat:Nat):Int)=m:=by omega
 rw[hlen]at f1
 have htr:∀i,tr (gave w m).now i=if i=m.toNat then false else tr w.now i:=λi=>E7 hmi i
 have hfree:tr w.base b=false/\tr (gave w m).now b=false:=by have:AY (gave w m) b=true:=f2;unfold AY at this;simpa[gave] using this
 obtain⟨⟨r1,r2,r3,r4⟩,r5,r6,r7,r8,r9⟩:=id hr
 have hb10:10<=b:=Classical.byContradiction λhc=>by have:=(r4 b (by omega)).2;have h2:=hfree.2;rw[htr,if_neg (by omega),this]at h2;cases h2
 have hbB:(b:Int)∉B:=λhx=>by have h2:=hfree.2;have hne:b≠m.toNat:=λe=>hm.2.2 (by rw[<-hmn,<-e];exact hx);rw[htr,if_neg hne,hn b f1]at h2;simp[hx]at h2
 have hlen2:(DM w m b s).now.length=w.now.length:=by simp[DM,gave]
 have hnow:∀i:Nat,i<w.now.length->tr (DM w m b s).now i=decide (i<10\/(i:Int)∈B++[(b:Int)]):=λi hi=>by
  have e:tr (DM w m b s).now i=if i=b then true else tr (gave w m).now i:=E7 (by rw[hlen];exact f1) i
  rw[e,htr];by_cases h1:i=b;·simp[h1]
  ·rw[if_neg h1];have h1':¬(i:Int)=b:=by omega
   by_cases h2:i=m.toNat
   ·rw[if_pos h2];have h3:(i:Int)∉B:=by rw[h2,hmn];exact hm.2.2
    simp[h1',h3];omega
   ·rw[if_neg h2,hn i hi];have h3:¬(i:Int)=m:=by omega
    simp[h1',h3]
 have hR:WRight (DM w m b s):=by
  refine⟨⟨rfl,by rw[hlen2];exact r2,by rw[hlen2];exact r3,λj hj=>?_⟩,by rw[hlen2];simp[DM];omega,by simp only[DM];omega,by simp only[DM];omega,by rw[hlen2];exact r8,λt ht=>?_⟩
  ·have:tr (DM w m b s).now j=true:=by rw[hnow j (by omega)];simp[hj]
   exact⟨this,this⟩
  ·rcases List.mem_or_eq_of_mem_set ht with h|rfl;·exact r9 t h
   ·exact hs
 refine⟨hb10,f1,hbB,hR,I0 ht rfl λx hx r n hh=>?_,λi hi=>hnow i (by rw[hlen2]at hi;exact hi)⟩
 have hxr:=hB x hx
 have h1:=Zl (g:=w.gen+1) (l:=w.base) (by omega) hh
 have hxb:x.toNat≠b:=λe=>hbB (by rw[<-e,show((x.toNat:Nat):Int)=x by omega];exact hx)
 rw[<-h1]
 have hp:pgAt (DM w m b s) x=pgAt ⟨w.base,w.now,w.pages,w.root,w.gen+1⟩ x:=by show pgAt { DM w m b s with pages:=w.pages.set b s } x=_;rw[Je (w := { DM w m b s with pages:=w.pages }) (by show b<w.pages.length;omega),if_neg hxb];rfl
 have hp2:(DM w m b s).pages.length=w.pages.length:=by simp[DM]
 have hx1:tr (DM w m b s).now x.toNat=true:=by rw[hnow _ (by omega),show((x.toNat:Nat):Int)=x by omega];simp[hx]
 unfold Aj
 dsimp only
 rw[hlen2,hp2,hx1,BF hh,hp]
 rfl
end Go.Proofs.YtegndijbpiccgaaGreatDoor.M
namespace Go.Proofs.YtegndijbpiccgaaGreatDoor.M
set_option linter.unusedVariables false
set_option linter.unusedSimpArgs false
open Go Go.Mir Go.Proofs
def KI:List Nat:=[1000119,1000180,1000074,1000242,1000243,2000178,2000181,2000204,2000207,2000183,7600700007600102,148]
noncomputable def b76:=bO Tryz.prog Tryz.f76.body KI 76 [(7,[1,19],[7600102],[],[])] [(2,[.keepF 76,.keep 1,.ptr 5 7600102 0,.box 7600102 [.int .i64]])]
noncomputable def c76:FnC:=⟨76,20,[.tmp 4],b76,false,[.one (.int .i64),.one (.slo 1)],.val (.one (.int .i64)),none,false,[]⟩
theorem ADM:IsFn Tryz.prog 76 c76:=A0 Tryz.func76 rfl rfl
def ACx:Cmd:=.seq (.region [o 3 (.mov (.const (.bool false)))]) (.seq (.region [m 4 0,os 5 (.ld (T 1) none) sI,os 6 (.call false 125 [T 4,T 5]) sB,m 3 6]) .ret)
noncomputable def c124:FnC:=⟨124,7,[.tmp 3],ACx,false,[.one (.slo 1)],.val (.one .bool),none,false,[]⟩
theorem ABX:IsFn Tryz.prog 124 c124:=Ki [1000119,1000180,1000074,1000242,1000243,2000178,2000181,2000204,2000207,2000183,7600700007600102,148] [] [] Tryz.func124 rfl
noncomputable def b77:=bO Tryz.prog Tryz.f77.body KI 77 [] [(3,[.keepF 77,.keep 0,.keep 1,.keep 8,.keep 13,.keep 14,.slot 15 (.one (.int .i64)),.row 7750101 4 1 false])]
noncomputable def c77:FnC:=⟨77,33,[.tmp 6,.tmp 7],b77,false,[.one (.slo 1),.one .bool,.one (.slo 1)],.tup [.one (.slo 1),.one (.int .i64)],none,false,[]⟩
theorem ADA:IsFn Tryz.prog 77 c77:=A0 Tryz.func77 rfl rfl
noncomputable def b34:=bO Tryz.prog Tryz.f34.body KI 34 [] []
noncomputable def c34:FnC:=⟨34,34,[.cell 2 (some 2),.tmp 3,.tmp 4],b34,false,[.agg [.slo 1,.slo 1]],.tup [.agg [.slo 1,.slo 1],.one (.int .i64),.one (.int .i64)],none,false,[]⟩
theorem AC1:IsFn Tryz.prog 34 c34:=A0 Tryz.func34 rfl rfl
noncomputable def b59:=bO Tryz.prog Tryz.f59.body KI 59 [] [(5,[.keepF 59,.keep 2,.keep 4,.keep 6,.keep 16,.keep 17,.slot 18 (.one (.int .i64)),.keepO 5900000,.box 5900001 [.nil,.nil],.row 5950302 4 1 false])]
noncomputable def c59:FnC:=⟨59,45,[.cell 4 (some 2),.tmp 5],b59,false,[.agg [.slo 1,.slo 1],.one (.slo 1)],.tup [.agg [.slo 1,.slo 1],.one (.int .i64)],none,false,[]⟩
theorem ADP:IsFn Tryz.prog 59 c59:=A0 Tryz.func59 rfl rfl
noncomputable def ADc:=bO Tryz.prog Tryz.f173.body KI 173 [(13,[1,4,6],[17301702],[],[]),(14,[1,4,6,47,48,49],[17301702],[],[]),(20,[1,4,6,47,48,49],[17301702],[],[])] [(7,[.keepF 173,.keep 1,.keep 4,.keep 6,.keep 27,.keep 28,.slot 29 (.one (.int .i64)),.keepO 17300000,.box 17300307 [.str]]),(14,[.keepF 173,.keep 1,.keep 4,.keep 6,.keep 47,.keep 48,.slot 49 (.one (.int .i64)),.keepO 17300000,.box 17300307 [.str]])]
noncomputable def c173:FnC:=⟨173,77,[.tmp 2,.tmp 3],ADc,false,[.agg [.bool,.slo 1,.slo 1,.slo 1]],.tup [.one .str,.one (.int .i64)],none,false,[]⟩
theorem sY:IsFn Tryz.prog 173 c173:=A0 Tryz.func173 rfl rfl
def AFv:Cmd:=.seq (.region [m 6 0,os 7 (.call false 80 [T 6]) (.tup [.one .str,.one (.int .i64)]),m 5 7,o 8 (.ext (T 5) 0),o 9 (.ext (T 5) 1),m 3 8,m 4 9]) (.region [os 10 (.ld (T 1) none) sS,m 11 3,o 12 (.lit 19600102 9 1 [T 10,T 11]),os 13 (.call false 83 [T 12]) sS,u (.st (T 1) (T 13) 1)])
noncomputable def c196:FnC:=⟨196,14,[],AFv,false,[.one .str],.tup [],none,true,[]⟩
theorem uQ:IsFn Tryz.prog 196 c196:=Ki [1000119,1000180,1000074,1000242,1000243,2000178,2000181,2000204,2000207,2000183,7600700007600102,148] [] [] Tryz.func196 rfl
noncomputable def AF8:=bO Tryz.prog Tryz.f199.body KI 199 [] []
noncomputable def c199:FnC:=⟨199,74,[.cell 2 (some 4),.tmp 3,.cell 4 (some 4),.tmp 5],AF8,false,[.agg [.bool,.slo 1,.slo 1,.slo 1]],.tup [.agg [.bool,.slo 1,.slo 1,.slo 1],.one .str,.agg [.bool,.slo 1,.slo 1,.slo 1],.one (.int .i64)],none,false,[]⟩
theorem AAy:IsFn Tryz.prog 199 c199:=A0 Tryz.func199 rfl rfl
noncomputable def AEO:=bO Tryz.prog Tryz.f206.body KI 206 [] []
noncomputable def c206:FnC:=⟨206,63,[.cell 6 (some 4),.tmp 7],AEO,false,[.agg [.bool,.slo 1,.slo 1,.slo 1],.one .str,.agg [.bool,.slo 1,.slo 1,.slo 1]],.tup [.agg [.bool,.slo 1,.slo 1,.slo 1],.one (.int .i64)],none,false,[]⟩
theorem tR:IsFn Tryz.prog 206 c206:=A0 Tryz.func206 rfl rfl
def AGj:Cmd:=.seq (.region [o 2 (.mov (.const (.slice none 0 0)))]) (.seq (.region [m 3 0,os 4 (.call false 227 [T 3]) sL,m 2 4]) .ret)
noncomputable def c223:FnC:=⟨223,5,[.tmp 2],AGj,false,[.one (.slo 1)],.val (.one (.slo 1)),none,false,[]⟩
theorem ABI:IsFn Tryz.prog 223 c223:=Ki [1000119,1000180,1000074,1000242,1000243,2000178,2000181,2000204,2000207,2000183,7600700007600102,148] [] [] Tryz.func223 rfl
def AEP:Cmd:=.seq (.region [o 2 (.mov (.const (.slice none 0 0)))]) (.seq (.region [m 3 0,os 4 (.call false 228 [T 3]) sL,m 2 4]) .ret)
noncomputable def c224:FnC:=⟨224,5,[.tmp 2],AEP,false,[.one (.slo 1)],.val (.one (.slo 1)),none,false,[]⟩
theorem ABD:IsFn Tryz.prog 224 c224:=Ki [1000119,1000180,1000074,1000242,1000243,2000178,2000181,2000204,2000207,2000183,7600700007600102,148] [] [] Tryz.func224 rfl
noncomputable def AHh:=bO Tryz.prog Tryz.f227.body KI 227 [(10,[0,6],[22701302],[],[]),(11,[6,25,26,27],[22701302],[],[]),(14,[6,25,26,27],[22701302],[],[])] [(3,[.keepF 227,.keep 0,.slot 3 (.one (.int .i64)),.keep 9,.keep 10,.slot 11 (.one (.int .i64))]),(11,[.keepF 227,.rowIn 6 22750901,.keep 25,.keep 26,.slot 27 (.one (.int .i64)),.row 22750901 9 1 false])]
noncomputable def c227:FnC:=⟨227,36,[.tmp 2],AHh,false,[.one (.slo 1)],.val (.one (.slo 1)),none,false,[]⟩
theorem vG:IsFn Tryz.prog 227 c227:=A0 Tryz.func227 rfl rfl
noncomputable def AEh:=bO Tryz.prog Tryz.f228.body KI 228 [(10,[0,6],[22801302],[],[]),(11,[6,25,26,27],[22801302],[],[]),(14,[6,25,26,27],[22801302],[],[])] [(3,[.keepF 228,.keep 0,.slot 3 (.one (.int .i64)),.keep 9,.keep 10,.slot 11 (.one (.int .i64))]),(11,[.keepF 228,.rowIn 6 22850901,.keep 25,.keep 26,.slot 27 (.one (.int .i64)),.row 22850901 3 1 false])]
noncomputable def c228:FnC:=⟨228,36,[.tmp 2],AEh,false,[.one (.slo 1)],.val (.one (.slo 1)),none,false,[]⟩
theorem wI:IsFn Tryz.prog 228 c228:=A0 Tryz.func228 rfl rfl
noncomputable def AFR:=bO Tryz.prog Tryz.f148.body KI 148 [] []
noncomputable def c148:FnC:=⟨148,10,[.tmp 2],AFR,true,[.agg [.slo 1,.slo 1,.slo 1,.int .i64,.int .i64]],.val (.one .raw),none,false,[(.val (.one (.ptr 14800202 0)),[.box 14800202 [.slo 1,.slo 1,.row 14850102,.int .i64,.int .i64,.int .i64],.row 14850102 9 1 false])]⟩
theorem vC:IsFn Tryz.prog 148 c148:=A0 Tryz.func148 rfl rfl
noncomputable def ADR:=bO Tryz.prog Tryz.f174.body KI 174 [] []
noncomputable def c174:FnC:=⟨174,37,[.cell 6 (some 4)],ADR,false,[.one .raw,.one (.int .i64),.one (.int .i64)],.val (.agg [.bool,.sln 1,.sln 1,.sln 1]),none,true,[]⟩
theorem vX:IsFn Tryz.prog 174 c174:=A0 Tryz.func174 rfl rfl
noncomputable def AEo:=bO Tryz.prog Tryz.f175.body KI 175 [] []
noncomputable def c175:FnC:=⟨175,32,[],AEo,false,[.one .raw,.one (.int .i64)],.tup [],none,true,[]⟩
theorem xJ:IsFn Tryz.prog 175 c175:=A0 Tryz.func175 rfl rfl
noncomputable def ACW:=bO Tryz.prog Tryz.f149.body KI 149 [] []
noncomputable def c149:FnC:=⟨149,75,[.tmp 4],ACW,false,[.one .raw,.agg [.bool,.slo 1,.slo 1,.slo 1]],.val (.one (.int .i64)),none,true,[]⟩
theorem uM:IsFn Tryz.prog 149 c149:=A0 Tryz.func149 rfl rfl
noncomputable def AD7:=bO Tryz.prog Tryz.f150.body KI 150 [] []
noncomputable def c150:FnC:=⟨150,18,[.cell 2 (some 5),.tmp 3],AD7,false,[.one .raw],.tup [.agg [.slo 1,.slo 1,.slo 1,.int .i64,.int .i64],.one (.int .i64)],none,true,[(.val (.one .raw),[.keepO 14850102])]⟩
theorem zG:IsFn Tryz.prog 150 c150:=A0 Tryz.func150 rfl rfl
noncomputable def AEZ:=bO Tryz.prog Tryz.f147.body KI 147 [] []
noncomputable def c147:FnC:=⟨147,18,[.tmp 4],AEZ,false,[.one .str,.one .str],.val (.one .bool),none,false,[]⟩
theorem AAp:IsFn Tryz.prog 147 c147:=A0 Tryz.func147 rfl rfl
noncomputable def AEp:=bO Tryz.prog Tryz.f177.body KI 177 [] []
noncomputable def c177:FnC:=⟨177,52,[.cell 4 (some 4)],AEp,false,[.one .raw,.agg [.bool,.slo 1,.slo 1,.slo 1]],.val (.agg [.int .i64,.int .i64,.str,.bool]),none,true,[]⟩
theorem AAD:IsFn Tryz.prog 177 c177:=A0 Tryz.func177 rfl rfl
noncomputable def AEv:=bO Tryz.prog Tryz.f151.body KI 151 [] []
noncomputable def c151:FnC:=⟨151,143,[.cell 6 (some 4)],AEv,false,[.one .raw,.one (.int .i64),.one (.int .i64)],.val (.agg [.int .i64,.int .i64,.str,.bool]),none,true,[]⟩
theorem zQ:IsFn Tryz.prog 151 c151:=A0 Tryz.func151 rfl rfl
noncomputable def AGW:=bO Tryz.prog Tryz.f114.body KI 114 [] []
noncomputable def c114:FnC:=⟨114,96,[.cell 6 (some 5),.tmp 7],AGW,false,[.agg [.slo 1,.slo 1,.slo 1,.int .i64,.int .i64],.one .str,.one .str],.tup [.agg [.slo 1,.slo 1,.slo 1,.int .i64,.int .i64],.one (.int .i64)],none,false,[]⟩
theorem uE:IsFn Tryz.prog 114 c114:=A0 Tryz.func114 rfl rfl
def ADw:Cmd:=.seq (.region [o 2 (.mov (.const (.bool false)))]) (.seq (.region [m 3 0,os 4 (.slen (T 3)) sI,o 5 (.bin .geq (T 4) (N 1)),m 6 5,gd 7 (.mov (T 0)) 6 true,gs 8 (.slen (T 7)) 6 true sI,gd 9 (.bin .leq (T 8) (N 32)) 6 true,o 10 (.pick (T 6) (T 9) (.const (.bool false))),m 2 10]) .ret)
noncomputable def c115:FnC:=⟨115,11,[.tmp 2],ADw,false,[.one .str],.val (.one .bool),none,false,[]⟩
theorem ABW:IsFn Tryz.prog 115 c115:=Ki [1000119,1000180,1000074,1000242,1000243,2000178,2000181,2000204,2000207,2000183,7600700007600102,148] [] [] Tryz.func115 rfl
noncomputable def AFW:=bO Tryz.prog Tryz.f182.body KI 182 [] []
noncomputable def c182:FnC:=⟨182,22,[.cell 4 (some 4)],AFW,false,[.agg [.bool,.slo 1,.slo 1,.slo 1],.one (.int .i64)],.val (.agg [.bool,.slo 1,.slo 1,.slo 1]),none,false,[]⟩
theorem uD:IsFn Tryz.prog 182 c182:=A0 Tryz.func182 rfl rfl
noncomputable def AEb:=bO Tryz.prog Tryz.f152.body KI 152 [] []
noncomputable def c152:FnC:=⟨152,110,[.cell 6 (some 4)],AEb,false,[.one .raw,.one (.int .i64),.one (.int .i64)],.val (.agg [.bool,.slo 1,.slo 1,.slo 1]),none,true,[]⟩
theorem xB:IsFn Tryz.prog 152 c152:=A0 Tryz.func152 rfl rfl
noncomputable def AGy:=bO Tryz.prog Tryz.f183.body KI 183 [] []
noncomputable def c183:FnC:=⟨183,161,[.cell 10 (some 4)],AGy,false,[.one .raw,.agg [.bool,.slo 1,.slo 1,.slo 1],.one (.int .i64),.agg [.bool,.slo 1,.slo 1,.slo 1],.one (.int .i64)],.val (.agg [.bool,.slo 1,.slo 1,.slo 1]),none,true,[(.val (.one .raw),[.keepO 15251502,.keepO 15251505])]⟩
theorem zN:IsFn Tryz.prog 183 c183:=A0 Tryz.func183 rfl rfl
def ADJ:Cmd:=.seq (.region [m 2 0,o 3 (.nilck (T 2)),o 4 (.fadr (T 3) 0),o 5 (.ld (T 4) none),o 6 (.nilck (T 5)),o 7 (.fadr (T 6) 5),os 8 (.ld (T 7) none) sI,o 9 (.bin .eql (T 8) (N 0))]) (.cond (T 9) (.region [m 10 0,o 11 (.nilck (T 10)),o 12 (.fadr (T 11) 0),o 13 (.ld (T 12) none),o 14 (.nilck (T 13)),o 15 (.fadr (T 14) 5),u (.st (T 15) (N 81) 1)]) .skip)
noncomputable def c205:FnC:=⟨205,16,[],ADJ,false,[.one .raw],.tup [],none,true,[]⟩
theorem AAC:IsFn Tryz.prog 205 c205:=Ki [1000119,1000180,1000074,1000242,1000243,2000178,2000181,2000204,2000207,2000183,7600700007600102,148] [] [] Tryz.func205 rfl
noncomputable def AFX:=bO Tryz.prog Tryz.f208.body KI 208 [] []
noncomputable def c208:FnC:=⟨208,104,[.cell 6 (some 4),.tmp 7,.cell 8 (some 4)],AFX,false,[.agg [.bool,.slo 1,.slo 1,.slo 1],.one .str,.agg [.bool,.slo 1,.slo 1,.slo 1]],.tup [.agg [.bool,.slo 1,.slo 1,.slo 1],.one .str,.agg [.bool,.slo 1,.slo 1,.slo 1]],none,false,[]⟩
theorem yF:IsFn Tryz.prog 208 c208:=A0 Tryz.func208 rfl rfl
noncomputable def AHb:=bO Tryz.prog Tryz.f116.body KI 116 [] []
noncomputable def c116:FnC:=⟨116,95,[.cell 4 (some 5),.tmp 5],AHb,false,[.agg [.slo 1,.slo 1,.slo 1,.int .i64,.int .i64],.one .str],.tup [.agg [.slo 1,.slo 1,.slo 1,.int .i64,.int .i64],.one (.int .i64)],none,false,[]⟩
theorem yO:IsFn Tryz.prog 116 c116:=A0 Tryz.func116 rfl rfl
noncomputable def b70:=bO Tryz.prog Tryz.f70.body KI 70 [(3,[1,2,4],[7000502,7000601],[],[]),(4,[2,4,14,15,16],[7000502,7000601],[],[]),(17,[2,4,14,15,16],[7000502,7000601],[],[])] [(4,[.keepF 70,.keep 2,.keep 4,.keep 14,.keep 15,.slot 16 (.one (.int .i64)),.box 7000000 [.slo 1,.slo 1,.slo 1,.int .i64,.int .i64],.box 7000001 [.nil,.nil,.nil,.int .i64,.int .i64]])]
noncomputable def c70:FnC:=⟨70,61,[.cell 4 (some 5),.tmp 5],b70,false,[.agg [.slo 1,.slo 1,.slo 1,.int .i64,.int .i64],.one (.slo 3)],.tup [.agg [.slo 1,.slo 1,.slo 1,.int .i64,.int .i64],.one (.int .i64)],none,false,[]⟩
theorem AD5:IsFn Tryz.prog 70 c70:=A0 Tryz.func70 rfl rfl
noncomputable def AEj:List (Nat×Fun):=[(76,.code c76),(124,.code c124),(77,.code c77),(34,.code c34),(59,.code c59),(173,.code c173),(196,.code c196),(199,.code c199),(206,.code c206),(223,.code c223),(224,.code c224),(227,.code c227),(228,.code c228),(148,.code c148),(174,.code c174),(175,.code c175),(149,.code c149),(150,.code c150),(147,.code c147),(177,.code c177),(151,.code c151),(114,.code c114),(115,.code c115),(182,.code c182),(152,.code c152),(183,.code c183),(205,.code c205),(208,.code c208),(116,.code c116),(70,.code c70),(180,.prim (some (18000001,3,1,false)) (DD 18000001 3 1 8)),(74,.prim (some (7400001,4,1,false)) (DD 7400001 4 1 1)),(242,.prim (some (24200001,9,1,false)) (IU 24200001 9 1 16)),(243,.prim (some (24300001,3,1,false)) (IU 24300001 3 1 8)),(178,.prim (some (17800001,9,1,false)) (Ha (MM 16) 9)),(181,.prim (some (18100001,3,1,false)) (Ha (MM 8) 3)),(204,.prim (some (20400001,9,1,false)) (Ha OD 9)),(207,.prim (some (20700001,3,1,false)) (Ha OD 3))]
noncomputable def fM:List (Nat×Fun):=AEj++gR
noncomputable def Az:Nat->Option Fun:=D3 fM
set_option maxRecDepth 100000 in
theorem XB:Company Tryz.prog Az:=
 .cons ADM<|.cons ABX<|.cons ADA<|.cons AC1<|.cons ADP<|.cons sY<|.cons uQ<|.cons AAy<|.cons tR<|.cons ABI<|.cons ABD<|.cons vG<|.cons wI<|.cons vC<|.cons vX<|.cons xJ<|.cons uM<|.cons zG<|.cons AAp<|.cons AAD<|.cons zQ<|.cons uE<|.cons ABW<|.cons uD<|.cons xB<|.cons zN<|.cons AAC<|.cons yF<|.cons yO<|.cons AD5<|.cons (IQ Tryz.laysSlE041_f180 rfl (by kernel_rfl))<|.cons (IQ Tryz.laysSlE041_f74 rfl (by kernel_rfl))<|.cons (SZ Tryz.laysGrow_f242 rfl (by kernel_rfl))<|.cons (SZ Tryz.laysGrow_f243 rfl (by kernel_rfl))<|.cons (cI Tryz.laysIns_f178 rfl 17800001)<|.cons (cY Tryz.laysIns_f181 rfl 18100001)<|.cons (Y7 Tryz.laysSlE45_f204 rfl (by kernel_rfl) 20400001)<|.cons (Y7 Tryz.laysSlE45_f207 rfl (by kernel_rfl) 20700001)<|QR
theorem DL:PL AD Az:=II (by kernel_rfl)
theorem ABZ:Az 196=some (.code c196):=rfl
theorem yG:Az 174=some (.code c174):=rfl
theorem AAR:Az 175=some (.code c175):=rfl
theorem AB4:Az 149=some (.code c149):=rfl
theorem AAx:Az 150=some (.code c150):=rfl
theorem AAt:Az 177=some (.code c177):=rfl
theorem zW:Az 151=some (.code c151):=rfl
theorem fK:Az 152=some (.code c152):=rfl
theorem AAn:Az 183=some (.code c183):=rfl
theorem AAb:Az 205=some (.code c205):=rfl
theorem W9:Az 180=some (.prim (some (18000001,3,1,false)) (DD 18000001 3 1 8)):=rfl
theorem iY:Az 74=some (.prim (some (7400001,4,1,false)) (DD 7400001 4 1 1)):=rfl
theorem wM:Az 242=some (.prim (some (24200001,9,1,false)) (IU 24200001 9 1 16)):=rfl
theorem xD:Az 243=some (.prim (some (24300001,3,1,false)) (IU 24300001 3 1 8)):=rfl
theorem vD:Az 178=some (.prim (some (17800001,9,1,false)) (Ha (MM 16) 9)):=rfl
theorem vQ:Az 181=some (.prim (some (18100001,3,1,false)) (Ha (MM 8) 3)):=rfl
theorem wX:Az 204=some (.prim (some (20400001,9,1,false)) (Ha OD 9)):=rfl
theorem ABf:Az 207=some (.prim (some (20700001,3,1,false)) (Ha OD 3)):=rfl
end Go.Proofs.YtegndijbpiccgaaGreatDoor.M
