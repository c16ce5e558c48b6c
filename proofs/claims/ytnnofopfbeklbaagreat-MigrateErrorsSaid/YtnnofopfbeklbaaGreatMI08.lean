/- Texts of this claim's author and of the print of its functions, merged by merge.py. -/
import Derived.Test.YtnnofopfbeklbaaGreatMI02
import Derived.WalkLawsBesides
import Derived.Recover
import Derived.Defers
import Derived.Test.YtnnofopfbeklbaaGreatMI06
import Derived.Test.YtnnofopfbeklbaaGreatMI07
import Derived.StillTailTactics
import Derived.Test.YtnnofopfbeklbaaGreatMI03
import Derived.Lib.MakeNoZero
import Derived.Laws.CopyOwn
import Derived.Laws.MathBits
import Derived.Deep.RegionLaw
import Derived.Test.YtnnofopfbeklbaaGreatMI04
import Derived.Test.YtnnofopfbeklbaaGreatMI05
set_option linter.unusedVariables false
set_option linter.unusedSimpArgs false
set_option maxHeartbeats 8000000
set_option maxRecDepth 100000
section
namespace Go.Proofs.YtnnofopfbeklbaaGreat.C
open Go.RowKit Go.Proofs.YtnnofopfbeklbaaGreatW.PrintWords Go.Proofs.YtnnofopfbeklbaaGreatW.PrintLast Go.Proofs.YtnnofopfbeklbaaGreatW.PrintMore
def Tl(lo g:Nat)(w w':World):Prop:=∀k cs t,lo≤k→w.heap[k]? = some (.cells cs t (0,0))→t≠5→k≠g→w'.heap[k]? = some (.cells cs t (0,0))
def Ty(W W':World):Prop:=∀(k:Nat) (cs:Array Value) (t:TypeId),W.heap[k]? = some (.cells cs t (0,0))→t≠3→t≠30→t≠264→W'.heap[k]? = some (.cells cs t (0,0))
theorem Ty.set{W W1:World}(h:Ty W W1){p:Addr}{cs:Array Value}{t:TypeId}(hp:W1.heap[p.block]? = some (.cells cs t (0,0)))(ht:t=3∨t=30∨t=264)(u:Value):Ty W (W1.setCell p u):=fun k cs' t' h1 h2 h3 h4 =>
 Qcr (h k cs' t' h1 h2 h3 h4) (p:=p) (Qcw (h k cs' t' h1 h2 h3 h4) hp (by rcases ht with rfl|rfl|rfl;exact h2;exact h3;exact h4)) u
theorem Ty.refl(W:World):Ty W W:=fun _ _ _ h _ _ _=>h
theorem Ty.alloc{W W1:World}(h:Ty W W1)(o:Obj):Ty W (W1.alloc o):=fun k cs t h1 h2 h3 h4=>Qdd (h k cs t h1 h2 h3 h4) o
theorem Qkr(tmps:Array Value)(W:World)(ba be:Nat)(i er:Int)(h4:tmps[4]? = some (.pointer (some ⟨ba,0,none⟩)))(h5:tmps[5]? = some (.pointer (some ⟨be,0,none⟩)))
  (c4:W.heap[ba]? = some (.cells #[.int .i64 i] 3 (0,0))) (c5:W.heap[be]? = some (.cells #[.int .i64 er] 30 (0,0))) :
  (results Tryz.f137 tmps).run Tryz.prog W=.ok (.tuple #[.int .i64 i,.int .i64 er]) W:=by
 have hr:Tryz.f137.results=#[.cell 4 3,.cell 5 30]:=rfl
 have d4:W.cell? ⟨ba,0,none⟩=some (.int .i64 i):=(Qct c4 0).trans rfl
 have d5:W.cell? ⟨be,0,none⟩=some (.int .i64 er):=(Qct c5 0).trans rfl
 have hu1:=Tryz.underlying3
 have hu2:=Tryz.underlying30
 simp[results,hr,h4,h5,go_sem,loadVar,d4,d5,c4,c5]
theorem Qks(F:Nat)(cap:Array Value)(A0:Option Addr)(c0:Nat)(l0:List Int)(w:World)(hr0:Kd.C (Kd.int .u8) w A0 l0.length l0)(hl:l0.length≤140737488355328)
  (hcf:∀(as_:Array Value) (W:World),(callFunc F as_).run Tryz.prog W=.ok (.enter F as_) W)
  (Post:Int→Int→World→Prop) (hst:∀er i W W',Post er i W→Below w.heap.size W W'→Ty W W'→Post er i W')
  (hrd:∀(W:World) (g:Nat),w.heap.size≤g→Below w.heap.size w W→IsCur W w.heap.size g l0 0→Calls Tryz.prog F (#[.pointer (some ⟨g,0,none⟩)]++cap) W fun e W'=>∃i,IsCur W' w.heap.size g l0 i∧Tl w.heap.size g W W' ∧
   ((e=.returned (.tuple #[])∧Post 0 i W')∨∃er,e=.panicked [Qke g er]∧Post er i W')) :
  Calls Tryz.prog 137 #[.slice A0 l0.length c0,.func (.func F) #[] cap] w fun e w'=>∃er i,e=.returned (.tuple #[.int .i64 i,.int .i64 er])∧Post er i w':=by
 have hu:=Tryz.underlying264
 have HR0:=QA hr0
 have HRD:=QA @hrd
 have HST:=QA @hst
 have hmf:∀(fn:Fn) (first cap:Array Value) (w:World),(Instr.makeFunc fn first cap).run Tryz.prog w=.ok (.func fn first cap) w:=fun _ _ _ _=>rfl
 have hnil:∀W:World,(binOp .eql 209 (.func (.func F) #[] cap) .nilFunc).run Tryz.prog W=.ok (.bool false) W:=fun W=>by kernel_rfl
 clear hr0 hrd hst
 go_enter_defers Tryz.func137,Tryz.ntmps137
 go_upto_region 5 with(go_at_call 70;refine(Qib A0 c0 l0 _ (Kd.C_below HR0.out (Qbw (Qbw (Below.refl _ _) _) _)) hl).mono ?_;rintro ee w3 ⟨vb,rfl,hR,hb⟩;obtain⟨A,c,hv⟩:=Kd.R_slice hR;subst hv)
 have b0:Below w.heap.size w ((w.alloc (.cells #[.int .i64 0] 3)).alloc (.cells #[.int .i64 0] 30)):=Qbw (Qbw (Below.refl _ _) _) _
 have e0:((w.alloc (.cells #[.int .i64 0] 3)).alloc (.cells #[.int .i64 0] 30)).heap.size=w.heap.size+2:=by simp[World.size_alloc]
 have ka:=Qdg (Qdd (Qdh w (.cells #[.int .i64 0] 3)) (.cells #[.int .i64 0] 30)) hb
 have ke:=Qdg (Qdh (w.alloc (.cells #[.int .i64 0] 3)) (.cells #[.int .i64 0] 30)) hb
 rw[World.size_alloc]at ke
 have b3:Below w.heap.size w w3:=b0.trans (Qia hb b0.size)
 have hs3:w.heap.size+2≤w3.heap.size:=by have:=hb.size;omega
 have kc:=Qdd (Qdh w3 (.cells #[.slice A l0.length c,.int .i64 0,.bool true] 264)) (.cells #[.pointer (some ⟨w3.heap.size,0,none⟩)] 204)
 have kp:=Qdh (w3.alloc (.cells #[.slice A l0.length c,.int .i64 0,.bool true] 264)) (.cells #[.pointer (some ⟨w3.heap.size,0,none⟩)] 204)
 rw[World.size_alloc]at kp
 have ka5:=Qdd (Qdd ka (.cells #[.slice A l0.length c,.int .i64 0,.bool true] 264)) (.cells #[.pointer (some ⟨w3.heap.size,0,none⟩)] 204)
 have ke5:=Qdd (Qdd ke (.cells #[.slice A l0.length c,.int .i64 0,.bool true] 264)) (.cells #[.pointer (some ⟨w3.heap.size,0,none⟩)] 204)
 have b5:Below w.heap.size w ((w3.alloc (.cells #[.slice A l0.length c,.int .i64 0,.bool true] 264)).alloc (.cells #[.pointer (some ⟨w3.heap.size,0,none⟩)] 204)):=b3.trans (Qia (Qbw (Qbw (Below.refl _ _) _) _) b3.size)
 have hI5:IsCur ((w3.alloc (.cells #[.slice A l0.length c,.int .i64 0,.bool true] 264)).alloc (.cells #[.pointer (some ⟨w3.heap.size,0,none⟩)] 204)) w.heap.size w3.heap.size l0 0:=⟨_,kc,R8.low (R8.kept (R8.kept hR (Qbw (Below.refl _ _) _)) (Qbw (Below.refl _ _) _)) (by rw[e0];omega)⟩
 generalize hW5:((w3.alloc (.cells #[.slice A l0.length c,.int .i64 0,.bool true] 264)).alloc (.cells #[.pointer (some ⟨w3.heap.size,0,none⟩)] 204))=W5 at *
 have HI5:=QA hI5
 have HB5:=QA b5
 have p0:W5.cell? ⟨w3.heap.size+1,0,none⟩=some (.pointer (some ⟨w3.heap.size,0,none⟩)):=(Qct kp 0).trans rfl
 clear hI5 b5 hW5 ka ke b0 e0 hb hR
 have ha2:w.heap.size≠w3.heap.size:=by omega
 have he2:w.heap.size+1≠w3.heap.size:=by omega
 have hea:w.heap.size+1≠w.heap.size:=by omega
 have hcg:w3.heap.size+1≠w3.heap.size:=by omega
 go_wp2_with (refine(HRD.out W5 w3.heap.size (by omega) HB5.out HI5.out).mono ?_;rintro ee w6 ⟨i,hI6,hT6,⟨rfl,hp6⟩ |⟨er,rfl,hp6⟩⟩<;>(obtain⟨v6,kg6,hR6⟩:=hI6;have ka6:=hT6 _ _ _ (by omega) ka5 (by decide) ha2;have ke6:=hT6 _ _ _ (by omega) ke5 (by decide) he2;have kp6:=hT6 _ _ _ (by omega) kp (by decide) hcg;have q0:w6.cell? ⟨w3.heap.size+1,0,none⟩=some (.pointer (some ⟨w3.heap.size,0,none⟩)):=(Qct kp6 0).trans rfl;have q1:w6.cell? ⟨w3.heap.size,1,none⟩=some (.int .i64 i):=(Qct kg6 1).trans rfl;have q2:w6.frozen? ⟨w.heap.size,0,none⟩=false:=Qcu ka6 0;have q3:w6.cell? ⟨w.heap.size,0,none⟩=some (.int .i64 0):=(Qct ka6 0).trans rfl;have ke7:=Qcr ke6 (p:=⟨w.heap.size,0,none⟩) hea (.int .i64 i);have q4:(w6.setCell ⟨w.heap.size,0,none⟩ (.int .i64 i)).frozen? ⟨w.heap.size+1,0,none⟩=false:=Qcu ke7 0;have q5:(w6.setCell ⟨w.heap.size,0,none⟩ (.int .i64 i)).cell? ⟨w.heap.size+1,0,none⟩=some (.int .i64 0):=(Qct ke7 0).trans rfl))
 ·have bc8:=Qcr (Qcr kp6 (p:=⟨w.heap.size,0,none⟩) (show w3.heap.size+1≠w.heap.size by omega) (.int .i64 i)) (p:=⟨w.heap.size+1,0,none⟩) (show w3.heap.size+1≠w.heap.size+1 by omega) (.int .i64 0)
  have g8:=Qcr (Qcr kg6 (p:=⟨w.heap.size,0,none⟩) (show w3.heap.size≠w.heap.size by omega) (.int .i64 i)) (p:=⟨w.heap.size+1,0,none⟩) (show w3.heap.size≠w.heap.size+1 by omega) (.int .i64 0)
  have ba8:=Qcr (Qcq ka6 0 (.int .i64 i)) (p:=⟨w.heap.size+1,0,none⟩) (show w.heap.size≠w.heap.size+1 by omega) (.int .i64 0)
  have be8:=Qcq ke7 0 (.int .i64 0)
  have ba9:=Qcq (Qcr ba8 (p:=⟨w3.heap.size,2,none⟩) ha2 (.bool false)) 0 (.int .i64 i)
  have be9:=Qcr (Qcr be8 (p:=⟨w3.heap.size,2,none⟩) he2 (.bool false)) (p:=⟨w.heap.size,0,none⟩) hea (.int .i64 i)
  have bl:Below w.heap.size w6 (((((w6.setCell ⟨w.heap.size,0,none⟩ (.int .i64 i)).setCell ⟨w.heap.size+1,0,none⟩ (.int .i64 0)).setCell ⟨w3.heap.size,2,none⟩ (.bool false)).setCell ⟨w.heap.size,0,none⟩ (.int .i64 i))) :=
   Qhz (Qhz (Qhz (Qhz (Below.refl _ _) (Nat.le_refl _)) (Nat.le_succ _)) (by omega)) (Nat.le_refl _)
  have bt:Ty w6 (((((w6.setCell ⟨w.heap.size,0,none⟩ (.int .i64 i)).setCell ⟨w.heap.size+1,0,none⟩ (.int .i64 0)).setCell ⟨w3.heap.size,2,none⟩ (.bool false)).setCell ⟨w.heap.size,0,none⟩ (.int .i64 i))) :=
   ((((Ty.refl w6).set ka6 (.inl rfl) _).set ke7 (.inr (.inl rfl)) _).set g8 (.inr (.inr rfl)) _).set (Qcr ba8 (p:=⟨w3.heap.size,2,none⟩) ha2 (.bool false)) (.inl rfl) _
  refine leaves_cons (f:=190) (args:=#[.pointer (some ⟨w3.heap.size+1,0,none⟩),.pointer (some ⟨w.heap.size,0,none⟩),.pointer (some ⟨w.heap.size+1,0,none⟩)]) (by simp) (by simp[go_sem]) ?_
  refine(Qkp w3.heap.size w.heap.size (w.heap.size+1) (w3.heap.size+1) i i v6 _ bc8 g8 ba8).mono ?_
  rintro e u' w'' ⟨rfl,rfl,rfl⟩
  show Leaves _ _ _ _ [] .returning _
  exact⟨_,Qkr _ _ _ _ i 0 rfl rfl ba9 be9,0,i,rfl,HST.out _ _ _ _ hp6 bl bt⟩
 ·have ba9:=Qcr (Qdd (Qcq (Qcr ka6 (p:=⟨w3.heap.size,2,none⟩) ha2 (.bool false)) 0 (.int .i64 i)) (.cells #[.pointer (some ⟨w3.heap.size,0,none⟩),.int .i64 er] 266)) (p:=⟨w.heap.size+1,0,none⟩) (show w.heap.size≠w.heap.size+1 by omega) (.int .i64 er)
  have be9:=Qcq (Qdd (Qcr (Qcr ke6 (p:=⟨w3.heap.size,2,none⟩) he2 (.bool false)) (p:=⟨w.heap.size,0,none⟩) hea (.int .i64 i)) (.cells #[.pointer (some ⟨w3.heap.size,0,none⟩),.int .i64 er] 266)) 0 (.int .i64 er)
  have s6:w.heap.size≤w6.heap.size:=Nat.le_of_lt (Qcs ka6)
  have b1:Below w.heap.size w6 ((w6.setCell ⟨w3.heap.size,2,none⟩ (.bool false)).setCell ⟨w.heap.size,0,none⟩ (.int .i64 i)):=Qhz (Qhz (Below.refl _ _) (by omega)) (Nat.le_refl _)
  have bl:Below w.heap.size w6 ((((w6.setCell ⟨w3.heap.size,2,none⟩ (.bool false)).setCell ⟨w.heap.size,0,none⟩ (.int .i64 i)).alloc (.cells #[.pointer (some ⟨w3.heap.size,0,none⟩),.int .i64 er] 266)).setCell ⟨w.heap.size+1,0,none⟩ (.int .i64 er)) :=
   Qhz (b1.trans (Qia (Qbw (Below.refl _ _) _) (Nat.le_trans s6 b1.size))) (Nat.le_succ _)
  have bt:Ty w6 ((((w6.setCell ⟨w3.heap.size,2,none⟩ (.bool false)).setCell ⟨w.heap.size,0,none⟩ (.int .i64 i)).alloc (.cells #[.pointer (some ⟨w3.heap.size,0,none⟩),.int .i64 er] 266)).setCell ⟨w.heap.size+1,0,none⟩ (.int .i64 er)) :=
   ((((Ty.refl w6).set kg6 (.inr (.inr rfl)) _).set (Qcr ka6 (p:=⟨w3.heap.size,2,none⟩) ha2 (.bool false)) (.inl rfl) _).alloc _).set (Qdd (Qcr (Qcr ke6 (p:=⟨w3.heap.size,2,none⟩) he2 (.bool false)) (p:=⟨w.heap.size,0,none⟩) hea (.int .i64 i)) _) (.inr (.inl rfl)) _
  refine leaves_cons (f:=190) (args:=#[.pointer (some ⟨w3.heap.size+1,0,none⟩),.pointer (some ⟨w.heap.size,0,none⟩),.pointer (some ⟨w.heap.size+1,0,none⟩)]) (by simp) (by simp[go_sem]) ?_
  refine(Qkq w3.heap.size w.heap.size (w.heap.size+1) (w3.heap.size+1) i 0 0 er v6 _ kp6 kg6 ka6 ke6).mono ?_
  rintro e u' w'' ⟨rfl,rfl,rfl⟩
  show Leaves _ _ _ _ [] .returning _
  exact⟨_,Qkr _ _ _ _ i er rfl rfl ba9 be9,er,i,rfl,HST.out _ _ _ _ hp6 bl bt⟩
def rotT(x n:Int):Int:=(Qac.f x n).getD 0
theorem rotT_is(x n:Int)(h:0≤n∧n<32∧Go.bits .and .u64 (IntKind.u64.wrap n) 31=n):Qac.f x n=some (rotT x n):=by
 unfold rotT Qac.f
 rw[h.2.2,if_pos h.1,if_pos (by rw[IntWalk.u64_in _ (by omega)];omega)]
 rfl
def numT(l:List Int):Int:=(Qbs.f l).getD 0
theorem numT_is(l:List Int)(h:4≤l.length):Qbs.f l=some (numT l):=by
 unfold numT Qbs.f
 rw[if_pos (show(0:Int)<l.length by omega),if_pos (show(1:Int)<l.length by omega),if_pos (show(2:Int)<l.length by omega),if_pos (show(3:Int)<l.length by omega)]
 rfl
def Qkt(v y:Int):Int:=IntKind.u32.wrap (rotT (IntKind.u32.wrap (v+IntKind.u32.wrap (y*2246822519))) 13*2654435761)
def Qku(v:V4)(l:List Int):V4:=(Qkt v.1 (numT l),Qkt v.2.1 (numT (l.drop 4)),Qkt v.2.2.1 (numT (l.drop 8)),Qkt v.2.2.2 (numT (l.drop 12)))
def Qkv:Nat→V4→List Int→V4
 | 0,v,_=>v
 | m+1,v,l=>Qkv m (Qku v l) (l.drop 16)
def stepT(i:Nat)(v:V4)(l:List Int):V4:=(if 0<i then Qkt v.1 (numT l)else v.1,if 1<i then Qkt v.2.1 (numT (l.drop 4))else v.2.1,if 2<i then Qkt v.2.2.1 (numT (l.drop 8))else v.2.2.1,if 3<i then Qkt v.2.2.2 (numT (l.drop 12))else v.2.2.2)
def V0T(sd:Int):V4:=((sd+2654435761+2246822519)%4294967296,(sd+2246822519)%4294967296,sd,(sd-2654435761)%4294967296)
def sumT(v:V4):Int:=IntKind.u32.wrap (IntKind.u32.wrap (IntKind.u32.wrap (rotT v.1 1+rotT v.2.1 7)+rotT v.2.2.1 12)+rotT v.2.2.2 18)
def Qkw(sd:Int)(l:List Int):Int × List Int:=if l.length<16 then((sd+374761393)%4294967296,l)else(sumT (Qkv (l.length/16) (V0T sd) l),l.drop (16*(l.length/16)))
def Qbt.f(a0:Int)(l1:List Int):Option (Int × List Int):=if l1.length≤140737488355328 then some (Qkw a0 l1)else none
def ArAt(W:World)(g:Nat)(v:V4):Prop:=W.heap[g]? = some (.cells #[.int .u32 v.1,.int .u32 v.2.1,.int .u32 v.2.2.1,.int .u32 v.2.2.2] 313 (0,0))
theorem Qkx{W:World}{A:Option Addr}{n c:Nat}{l:List Int}(hn:n=l.length)(hC:Kd.C (Kd.int .u8) W A n l)(hc:n≤c)(h4:4≤l.length) :
  Calls Tryz.prog 235 #[.slice A n c] W fun e w'=>e=.returned (.int .u32 (numT l))∧Drawn0 W w':=by
 subst hn
 exact Qbs.calls A c l _ W hC hc (numT_is l h4)
theorem Qky(x n:Int)(h:0≤n∧n<32∧Go.bits .and .u64 (IntKind.u64.wrap n) 31=n)(W:World):Calls Tryz.prog 234 #[.int .u32 x,.int .i64 n] W fun e w'=>e=.returned (.int .u32 (rotT x n))∧Drawn0 W w':=Qac.calls x n _ W (rotT_is x n h)
theorem Qkz(a0:Int)(A1:Option Addr)(c1:Nat)(l1:List Int)(w:World)(h:l1.length<16) :
  Calls Tryz.prog 233 #[.int .u32 a0,.slice A1 l1.length c1] w fun e w'=>e=.returned (.tuple #[.int .u32 ((a0+374761393)%4294967296),.slice A1 l1.length c1])∧Below w.heap.size w w':=by
 have hi:(l1.length:Int)<16:=by omega
 go_enter Tryz.func233,Tryz.ntmps233
 go_wp2_with fail
 go_ret2
 exact⟨rfl,Below.refl _ _⟩
theorem cutT(kk:IntKind)(A:Option Addr)(c:Nat)(l:List Int)(hlc:l.length≤c)(m:Nat)(hm:m≤l.length)(j:Int)(hj:j=(m:Int)):∃A' n' c',n'=(l.drop m).length∧n'=l.length-m∧(∀W:World,(Instr.slice 52 (.slice A l.length c) (some (.int kk j)) none none).run Tryz.prog W=.ok (.slice A' n' c') W)∧n'≤c' ∧
  ∀W,Kd.C (Kd.int .u8) W A l.length l→Kd.C (Kd.int .u8) W A' n' (l.drop m):=by
 obtain⟨i0,hii,_,hsz1,_⟩:=info_parts Qhj
 have h:=Qdq (P:=Tryz.prog) 52 5 kk Tryz.underlying52 hii 1 hsz1 A l.length c j (by omega) (by omega)
 rw[show j.toNat=m by omega]at h
 refine⟨_,(l.drop m).length,c-m,rfl,List.length_drop,fun W=>by rw[List.length_drop];exact h W,by rw[List.length_drop];omega,fun W hC=>?_⟩
 have h2:=Kd.C_drop (m:=m) hC hm hlc
 exact h2
theorem ts_long(a0:Int)(A1:Option Addr)(c1:Nat)(l1:List Int)(w:World)(hr1:Kd.C (Kd.int .u8) w A1 l1.length l1)(hc1:l1.length≤c1)(h:¬l1.length<16) :
  Calls Tryz.prog 233 #[.int .u32 a0,.slice A1 l1.length c1] w fun e w'=>∃A c,e=.returned (.tuple #[.int .u32 (sumT (Qkv (l1.length/16) (V0T a0) l1)),.slice A (l1.drop (16*(l1.length/16))).length c])∧Kd.C (Kd.int .u8) w' A (l1.drop (16*(l1.length/16))).length (l1.drop (16*(l1.length/16)))∧(l1.drop (16*(l1.length/16))).length≤c∧Below w.heap.size w w':=by
 have hi:16≤(l1.length:Int):=by omega
 have HC0:=QA hr1
 have hu:=Tryz.underlying313
 have hu3:=Tryz.underlying52
 clear hr1
 go_enter Tryz.func233,Tryz.ntmps233
 go_wp2_with fail
 generalize hy1:(a0+2654435761)%4294967296=y1
 generalize hy2:(y1+2246822519)%4294967296=y2
 generalize hy3:(a0+2654435761+2246822519)%4294967296=y3
 generalize hy4:(a0+2246822519)%4294967296=y4
 generalize hy5:(a0-2654435761)%4294967296=y5
 have HV0:=QA (show ArAt (w.alloc (.cells #[.int .u32 y3,.int .u32 y4,.int .u32 a0,.int .u32 y5] 313)) w.heap.size (V0T a0)by unfold V0T;rw[hy3,hy4,hy5];exact Qdh w _)
 have HB0:=QA (Qbw (Below.refl w.heap.size w) (.cells #[.int .u32 y3,.int .u32 y4,.int .u32 a0,.int .u32 y5] 313))
 clear hy1 hy2 hy3 hy4 hy5
 obtain⟨B,hB⟩:∃B,B=w.heap.size:=⟨_,rfl⟩
 obtain⟨W,hW⟩:∃W,W=w.alloc (.cells #[.int .u32 y3,.int .u32 y4,.int .u32 a0,.int .u32 y5] 313):=⟨_,rfl⟩
 rw[← hW,← hB]at HV0
 rw[← hW]at HB0
 rw[← hW,← hB]
 have HBB:=QA hB
 clear hW hB
 go_loopw [1] (fun v1 wr=>∃(m:Nat) (l':List Int) (V':V4) (A:Option Addr) (c:Nat),v1=.slice A l'.length c∧l'.length≤c∧l'.length≤l1.length∧Aside0 (l'.length/16=m∧Qkv (l1.length/16) (V0T a0) l1=Qkv m V' l'∧l1.drop (16*(l1.length/16))=l'.drop (16*m))∧Aside0 (Kd.C (Kd.int .u8) w A l'.length l')∧Aside0 (ArAt wr B V')∧Aside0 (Below w.heap.size w wr))
  (fun v1 _=>lenV v1)
 case atStart=>exact⟨_,l1,V0T a0,A1,c1,rfl,hc1,Nat.le_refl _,⟨rfl,rfl,rfl⟩,HC0,HV0,HB0⟩
 case round =>
  obtain⟨m,l',V',A,c,rfl,hlc,hll,HM,HC,HV,HB⟩:=hrel
  clear HC0 HV0 HB0
  by_cases h16:16≤l'.length
  ·have h16i:(16:Int)≤(l'.length:Int):=by omega
   go_wp2_with fail
   go_loopw [9,30] (fun v9 v30 wi=>∃(i:Nat) (iv:Int),i≤4∧v30=.int .i64 iv∧Aside0 (iv=(i:Int))∧Aside0 (ArAt wi B (stepT i V' l'))∧Aside0 (Below w.heap.size w wi))
    (fun _ v30 _=>4-(intOf v30).toNat)
   case atStart=>exact⟨0,0,by omega,rfl,⟨rfl⟩,HV,HB⟩
   case round =>
    obtain⟨i,iv,hi4,rfl,HI,HVi,HBi⟩:=hrel
    clear HB HV
    by_cases h4:i<4
    ·have hk:i=0∨i=1∨i=2∨i=3:=by omega
     rcases hk with rfl|rfl|rfl|rfl
     ·obtain rfl:iv=0:=HI.out
      have cv:wr.cell? ⟨B,0,none⟩=some (.int .u32 V'.1):=(Qct HVi.out 0).trans rfl
      have fv:=Qcu HVi.out 0
      obtain⟨A',n',c',hn',hn2,hcut,hc',hA'⟩:=cutT .i64 A c l' hlc 0 (by omega) 0 rfl
      have h4':4≤(l'.drop 0).length:=by rw[List.length_drop];omega
      have hwa:IntKind.i64.wrap 0=0:=IntWalk.i64_in 0 (by decide)
      have hq:∀q,Kd.C (Kd.int .u8) (wr.drewN q) A' n' (l'.drop 0):=fun q=>Kd.C_below (hA' w HC.out) (Qby HBi.out q)
      have HN:=QA (And.intro hn' hc')
      clear hA' hn' hn2 hc'
      go_wp2_with fail
      go_region_with (first |(go_at_call 235;refine(Qkx HN.out.1 (hq _) HN.out.2 h4').mono ?_;rintro e w7 ⟨rfl,hd⟩;obtain⟨q,rfl⟩:=hd.out;clear hd) |(go_at_call 234;refine(Qky _ 13 ⟨by decide,by decide,by kernel_rfl⟩ _).mono ?_;rintro e w8 ⟨rfl,hd⟩;obtain⟨q2,rfl⟩:=hd.out;clear hd))
      all_goals
       go_wp2_with fail
       go_roundw
       case rel=>exact⟨1,1,by omega,by go_num,⟨rfl⟩,⟨Qcq (w:=wr.drewN _) HVi.out 0 _⟩,⟨Qhz (Qby HBi.out _) (Nat.le_of_eq HBB.out.symm)⟩⟩
       case measure=>simp[intOf]
     ·obtain rfl:iv=1:=HI.out
      have cv:wr.cell? ⟨B,1,none⟩=some (.int .u32 V'.2.1):=(Qct HVi.out 1).trans rfl
      have fv:=Qcu HVi.out 1
      obtain⟨A',n',c',hn',hn2,hcut,hc',hA'⟩:=cutT .i64 A c l' hlc 4 (by omega) 4 rfl
      have h4':4≤(l'.drop 4).length:=by rw[List.length_drop];omega
      have hwa:IntKind.i64.wrap 4=4:=IntWalk.i64_in 4 (by decide)
      have hq:∀q,Kd.C (Kd.int .u8) (wr.drewN q) A' n' (l'.drop 4):=fun q=>Kd.C_below (hA' w HC.out) (Qby HBi.out q)
      have HN:=QA (And.intro hn' hc')
      clear hA' hn' hn2 hc'
      go_wp2_with fail
      go_region_with (first |(go_at_call 235;refine(Qkx HN.out.1 (hq _) HN.out.2 h4').mono ?_;rintro e w7 ⟨rfl,hd⟩;obtain⟨q,rfl⟩:=hd.out;clear hd) |(go_at_call 234;refine(Qky _ 13 ⟨by decide,by decide,by kernel_rfl⟩ _).mono ?_;rintro e w8 ⟨rfl,hd⟩;obtain⟨q2,rfl⟩:=hd.out;clear hd))
      all_goals
       go_wp2_with fail
       go_roundw
       case rel=>exact⟨2,2,by omega,by go_num,⟨rfl⟩,⟨Qcq (w:=wr.drewN _) HVi.out 1 _⟩,⟨Qhz (Qby HBi.out _) (Nat.le_of_eq HBB.out.symm)⟩⟩
       case measure=>simp[intOf]
     ·obtain rfl:iv=2:=HI.out
      have cv:wr.cell? ⟨B,2,none⟩=some (.int .u32 V'.2.2.1):=(Qct HVi.out 2).trans rfl
      have fv:=Qcu HVi.out 2
      obtain⟨A',n',c',hn',hn2,hcut,hc',hA'⟩:=cutT .i64 A c l' hlc 8 (by omega) 8 rfl
      have h4':4≤(l'.drop 8).length:=by rw[List.length_drop];omega
      have hwa:IntKind.i64.wrap 8=8:=IntWalk.i64_in 8 (by decide)
      have hq:∀q,Kd.C (Kd.int .u8) (wr.drewN q) A' n' (l'.drop 8):=fun q=>Kd.C_below (hA' w HC.out) (Qby HBi.out q)
      have HN:=QA (And.intro hn' hc')
      clear hA' hn' hn2 hc'
      go_wp2_with fail
      go_region_with (first |(go_at_call 235;refine(Qkx HN.out.1 (hq _) HN.out.2 h4').mono ?_;rintro e w7 ⟨rfl,hd⟩;obtain⟨q,rfl⟩:=hd.out;clear hd) |(go_at_call 234;refine(Qky _ 13 ⟨by decide,by decide,by kernel_rfl⟩ _).mono ?_;rintro e w8 ⟨rfl,hd⟩;obtain⟨q2,rfl⟩:=hd.out;clear hd))
      all_goals
       go_wp2_with fail
       go_roundw
       case rel=>exact⟨3,3,by omega,by go_num,⟨rfl⟩,⟨Qcq (w:=wr.drewN _) HVi.out 2 _⟩,⟨Qhz (Qby HBi.out _) (Nat.le_of_eq HBB.out.symm)⟩⟩
       case measure=>simp[intOf]
     ·obtain rfl:iv=3:=HI.out
      have cv:wr.cell? ⟨B,3,none⟩=some (.int .u32 V'.2.2.2):=(Qct HVi.out 3).trans rfl
      have fv:=Qcu HVi.out 3
      obtain⟨A',n',c',hn',hn2,hcut,hc',hA'⟩:=cutT .i64 A c l' hlc 12 (by omega) 12 rfl
      have h4':4≤(l'.drop 12).length:=by rw[List.length_drop];omega
      have hwa:IntKind.i64.wrap 12=12:=IntWalk.i64_in 12 (by decide)
      have hq:∀q,Kd.C (Kd.int .u8) (wr.drewN q) A' n' (l'.drop 12):=fun q=>Kd.C_below (hA' w HC.out) (Qby HBi.out q)
      have HN:=QA (And.intro hn' hc')
      clear hA' hn' hn2 hc'
      go_wp2_with fail
      go_region_with (first |(go_at_call 235;refine(Qkx HN.out.1 (hq _) HN.out.2 h4').mono ?_;rintro e w7 ⟨rfl,hd⟩;obtain⟨q,rfl⟩:=hd.out;clear hd) |(go_at_call 234;refine(Qky _ 13 ⟨by decide,by decide,by kernel_rfl⟩ _).mono ?_;rintro e w8 ⟨rfl,hd⟩;obtain⟨q2,rfl⟩:=hd.out;clear hd))
      all_goals
       go_wp2_with fail
       go_roundw
       case rel=>exact⟨4,4,by omega,by go_num,⟨rfl⟩,⟨Qcq (w:=wr.drewN _) HVi.out 3 _⟩,⟨Qhz (Qby HBi.out _) (Nat.le_of_eq HBB.out.symm)⟩⟩
       case measure=>simp[intOf]
    ·obtain rfl:i=4:=by omega
     obtain rfl:iv=4:=HI.out
     obtain⟨A',n',c',hn',hn2,hcut,hc',hA'⟩:=cutT .i64 A c l' hlc 16 h16 16 rfl
     have HN:=QA (And.intro hn' (And.intro hn2 hc'))
     have HA':=QA (hA' w HC.out)
     clear hA' hn' hn2 hc'
     go_wp2_with fail
     go_roundw
     case rel =>
      have e4:stepT 4 V' l'=Qku V' l':=rfl
      have hm:=HM.out
      obtain⟨hn',hn2,hc'⟩:=HN.out
      subst hn'
      refine⟨m-1,l'.drop 16,Qku V' l',A',c',rfl,hc',by omega,⟨by omega,?_,?_⟩,HA',HVi,HBi⟩
      ·rw[hm.2.1,show m=(m-1)+1 by omega]
       rfl
      ·rw[hm.2.2,List.drop_drop]
       congr 1
       omega
     case measure=>simp[lenV];have:=HN.out.2.1;omega
  ·have h16i:(l'.length:Int)<16:=by omega
   obtain⟨v1,v2,v3,v4⟩:=V'
   go_wp2_with fail
   have c0:wr.cell? ⟨B,0,none⟩=some (.int .u32 v1):=(Qct HV.out 0).trans rfl
   have c1:wr.cell? ⟨B,1,none⟩=some (.int .u32 v2):=(Qct HV.out 1).trans rfl
   have c2:wr.cell? ⟨B,2,none⟩=some (.int .u32 v3):=(Qct HV.out 2).trans rfl
   have c3:wr.cell? ⟨B,3,none⟩=some (.int .u32 v4):=(Qct HV.out 3).trans rfl
   go_region_held3 (fun w'=>w'.cell? ⟨B,0,none⟩=some (.int .u32 v1)∧w'.cell? ⟨B,1,none⟩=some (.int .u32 v2)∧w'.cell? ⟨B,2,none⟩=some (.int .u32 v3)∧w'.cell? ⟨B,3,none⟩=some (.int .u32 v4)) (go_keep) (first
    |(go_at_call_of 234 (Value.int .i64 1);refine(Qky v1 1 ⟨by decide,by decide,by kernel_rfl⟩ _).mono ?_;rintro e w7 ⟨rfl,hd⟩;obtain⟨q1,rfl⟩:=hd.out;clear hd)
    |(go_at_call_of 234 (Value.int .i64 7);refine(Qky v2 7 ⟨by decide,by decide,by kernel_rfl⟩ _).mono ?_;rintro e w7 ⟨rfl,hd⟩;obtain⟨q2,rfl⟩:=hd.out;clear hd)
    |(go_at_call_of 234 (Value.int .i64 12);refine(Qky v3 12 ⟨by decide,by decide,by kernel_rfl⟩ _).mono ?_;rintro e w7 ⟨rfl,hd⟩;obtain⟨q3,rfl⟩:=hd.out;clear hd)
    |(go_at_call_of 234 (Value.int .i64 18);refine(Qky v4 18 ⟨by decide,by decide,by kernel_rfl⟩ _).mono ?_;rintro e w7 ⟨rfl,hd⟩;obtain⟨q4,rfl⟩:=hd.out;clear hd))
   have hm0:m=0:=by have:=HM.out.1;omega
   subst hm0
   have hm:=HM.out
   go_wp2_with fail
   refine bodyPost_ret (results_tmp2 rfl _ _ _) rfl ?_
   have e2:l1.drop (16*(l1.length/16))=l':=by rw[hm.2.2];simp
   rw[e2,hm.2.1]
   exact⟨A,c,rfl,Kd.C_below HC.out (Qby HB.out _),hlc,Qby HB.out _⟩
theorem Qbt.calls(a0:Int)(A1:Option Addr)(c1:Nat)(l1:List Int)(r1:Int)(r2:List Int)(w:World)(hr1:Kd.C (Kd.int .u8) w A1 l1.length l1)(hc1:l1.length≤c1)(h:Qbt.f a0 l1=some (r1,r2)) :
  Calls Tryz.prog 233 #[.int .u32 a0,.slice A1 l1.length c1] w fun e w'=>∃A c,e=.returned (.tuple #[.int .u32 r1,.slice A r2.length c])∧Kd.C (Kd.int .u8) w' A r2.length r2∧r2.length≤c∧Below w.heap.size w w':=by
 unfold Qbt.f Qkw at h
 split at h
 ·have h:=Option.some.inj h
  by_cases hs:l1.length<16
  ·rw[if_pos hs]at h
   cases h
   refine(Qkz a0 A1 c1 l1 w hs).mono ?_
   rintro e w' ⟨rfl,hb⟩
   exact⟨A1,c1,rfl,Kd.C_below hr1 hb,hc1,hb⟩
  ·rw[if_neg hs]at h
   cases h
   exact ts_long a0 A1 c1 l1 w hr1 hc1 hs
 ·cases h
def fourT(h:Int)(l:List Int):Int:=rotT ((h+numT l*3266489917)%4294967296) 17*668265263%4294967296
def Qla:Nat→Int→List Int→Int
 | 0,h,_=>h
 | m+1,h,l=>Qla m (fourT h l) (l.drop 4)
def oneT(h x:Int):Int:=rotT ((h+x%4294967296*374761393)%4294967296) 11*2654435761%4294967296
def mixT(h n p:Int):Int:=Go.bits .xor .u32 h (h/n)*p%4294967296
def finT(h:Int):Int:=Go.bits .xor .u32 (mixT (mixT h 32768 2246822519) 8192 3266489917) (mixT (mixT h 32768 2246822519) 8192 3266489917/65536)
def Qlb(h:Int)(l:List Int):Int:=finT ((l.drop (4*(l.length/4))).foldl oneT (Qla (l.length/4) h l))
def Qlc(sd:Int)(l:List Int):Int:=Qlb (((Qkw sd l).1+(l.length:Int)%4294967296)%4294967296) (Qkw sd l).2
def Qbr.f(a0:Int)(l1:List Int):Option Int:=if l1.length≤140737488355328 then some (Qlc a0 l1)else none
theorem Qld(a0:Int)(l1:List Int)(hl:l1.length≤140737488355328):Qbt.f a0 l1=some ((Qkw a0 l1).1,(Qkw a0 l1).2):=by unfold Qbt.f;rw[if_pos hl]
theorem Qle(a0:Int)(l1:List Int):(Qkw a0 l1).2.length≤l1.length:=by
 unfold Qkw
 split
 ·exact Nat.le_refl _
 ·rw[List.length_drop];omega
theorem thin_of(a0:Int)(A1:Option Addr)(c1:Nat)(l1:List Int)(w:World)(hr1:Kd.C (Kd.int .u8) w A1 l1.length l1)(hc1:l1.length≤c1)(hl:l1.length≤140737488355328) :
  Calls Tryz.prog 224 #[.int .u32 a0,.slice A1 l1.length c1] w fun e w'=>e=.returned (.int .u32 (Qlc a0 l1))∧Below w.heap.size w w':=by
 have HR1:=QA hr1
 have HST:=QA (Qld a0 l1 hl)
 have HSL:=QA (Qle a0 l1)
 obtain⟨h0,hh0⟩:∃h0,h0=(Qkw a0 l1).1:=⟨_,rfl⟩
 obtain⟨r0,hr0⟩:∃r0,r0=(Qkw a0 l1).2:=⟨_,rfl⟩
 rw[← hh0,← hr0]at HST
 rw[← hr0]at HSL
 have hT:Qlc a0 l1=Qlb ((h0+(l1.length:Int)%4294967296)%4294967296) r0:=by rw[hh0,hr0];rfl
 have HT:=QA hT
 clear hr1 hh0 hr0 hT
 go_enter Tryz.func224,Tryz.ntmps224
 go_wp2_with (go_at_call 233;refine(Qbt.calls a0 A1 c1 l1 h0 r0 _ HR1.out hc1 HST.out).mono ?_;rintro e w1 ⟨A,c,rfl,hC,hcc,hb1⟩;have HC:=QA hC;have HB1:=QA hb1;clear hC hb1)
 generalize hx1:(l1.length:Int)%4294967296=x1 at HT ⊢
 generalize hx2:(h0+x1)%4294967296=x2 at HT ⊢
 clear hx1 hx2
 go_loopw [5,6] (fun v5 v6 wr=>∃(m:Nat) (h:Int) (l':List Int) (A:Option Addr) (c:Nat),v5=.int .u32 h∧v6=.slice A l'.length c∧l'.length≤c∧l'.length≤l1.length∧Aside0 (l'.length/4=m∧Qlc a0 l1=Qlb h l')∧Aside0 (Kd.C (Kd.int .u8) wr A l'.length l')∧Aside0 (Below w.heap.size w wr))
  (fun _ v6 _=>lenV v6)
 case atStart=>exact⟨_,x2,r0,A,c,rfl,rfl,hcc,HSL.out,⟨rfl,HT.out⟩,HC,HB1⟩
 case round =>
  clear HC HB1 HST HT HSL hcc
  obtain⟨m,h,l',A,c,rfl,rfl,hlc,hll,HM,HC,HB⟩:=hrel
  by_cases h4:4≤l'.length
  ·have h4i:(4:Int)≤(l'.length:Int):=by omega
   obtain⟨A',n',c',hn',hn2,hcut,hc',hA'⟩:=cutT .i64 A c l' hlc 4 h4 4 rfl
   have HN:=QA (And.intro hn' (And.intro hn2 hc'))
   have HA':=QA (hA' _ HC.out)
   clear hA' hn' hn2 hc'
   go_wp2_with (first |(go_at_call 235;refine(Qkx rfl HC.out hlc h4).mono ?_;rintro e w7 ⟨rfl,hd⟩;have hd1:=hd.below;clear hd) |(go_at_call 234;refine(Qky _ 17 ⟨by decide,by decide,by kernel_rfl⟩ _).mono ?_;rintro e w9 ⟨rfl,hd⟩;have hd3:=hd.below;clear hd))
   go_roundw
   case rel =>
    obtain⟨hn',hn2,hc'⟩:=HN.out
    have hm:=HM.out
    subst hn'
    refine⟨m-1,fourT h l',l'.drop 4,A',c',rfl,rfl,hc',by omega,⟨by omega,?_⟩,⟨Kd.C_below (Kd.C_below HA'.out hd1) hd3⟩,⟨Qbz (Qbz HB.out HB.out.size hd1) (Nat.le_trans HB.out.size hd1.size) hd3⟩⟩
    rw[hm.2]
    unfold Qlb
    have e1:l'.length/4=(l'.drop 4).length/4+1:=by omega
    rw[e1,List.drop_drop]
    show finT (List.foldl oneT (Qla ((l'.drop 4).length/4) (fourT h l') (l'.drop 4)) (l'.drop (4*((l'.drop 4).length/4+1))))=_
    rw[show 4*((l'.drop 4).length/4+1)=4+4*((l'.drop 4).length/4)by omega]
   case measure=>simp[lenV];have:=HN.out.2.1;omega
  ·have h4i:(l'.length:Int)<4:=by omega
   go_wp2_with fail
   obtain⟨R,hR⟩:∃R,R=l'.foldl oneT h:=⟨_,rfl⟩
   have HRR:=QA hR
   clear hR
   go_loopw [5,8,34] (fun v5 v8 v34 wi=>∃(k:Nat) (iv x:Int),k≤l'.length∧v34=.int .i64 iv∧v5=.int .u32 x∧Aside0 (iv=(k:Int))∧Aside0 ((l'.drop k).foldl oneT x=R)∧Aside0 (Below wr.heap.size wr wi))
    (fun _ _ v34 _=>l'.length-(intOf v34).toNat)
   case atStart=>exact⟨0,0,_,Nat.zero_le _,rfl,rfl,⟨rfl⟩,⟨by rw[List.drop_zero];exact HRR.out.symm⟩,⟨Below.refl _ _⟩⟩
   case round =>
    obtain⟨k,iv,x,hk,rfl,rfl,HK,HX,HBi⟩:=hrel
    by_cases hlt:k<l'.length
    ·have hge:0≤iv:=by have:=HK.out;omega
     have hl2:iv<(l'.length:Int):=by have:=HK.out;omega
     obtain⟨ad,hA3,hx0⟩:=Kd.at_int (Kd.C_below HC.out HBi.out) iv hge hl2
     have hA4:=hA3
     obtain⟨y,hy⟩:∃y,y=rd l' iv:=⟨_,rfl⟩
     rw[← hy]at hx0
     have HY:=QA hy
     have HA:=QA hA4
     clear hy hA4
     subst hA3
     go_wp2_with (go_at_call 234;refine(Qky _ 11 ⟨by decide,by decide,by kernel_rfl⟩ _).mono ?_;rintro e w11 ⟨rfl,hd⟩;have hd4:=hd.below;clear hd)
     go_roundw
     case rel=>exact⟨k+1,iv+1,oneT x y,by omega,by go_num,by unfold oneT;with_reducible rfl,⟨by have:=HK.out;omega⟩,⟨by
      have e1:iv=(k:Int):=HK.out
      have e2:l'.drop k=rd l' (k:Int) :: l'.drop (k+1):=by
       rw[List.drop_eq_getElem_cons hlt]
       simp[rd,List.getD_eq_getElem?_getD,List.getElem?_eq_getElem hlt]
      have e3:=HX.out
      rw[e2,List.foldl_cons,← e1,← HY.out]at e3
      exact e3⟩,⟨Qbz HBi.out HBi.out.size hd4⟩⟩
     case measure=>simp[intOf];omega
    ·obtain rfl:k=l'.length:=by omega
     have e1:iv=_:=HK.out
     subst e1
     go_wp2_with fail
     go_ret
     have hx:=HX.out
     rw[List.drop_of_length_le (Nat.le_refl l'.length)]at hx
     have hx':x=R:=hx
     have hm:=HM.out
     have hm0:m=0:=by omega
     have e5:Qlc a0 l1=finT x:=by
      rw[hm.2,hx',HRR.out]
      unfold Qlb
      rw[hm.1,hm0]
      rfl
     exact⟨by rw[e5];rfl,Qbz HB.out HB.out.size HBi.out⟩
theorem Qbr.calls(a0:Int)(A1:Option Addr)(c1:Nat)(l1:List Int)(r:Int)(w:World)(hr1:Kd.C (Kd.int .u8) w A1 l1.length l1)(hc1:l1.length≤c1)(h:Qbr.f a0 l1=some r) :
  Calls Tryz.prog 224 #[.int .u32 a0,.slice A1 l1.length c1] w fun e w'=>e=.returned (.int .u32 r)∧Below w.heap.size w w':=by
 unfold Qbr.f at h
 by_cases hl:l1.length≤140737488355328
 ·rw[if_pos hl]at h
  cases h
  exact thin_of a0 A1 c1 l1 w hr1 hc1 hl
 ·rw[if_neg hl]at h;cases h
theorem Qlu(n:Int)(h0:0≤n)(h1:n≤140737488355328):Qaa.f 1 n=some (0,n):=by
 have e1:Go.bits .and .u64 1 4294967295=1:=by rw[and_low32 _ (by omega) (by omega)];rfl
 have e2:Go.bits .and .u64 n 4294967295=n%4294967296:=and_low32 _ (by omega) (by omega)
 have e3:∀x:Int,0≤x→x≤18446744073709551615→IntKind.u64.wrap x=x:=fun x a b=>IntWalk.u64_in x ⟨a,b⟩
 unfold Qaa.f Qab.f
 rw[e1,e2]
 have d1:(1:Int)/4294967296=0:=by decide
 have m0:0≤n%4294967296:=by omega
 have m1:n%4294967296<4294967296:=by omega
 have q0:0≤n/4294967296:=by omega
 have q1:n/4294967296<4294967296:=by omega
 have d2:(n%4294967296)/4294967296=0:=by omega
 have d3:(n/4294967296)/4294967296=0:=by omega
 have z3:IntKind.u64.wrap 0=0:=e3 0 (by omega) (by omega)
 have zb:Go.bits .and .u64 0 4294967295=0:=by rw[and_low32 _ (by omega) (by omega)];rfl
 simp only[d1,Int.zero_mul,Int.one_mul,z3,e3 _ m0 (by omega),d2,Int.add_zero,Int.zero_add,Int.zero_ediv,zb,e3 _ q0 (by omega),d3,e3 _ h0 (by omega),Option.bind_some]
attribute [local go_sem] Qgv Qgw Qgx Qgy
def Fill(w wr:World)(g n bp:Nat)(x:Int):Prop :=
 ∃cur:List Value,wr.heap[g]? = some (.cells cur.toArray 5 (0,0))∧n≤cur.length∧(∀j,j<bp→cur[j]? = some (.int .u8 x))∧Below w.heap.size w wr∧w.heap.size≤g
theorem Fill.splice{w w1:World}{g n bp k:Nat}{x:Int}{cur:List Value}(hc:∀j,j<bp→cur[j]? = some (.int .u8 x))(hl:n≤cur.length)(hbk:bp+k≤n)(hg:w1.heap[g]? = some (.cells (splice cur bp (List.replicate k (.int .u8 x))).toArray 5 (0,0)))(hB:Below w.heap.size w w1)(hle:w.heap.size≤g):Fill w w1 g n (bp+k) x:=by
 refine⟨_,hg,?_,?_,hB,hle⟩
 ·rw[length_splice _ _ _ qq_13];exact hl
 ·intro j hj
  unfold Go.splice
  by_cases h1:j<bp
  ·rw[List.getElem?_append_left qq_13,List.getElem?_take_of_lt h1]
   exact hc j h1
  ·rw[List.getElem?_append_right qq_13,List.length_take,Nat.min_eq_left (by omega),List.getElem?_append_left qq_13]
   simp[List.getElem?_replicate]
   omega
theorem Qlv (A0:Option Addr) (c0:Nat) (x:Int) (n:Nat) (w:World) (hn0:0<n) (hn:n≤140737488355328) (hr0:Kd.C (Kd.int .u8) w A0 1 [x]) :
    Calls Tryz.prog 120 #[.slice A0 1 c0,.int .i64 n] w fun e w'=>∃g,e=.returned (.slice (some ⟨g,0,none⟩) n n)∧Fill w w' g n n x:=by
  have hmul:=Qlu n (by omega) (by omega)
  obtain⟨ad,c,rfl,_,hK,hcell0⟩:=Kd.C_get hr0 0 0 (by omega) (by omega)
  have hK':c=[.int .u8 x]:=hK
  subst hK'
  have hcell:=hcell0 0 _ rfl
  clear hcell0 hK
  have n0:(0:Int)<(n:Int):=by omega
  have n1:(n:Int)≤140737488355328:=by omega
  go_enter Tryz.func120,Tryz.ntmps120
  have hsz1:(Tryz.prog.info? 5).map (·.size)=some 1:=by kernel_rfl
  obtain⟨g,hg⟩:∃g,g=w.heap.size:=⟨_,rfl⟩
  go_wp2_with (go_at_call 168;refine(Qaa.calls 1 n 0 n w hmul).mono ?_;rintro e w' ⟨rfl,hd⟩;obtain⟨q,rfl⟩:=hd.out;clear hd;fail)
  go_at_call 168
  refine(Qaa.calls 1 n 0 n w hmul).mono ?_
  rintro e w' ⟨rfl,hd⟩
  obtain⟨q,rfl⟩:=hd.out
  clear hd
  obtain⟨cs,hrunM,hle,hmx⟩:=Lib.run_makeNoZero (P:=Tryz.prog) (w.drewN q) #[3] 52 5 Tryz.underlying52 n (by omega)
  have hcall:(callFunc 169 #[.int .i64 (n:Int)]).run Tryz.prog (w.drewN q)=.ok (.value (.slice (some ⟨w.heap.size,0,none⟩) n cs.size)) ((w.alloc (.cells cs 5)).drewN (q+2)):=by
    rw[run_callFunc_extern Tryz.func169 qq_5 qq_5 qq_5 (e:=Extern.BytealgMakeNoZero.makeNoZero #[3] #[52]) qq_5,hrunM]
    rfl
  clear hrunM hmx
  have i1:(n:Int)≤(cs.size:Int):=by omega
  have hcell':((w.alloc (.cells cs 5)).drewN (q+2)).cell? (ad.add 0)=some (.int .u8 x):=by
    rw[World.cell?_drewN]
    exact(((Below.refl _ w).alloc (Nat.le_refl _) _).cell (World.block_lt_of_cell? w _ hcell)).trans hcell
  obtain⟨W0,hW0⟩:∃W0,((w.alloc (.cells cs 5)).drewN (q+2))=W0:=⟨_,rfl⟩
  have hh0:W0.heap[g]? = some (.cells cs.toList.toArray 5 (0,0)):=by rw[← hW0,hg];simpa using heap_alloc_new w (.cells cs 5)
  have hb0:Below w.heap.size w W0:=by rw[← hW0];exact Qby ((Below.refl _ w).alloc (Nat.le_refl _) _) _
  rw[hW0]at hcall hcell'
  clear hW0
  have HG:=QA hg
  rw[← hg]at hcall
  clear hg
  by_cases hbig:8192<(n:Int)
  all_goals
    go_wp2_with (refine wpList_copy_splice rfl (.tmp 58) (.tmp 59) 52 52 ?ho 5 Tryz.underlying52 hsz1 (some ⟨g,0,none⟩) (some ad) n n 1 c0 ?hd ?hs g 0 cs.toList 5 hh0 [.int .u8 x] ?hn ?hpos ?hfit ?h1 w.heap.size w hb0 ?hBg ?_;(case ho=>rfl);(case hd=>rfl);(case hs=>rfl);(case hn=>simp[Nat.min_def];omega);(case hpos=>intro _;refine⟨rfl,ad,rfl,fun j v hj=>?_⟩;cases j with|zero=>(simp at hj;subst hj;exact hcell')|succ j=>(simp at hj));(case hfit=>simp;omega);(case h1=>intro v hv;simp at hv;subst hv;rfl);(case hBg=>rw[HG.out];exact Nat.le_refl _);intro w1 HG1 hb1)
    have HF1:Fill w w1 g n (0+1) x:=Fill.splice (cur:=cs.toList) (bp:=0) (k:=1) (by intro j hj;omega) (by simpa using hle) (by omega) HG1.out hb1 (by rw[HG.out];exact Nat.le_refl _)
    clear HG1 hb1
    go_loopw [10] (fun v10 wr=>∃(bp:Nat),1≤bp∧bp≤n∧v10=.int .i64 (bp:Int)∧Aside0 (Fill w wr g n bp x)) (fun v10 _=>n-(intOf v10).toNat)
    case atStart=>exact⟨1,Nat.le_refl _,by omega,rfl,⟨HF1⟩⟩
    case round =>
      clear HF1
      obtain⟨bp,hb1,hb2,rfl,HF⟩:=hrel
      by_cases hlt:bp<n
      · by_cases c8:8192<(bp:Int)
        all_goals first |(exfalso;omega)|skip
        all_goals
         obtain⟨ch,hch1,hch2,hcb⟩:∃ch:Nat,1≤ch∧ch≤bp∧((8192<(n:Int)→8192<(bp:Int)→ch=8192)∧(¬8192<(bp:Int)→ch=bp)∧(¬8192<(n:Int)→ch=bp)):=by
          by_cases c:8192<(n:Int)∧8192<(bp:Int)
          · exact⟨8192,by omega,by omega,fun _ _=>rfl,by omega,by omega⟩
          · exact⟨bp,by omega,by omega,by omega,by omega,by omega⟩
         have e3:(if 8192<(bp:Int)then(8192:Int)else(bp:Int))≤(n:Int):=by split<;>omega
         first|rw[if_pos c8]at e3|rw[if_neg c8]at e3
         have HCB:=QA hcb
         clear hcb
         obtain⟨cur,hcur,hcl,hcx,hB,hle2⟩:=HF.out
         obtain⟨kk,hkk⟩:∃kk,kk=Nat.min ch (n-bp):=⟨_,rfl⟩
         have hk1:1≤kk∧kk≤ch∧kk≤n-bp:=by
           have h1:kk≤ch:=by rw[hkk];exact Nat.min_le_left _ _
           have h2:kk≤n-bp:=by rw[hkk];exact Nat.min_le_right _ _
           have h3:1≤kk:=by rw[hkk];exact Nat.le_min.2 ⟨hch1,by omega⟩
           exact⟨h3,h1,h2⟩
         have HKK:=QA hkk
         clear hkk
         have hcells:∀j,j<ch→wr.cell? ⟨g,j,none⟩=some (.int .u8 x):=by
           intro j hj
           have:=hcx j (by omega)
           simp[World.cell?,hcur,this]
         have HCELLS:=QA hcells
         have HCUR:=QA hcur
         have HCX:=QA hcx
         have HCL:=QA hcl
         have HB:=QA hB
         have HLE:=QA hle2
         clear hcells hcur hcx hcl hB hle2 HF
         have e1:(bp:Int)<(n:Int):=by omega
         have e2:(ch:Int)≤(n:Int):=by omega
         have hn1:=QA (show(List.replicate kk (Value.int .u8 x)).length=Nat.min ch (n-bp)by rw[List.length_replicate];exact HKK.out)
         have hn2:=QA (show ∀j v,(List.replicate kk (Value.int .u8 x))[j]? = some v→wr.cell? ((⟨g,0,none⟩:Addr).add j)=some v by
           intro j v hj
           rw[List.getElem?_replicate]at hj
           split at hj
           · injection hj with hj
             subst hj
             rw[Qcb]
             exact HCELLS.out j (by omega)
           · cases hj)
         have hn3:=QA (show bp+(List.replicate kk (Value.int .u8 x)).length≤cur.length by rw[List.length_replicate];have:=HCL.out;omega)
         have hn4:=QA (show ∀v∈List.replicate kk (Value.int .u8 x),v.oneCell'=true by intro v hv;rw[(List.mem_replicate.1 hv).2];rfl)
         go_wp2_with fail
         go_region_law (refine step_copy_splice rfl (.tmp 70) (.tmp 73) 52 52 rfl 5 Tryz.underlying52 hsz1 (some ⟨g,bp,none⟩) (some ⟨g,0,none⟩) (n-bp) (n-bp) ch n (by(try simp[Act.eval,Act.put])<;>omega) (by(try simp[Act.eval,Act.put])<;>(have:=HCB.out;omega)) g bp cur 5 HCUR.out (List.replicate kk (.int .u8 x)) hn1.out (fun _=>⟨rfl,_,rfl,hn2.out⟩) hn3.out hn4.out w.heap.size w (by first|exact HB.out|exact Qbx HB.out) HLE.out ?_;intro w4 HG4 hb4)
         have HF4:Fill w w4 g n (bp+kk) x:=Fill.splice HCX.out HCL.out (by omega) HG4.out hb4 HLE.out
         clear HG4 hb4
         go_wp2
         go_roundw
         case rel=>exact⟨bp+kk,by omega,by omega,by rw[IntWalk.i64_in _ (by omega)];go_num,⟨HF4⟩⟩
         case measure=>simp[intOf,IntWalk.i64_in ((bp:Int)+(kk:Int)) (by omega)];omega
      · obtain rfl:bp=n:=by omega
        go_wp2
        go_ret
        exact⟨g,rfl,HF.out⟩
theorem Qlw{w w':World}{g n:Nat}{x:Int}(h:Fill w w' g n n x)(hn:n≤9223372036854775807):Kd.C (Kd.int .u8) w' (some ⟨g,0,none⟩) n (List.replicate n x):=by
 obtain⟨cur,h1,h2,h3,h4,h5⟩:=h
 refine Kd.C_of_reads (d:=(0:Int)) ⟨List.length_replicate,hn,fun _=>⟨_,rfl,fun j hj=>?_⟩⟩
 rw[Qcb,Qct h1]
 simp[h3 j hj,List.getD_eq_getElem?_getD,List.getElem?_replicate,hj]
theorem Qlx(A0:Option Addr)(c0:Nat)(x:Int)(n:Nat)(w:World)(hn:n≤140737488355328)(hr0:Kd.C (Kd.int .u8) w A0 1 [x]) :
  Calls Tryz.prog 120 #[.slice A0 1 c0,.int .i64 n] w fun e w'=>∃A c,e=.returned (.slice A n c)∧n≤c∧Kd.C (Kd.int .u8) w' A n (List.replicate n x)∧Below w.heap.size w w':=by
 rcases Nat.eq_zero_or_pos n with rfl|hp
 ·go_enter Tryz.func120,Tryz.ntmps120
  go_wp2
  go_ret
  exact⟨_,_,rfl,Nat.le_refl _,⟨rfl,by omega,fun h=>absurd h (by omega)⟩,Qbw (Below.refl _ _) _⟩
 ·refine(Qlv A0 c0 x n w hp hn hr0).mono ?_
  rintro e w' ⟨g,rfl,hF⟩
  refine⟨_,_,rfl,Nat.le_refl _,Qlw hF (by omega),?_⟩
  obtain⟨cur,h1,h2,h3,h4,h5⟩:=hF
  exact h4
end Go.Proofs.YtnnofopfbeklbaaGreat.C
end
