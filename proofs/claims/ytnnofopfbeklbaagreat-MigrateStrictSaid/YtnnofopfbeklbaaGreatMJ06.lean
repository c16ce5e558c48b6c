/- Merged texts. -/
import Derived.Test.YtnnofopfbeklbaaGreatMJ01
import Derived.WalkLawsBesides
import Derived.Recover
import Derived.Defers
import Derived.Test.YtnnofopfbeklbaaGreatMJ05
import Derived.StillTailTactics
import Derived.Test.YtnnofopfbeklbaaGreatMJ02
import Derived.Lib.MakeNoZero
import Derived.Laws.CopyOwn
import Derived.Laws.MathBits
import Derived.Deep.RegionLaw
import Derived.Test.YtnnofopfbeklbaaGreatMJ03
import Derived.Lib.IndexLaws
import Derived.OpenShut
set_option linter.unusedVariables false
set_option linter.unusedSimpArgs false
set_option maxHeartbeats 8000000
set_option maxRecDepth 100000
section
namespace Go.Proofs.YtnnofopfbeklbaaGreat.C
open Go.RowKit Go.Proofs.YtnnofopfbeklbaaGreatW.PrintWords Go.Proofs.YtnnofopfbeklbaaGreatW.PrintLast Go.Proofs.YtnnofopfbeklbaaGreatW.PrintMore
def Tl(lo g:Nat)(w w':World):Prop:=∀k cs t,lo≤k→w.heap[k]? = some (.cells cs t (0,0))→t≠5→k≠g→w'.heap[k]? = some (.cells cs t (0,0))
def Ty(W W':World):Prop:=∀(k:Nat) (cs:Array Value) (t:TypeId),W.heap[k]? = some (.cells cs t (0,0))→t≠3→t≠30→t≠264→W'.heap[k]? = some (.cells cs t (0,0))
theorem Ty.set{W W1:World}(h:Ty W W1){p:Addr}{cs:Array Value}{t:TypeId}(hp:W1.heap[p.block]? = some (.cells cs t (0,0)))(ht:t=3∨t=30∨t=264)(u:Value):Ty W (W1.setCell p u):=fun k cs' t' h1 h2 h3 h4 =>
 Qem (h k cs' t' h1 h2 h3 h4) (p:=p) (Qer (h k cs' t' h1 h2 h3 h4) hp (by rcases ht with rfl|rfl|rfl;exact h2;exact h3;exact h4)) u
theorem Ty.refl(W:World):Ty W W:=fun _ _ _ h _ _ _=>h
theorem Ty.alloc{W W1:World}(h:Ty W W1)(o:Obj):Ty W (W1.alloc o):=fun k cs t h1 h2 h3 h4=>Qfa (h k cs t h1 h2 h3 h4) o
theorem Qpw(tmps:Array Value)(W:World)(ba be:Nat)(i er:Int)(h4:tmps[4]? = some (.pointer (some ⟨ba,0,none⟩)))(h5:tmps[5]? = some (.pointer (some ⟨be,0,none⟩)))
  (c4:W.heap[ba]? = some (.cells #[.int .i64 i] 3 (0,0))) (c5:W.heap[be]? = some (.cells #[.int .i64 er] 30 (0,0))) :
  (results Tryz.f137 tmps).run Tryz.prog W=.ok (.tuple #[.int .i64 i,.int .i64 er]) W:=by
 have hr:Tryz.f137.results=#[.cell 4 3,.cell 5 30]:=rfl;have d4:W.cell? ⟨ba,0,none⟩=some (.int .i64 i):=(Qeo c4 0).trans rfl;have d5:W.cell? ⟨be,0,none⟩=some (.int .i64 er):=(Qeo c5 0).trans rfl;have hu1:=Tryz.underlying3;have hu2:=Tryz.underlying30;simp[results,hr,h4,h5,go_sem,loadVar,d4,d5,c4,c5]
theorem Qpx(F:Nat)(cap:Array Value)(A0:Option Addr)(c0:Nat)(l0:List Int)(w:World)(hr0:Kd.C (Kd.int .u8) w A0 l0.length l0)(hl:l0.length≤140737488355328)
  (hcf:∀(as_:Array Value) (W:World),(callFunc F as_).run Tryz.prog W=.ok (.enter F as_) W)
  (Post:Int→Int→World→Prop) (hst:∀er i W W',Post er i W→Below w.heap.size W W'→Ty W W'→Post er i W')
  (hrd:∀(W:World) (g:Nat),w.heap.size≤g→Below w.heap.size w W→IsCur W w.heap.size g l0 0→Calls Tryz.prog F (#[.pointer (some ⟨g,0,none⟩)]++cap) W fun e W'=>∃i,IsCur W' w.heap.size g l0 i∧Tl w.heap.size g W W' ∧
   ((e=.returned (.tuple #[])∧Post 0 i W')∨∃er,e=.panicked [Qpj g er]∧Post er i W')) :
  Calls Tryz.prog 137 #[.slice A0 l0.length c0,.func (.func F) #[] cap] w fun e w'=>∃er i,e=.returned (.tuple #[.int .i64 i,.int .i64 er])∧Post er i w':=by
 have hu:=Tryz.underlying264;have a:=QA hr0;have HRD:=QA @hrd;have HST:=QA @hst;have hmf:∀(fn:Fn) (first cap:Array Value) (w:World),(Instr.makeFunc fn first cap).run Tryz.prog w=.ok (.func fn first cap) w:=fun _ _ _ _=>rfl
 have hnil:∀W:World,(binOp .eql 209 (.func (.func F) #[] cap) .nilFunc).run Tryz.prog W=.ok (.bool false) W:=fun W=>by kernel_rfl
 clear hr0 hrd hst
 go_enter_defers Tryz.func137,Tryz.ntmps137
 go_upto_region 5 with(go_at_call 70;refine(Qle A0 c0 l0 _ (Kd.C_below a.out (Qdq (Qdq (Below.refl _ _) _) _)) hl).mono ?_;rintro ee w3 ⟨vb,rfl,hR,hb⟩;obtain⟨A,c,hv⟩:=Kd.R_slice hR;subst hv)
 have b0:Below w.heap.size w ((w.alloc (.cells #[.int .i64 0] 3)).alloc (.cells #[.int .i64 0] 30)):=Qdq (Qdq (Below.refl _ _) _) _;have e0:((w.alloc (.cells #[.int .i64 0] 3)).alloc (.cells #[.int .i64 0] 30)).heap.size=w.heap.size+2:=by simp[World.size_alloc]
 have ka:=Qfd (Qfa (Qfe w (.cells #[.int .i64 0] 3)) (.cells #[.int .i64 0] 30)) hb;have ke:=Qfd (Qfe (w.alloc (.cells #[.int .i64 0] 3)) (.cells #[.int .i64 0] 30)) hb;rw[World.size_alloc]at ke;have b3:Below w.heap.size w w3:=b0.trans (Qld hb b0.size);have hs3:w.heap.size+2≤w3.heap.size:=by have:=hb.size;omega
 have kc:=Qfa (Qfe w3 (.cells #[.slice A l0.length c,.int .i64 0,.bool true] 264)) (.cells #[.pointer (some ⟨w3.heap.size,0,none⟩)] 204);have kp:=Qfe (w3.alloc (.cells #[.slice A l0.length c,.int .i64 0,.bool true] 264)) (.cells #[.pointer (some ⟨w3.heap.size,0,none⟩)] 204);rw[World.size_alloc]at kp;have ka5:=Qfa (Qfa ka (.cells #[.slice A l0.length c,.int .i64 0,.bool true] 264)) (.cells #[.pointer (some ⟨w3.heap.size,0,none⟩)] 204);have ke5:=Qfa (Qfa ke (.cells #[.slice A l0.length c,.int .i64 0,.bool true] 264)) (.cells #[.pointer (some ⟨w3.heap.size,0,none⟩)] 204);have b5:Below w.heap.size w ((w3.alloc (.cells #[.slice A l0.length c,.int .i64 0,.bool true] 264)).alloc (.cells #[.pointer (some ⟨w3.heap.size,0,none⟩)] 204)):=b3.trans (Qld (Qdq (Qdq (Below.refl _ _) _) _) b3.size);have hI5:IsCur ((w3.alloc (.cells #[.slice A l0.length c,.int .i64 0,.bool true] 264)).alloc (.cells #[.pointer (some ⟨w3.heap.size,0,none⟩)] 204)) w.heap.size w3.heap.size l0 0:=⟨_,kc,R8.low (R8.kept (R8.kept hR (Qdq (Below.refl _ _) _)) (Qdq (Below.refl _ _) _)) (by rw[e0];omega)⟩;generalize hW5:((w3.alloc (.cells #[.slice A l0.length c,.int .i64 0,.bool true] 264)).alloc (.cells #[.pointer (some ⟨w3.heap.size,0,none⟩)] 204))=W5 at *;have HI5:=QA hI5;have b:=QA b5;have p0:W5.cell? ⟨w3.heap.size+1,0,none⟩=some (.pointer (some ⟨w3.heap.size,0,none⟩)):=(Qeo kp 0).trans rfl;clear hI5 b5 hW5 ka ke b0 e0 hb hR;have ha2:w.heap.size≠w3.heap.size:=by omega
 have he2:w.heap.size+1≠w3.heap.size:=by omega
 have hea:w.heap.size+1≠w.heap.size:=by omega
 have hcg:w3.heap.size+1≠w3.heap.size:=by omega
 go_wp2_with (refine(HRD.out W5 w3.heap.size (by omega) b.out HI5.out).mono ?_;rintro ee w6 ⟨i,hI6,hT6,⟨rfl,hp6⟩ |⟨er,rfl,hp6⟩⟩<;>(obtain⟨v6,kg6,hR6⟩:=hI6;have ka6:=hT6 _ _ _ (by omega) ka5 (by decide) ha2;have ke6:=hT6 _ _ _ (by omega) ke5 (by decide) he2;have kp6:=hT6 _ _ _ (by omega) kp (by decide) hcg;have q0:w6.cell? ⟨w3.heap.size+1,0,none⟩=some (.pointer (some ⟨w3.heap.size,0,none⟩)):=(Qeo kp6 0).trans rfl;have q1:w6.cell? ⟨w3.heap.size,1,none⟩=some (.int .i64 i):=(Qeo kg6 1).trans rfl;have q2:w6.frozen? ⟨w.heap.size,0,none⟩=false:=Qep ka6 0;have q3:w6.cell? ⟨w.heap.size,0,none⟩=some (.int .i64 0):=(Qeo ka6 0).trans rfl;have ke7:=Qem ke6 (p:=⟨w.heap.size,0,none⟩) hea (.int .i64 i);have q4:(w6.setCell ⟨w.heap.size,0,none⟩ (.int .i64 i)).frozen? ⟨w.heap.size+1,0,none⟩=false:=Qep ke7 0;have q5:(w6.setCell ⟨w.heap.size,0,none⟩ (.int .i64 i)).cell? ⟨w.heap.size+1,0,none⟩=some (.int .i64 0):=(Qeo ke7 0).trans rfl))
 ·have bc8:=Qem (Qem kp6 (p:=⟨w.heap.size,0,none⟩) (show w3.heap.size+1≠w.heap.size by omega) (.int .i64 i)) (p:=⟨w.heap.size+1,0,none⟩) (show w3.heap.size+1≠w.heap.size+1 by omega) (.int .i64 0);have g8:=Qem (Qem kg6 (p:=⟨w.heap.size,0,none⟩) (show w3.heap.size≠w.heap.size by omega) (.int .i64 i)) (p:=⟨w.heap.size+1,0,none⟩) (show w3.heap.size≠w.heap.size+1 by omega) (.int .i64 0);have ba8:=Qem (Qel ka6 0 (.int .i64 i)) (p:=⟨w.heap.size+1,0,none⟩) (show w.heap.size≠w.heap.size+1 by omega) (.int .i64 0);have be8:=Qel ke7 0 (.int .i64 0);have ba9:=Qel (Qem ba8 (p:=⟨w3.heap.size,2,none⟩) ha2 (.bool false)) 0 (.int .i64 i);have be9:=Qem (Qem be8 (p:=⟨w3.heap.size,2,none⟩) he2 (.bool false)) (p:=⟨w.heap.size,0,none⟩) hea (.int .i64 i);have bl:Below w.heap.size w6 (((((w6.setCell ⟨w.heap.size,0,none⟩ (.int .i64 i)).setCell ⟨w.heap.size+1,0,none⟩ (.int .i64 0)).setCell ⟨w3.heap.size,2,none⟩ (.bool false)).setCell ⟨w.heap.size,0,none⟩ (.int .i64 i))) :=
   Qlc (Qlc (Qlc (Qlc (Below.refl _ _) (Nat.le_refl _)) (Nat.le_succ _)) (by omega)) (Nat.le_refl _)
  have bt:Ty w6 (((((w6.setCell ⟨w.heap.size,0,none⟩ (.int .i64 i)).setCell ⟨w.heap.size+1,0,none⟩ (.int .i64 0)).setCell ⟨w3.heap.size,2,none⟩ (.bool false)).setCell ⟨w.heap.size,0,none⟩ (.int .i64 i))) :=
   ((((Ty.refl w6).set ka6 (.inl rfl) _).set ke7 (.inr (.inl rfl)) _).set g8 (.inr (.inr rfl)) _).set (Qem ba8 (p:=⟨w3.heap.size,2,none⟩) ha2 (.bool false)) (.inl rfl) _
  refine leaves_cons (f:=190) (args:=#[.pointer (some ⟨w3.heap.size+1,0,none⟩),.pointer (some ⟨w.heap.size,0,none⟩),.pointer (some ⟨w.heap.size+1,0,none⟩)]) (by simp) (by simp[go_sem]) ?_;refine(Qpu w3.heap.size w.heap.size (w.heap.size+1) (w3.heap.size+1) i i v6 _ bc8 g8 ba8).mono ?_;rintro e u' w'' ⟨rfl,rfl,rfl⟩;show Leaves _ _ _ _ [] .returning _;exact⟨_,Qpw _ _ _ _ i 0 rfl rfl ba9 be9,0,i,rfl,HST.out _ _ _ _ hp6 bl bt⟩
 ·have ba9:=Qem (Qfa (Qel (Qem ka6 (p:=⟨w3.heap.size,2,none⟩) ha2 (.bool false)) 0 (.int .i64 i)) (.cells #[.pointer (some ⟨w3.heap.size,0,none⟩),.int .i64 er] 266)) (p:=⟨w.heap.size+1,0,none⟩) (show w.heap.size≠w.heap.size+1 by omega) (.int .i64 er);have be9:=Qel (Qfa (Qem (Qem ke6 (p:=⟨w3.heap.size,2,none⟩) he2 (.bool false)) (p:=⟨w.heap.size,0,none⟩) hea (.int .i64 i)) (.cells #[.pointer (some ⟨w3.heap.size,0,none⟩),.int .i64 er] 266)) 0 (.int .i64 er);have s6:w.heap.size≤w6.heap.size:=Nat.le_of_lt (Qen ka6);have b1:Below w.heap.size w6 ((w6.setCell ⟨w3.heap.size,2,none⟩ (.bool false)).setCell ⟨w.heap.size,0,none⟩ (.int .i64 i)):=Qlc (Qlc (Below.refl _ _) (by omega)) (Nat.le_refl _);have bl:Below w.heap.size w6 ((((w6.setCell ⟨w3.heap.size,2,none⟩ (.bool false)).setCell ⟨w.heap.size,0,none⟩ (.int .i64 i)).alloc (.cells #[.pointer (some ⟨w3.heap.size,0,none⟩),.int .i64 er] 266)).setCell ⟨w.heap.size+1,0,none⟩ (.int .i64 er)) :=
   Qlc (b1.trans (Qld (Qdq (Below.refl _ _) _) (Nat.le_trans s6 b1.size))) (Nat.le_succ _)
  have bt:Ty w6 ((((w6.setCell ⟨w3.heap.size,2,none⟩ (.bool false)).setCell ⟨w.heap.size,0,none⟩ (.int .i64 i)).alloc (.cells #[.pointer (some ⟨w3.heap.size,0,none⟩),.int .i64 er] 266)).setCell ⟨w.heap.size+1,0,none⟩ (.int .i64 er)) :=
   ((((Ty.refl w6).set kg6 (.inr (.inr rfl)) _).set (Qem ka6 (p:=⟨w3.heap.size,2,none⟩) ha2 (.bool false)) (.inl rfl) _).alloc _).set (Qfa (Qem (Qem ke6 (p:=⟨w3.heap.size,2,none⟩) he2 (.bool false)) (p:=⟨w.heap.size,0,none⟩) hea (.int .i64 i)) _) (.inr (.inl rfl)) _
  refine leaves_cons (f:=190) (args:=#[.pointer (some ⟨w3.heap.size+1,0,none⟩),.pointer (some ⟨w.heap.size,0,none⟩),.pointer (some ⟨w.heap.size+1,0,none⟩)]) (by simp) (by simp[go_sem]) ?_;refine(Qpv w3.heap.size w.heap.size (w.heap.size+1) (w3.heap.size+1) i 0 0 er v6 _ kp6 kg6 ka6 ke6).mono ?_;rintro e u' w'' ⟨rfl,rfl,rfl⟩;show Leaves _ _ _ _ [] .returning _;exact⟨_,Qpw _ _ _ _ i er rfl rfl ba9 be9,er,i,rfl,HST.out _ _ _ _ hp6 bl bt⟩
def rotT(x n:Int):Int:=(Qac.f x n).getD 0
theorem Qpy(x n:Int)(h:0≤n∧n<32∧Go.bits .and .u64 (IntKind.u64.wrap n) 31=n):Qac.f x n=some (rotT x n):=by
 unfold rotT Qac.f;rw[h.2.2,if_pos h.1,if_pos (by rw[IntWalk.u64_in _ (by omega)];omega)];rfl
def numT(l:List Int):Int:=(Qdl.f l).getD 0
theorem Qpz(l:List Int)(h:4≤l.length):Qdl.f l=some (numT l):=by
 unfold numT Qdl.f;rw[if_pos (show(0:Int)<l.length by omega),if_pos (show(1:Int)<l.length by omega),if_pos (show(2:Int)<l.length by omega),if_pos (show(3:Int)<l.length by omega)];rfl
def Qqa(v y:Int):Int:=IntKind.u32.wrap (rotT (IntKind.u32.wrap (v+IntKind.u32.wrap (y*2246822519))) 13*2654435761)
def Qqb(v:V4)(l:List Int):V4:=(Qqa v.1 (numT l),Qqa v.2.1 (numT (l.drop 4)),Qqa v.2.2.1 (numT (l.drop 8)),Qqa v.2.2.2 (numT (l.drop 12)))
def Qqc:Nat→V4→List Int→V4
 | 0,v,_=>v
 | m+1,v,l=>Qqc m (Qqb v l) (l.drop 16)
def stepT(i:Nat)(v:V4)(l:List Int):V4:=(if 0<i then Qqa v.1 (numT l)else v.1,if 1<i then Qqa v.2.1 (numT (l.drop 4))else v.2.1,if 2<i then Qqa v.2.2.1 (numT (l.drop 8))else v.2.2.1,if 3<i then Qqa v.2.2.2 (numT (l.drop 12))else v.2.2.2)
def V0T(sd:Int):V4:=((sd+2654435761+2246822519)%4294967296,(sd+2246822519)%4294967296,sd,(sd-2654435761)%4294967296)
def sumT(v:V4):Int:=IntKind.u32.wrap (IntKind.u32.wrap (IntKind.u32.wrap (rotT v.1 1+rotT v.2.1 7)+rotT v.2.2.1 12)+rotT v.2.2.2 18)
def Qqd(sd:Int)(l:List Int):Int × List Int:=if l.length<16 then((sd+374761393)%4294967296,l)else(sumT (Qqc (l.length/16) (V0T sd) l),l.drop (16*(l.length/16)))
def Qdm.f(a0:Int)(l1:List Int):Option (Int × List Int):=if l1.length≤140737488355328 then some (Qqd a0 l1)else none
def ArAt(W:World)(g:Nat)(v:V4):Prop:=W.heap[g]? = some (.cells #[.int .u32 v.1,.int .u32 v.2.1,.int .u32 v.2.2.1,.int .u32 v.2.2.2] 313 (0,0))
theorem Qqe{W:World}{A:Option Addr}{n c:Nat}{l:List Int}(hn:n=l.length)(hC:Kd.C (Kd.int .u8) W A n l)(hc:n≤c)(h4:4≤l.length) :
  Calls Tryz.prog 235 #[.slice A n c] W fun e w'=>e=.returned (.int .u32 (numT l))∧Drawn0 W w':=by
 subst hn;exact Qdl.calls A c l _ W hC hc (Qpz l h4)
theorem Qqf(x n:Int)(h:0≤n∧n<32∧Go.bits .and .u64 (IntKind.u64.wrap n) 31=n)(W:World):Calls Tryz.prog 234 #[.int .u32 x,.int .i64 n] W fun e w'=>e=.returned (.int .u32 (rotT x n))∧Drawn0 W w':=Qac.calls x n _ W (Qpy x n h)
theorem Qqg(a0:Int)(A1:Option Addr)(c1:Nat)(l1:List Int)(w:World)(h:l1.length<16) :
  Calls Tryz.prog 233 #[.int .u32 a0,.slice A1 l1.length c1] w fun e w'=>e=.returned (.tuple #[.int .u32 ((a0+374761393)%4294967296),.slice A1 l1.length c1])∧Below w.heap.size w w':=by
 have hi:(l1.length:Int)<16:=by omega
 go_enter Tryz.func233,Tryz.ntmps233
 go_wp2_with fail
 go_ret2
 exact⟨rfl,Below.refl _ _⟩
theorem cutT(kk:IntKind)(A:Option Addr)(c:Nat)(l:List Int)(hlc:l.length≤c)(m:Nat)(hm:m≤l.length)(j:Int)(hj:j=(m:Int)):∃A' n' c',n'=(l.drop m).length∧n'=l.length-m∧(∀W:World,(Instr.slice 52 (.slice A l.length c) (some (.int kk j)) none none).run Tryz.prog W=.ok (.slice A' n' c') W)∧n'≤c' ∧
  ∀W,Kd.C (Kd.int .u8) W A l.length l→Kd.C (Kd.int .u8) W A' n' (l.drop m):=by
 obtain⟨i0,hii,_,hsz1,_⟩:=info_parts Qkb;have h:=Qfr (P:=Tryz.prog) 52 5 kk Tryz.underlying52 hii 1 hsz1 A l.length c j (by omega) (by omega);rw[show j.toNat=m by omega]at h;refine⟨_,(l.drop m).length,c-m,rfl,List.length_drop,fun W=>by rw[List.length_drop];exact h W,by rw[List.length_drop];omega,fun W hC=>?_⟩;have h2:=Kd.C_drop (m:=m) hC hm hlc;exact h2
theorem ts_long(a0:Int)(A1:Option Addr)(c1:Nat)(l1:List Int)(w:World)(hr1:Kd.C (Kd.int .u8) w A1 l1.length l1)(hc1:l1.length≤c1)(h:¬l1.length<16) :
  Calls Tryz.prog 233 #[.int .u32 a0,.slice A1 l1.length c1] w fun e w'=>∃A c,e=.returned (.tuple #[.int .u32 (sumT (Qqc (l1.length/16) (V0T a0) l1)),.slice A (l1.drop (16*(l1.length/16))).length c])∧Kd.C (Kd.int .u8) w' A (l1.drop (16*(l1.length/16))).length (l1.drop (16*(l1.length/16)))∧(l1.drop (16*(l1.length/16))).length≤c∧Below w.heap.size w w':=by
 have hi:16≤(l1.length:Int):=by omega
 have j:=QA hr1;have hu:=Tryz.underlying313;have hu3:=Tryz.underlying52;clear hr1
 go_enter Tryz.func233,Tryz.ntmps233
 go_wp2_with fail
 generalize p:(a0+2654435761)%4294967296=y1;generalize r:(y1+2246822519)%4294967296=y2;generalize k:(a0+2654435761+2246822519)%4294967296=y3;generalize l:(a0+2246822519)%4294967296=y4;generalize n:(a0-2654435761)%4294967296=y5;have HV0:=QA (show ArAt (w.alloc (.cells #[.int .u32 y3,.int .u32 y4,.int .u32 a0,.int .u32 y5] 313)) w.heap.size (V0T a0)by unfold V0T;rw[k,l,n];exact Qfe w _);have d:=QA (Qdq (Below.refl w.heap.size w) (.cells #[.int .u32 y3,.int .u32 y4,.int .u32 a0,.int .u32 y5] 313));clear p r k l n;obtain⟨B,hB⟩:∃B,B=w.heap.size:=⟨_,rfl⟩;obtain⟨W,hW⟩:∃W,W=w.alloc (.cells #[.int .u32 y3,.int .u32 y4,.int .u32 a0,.int .u32 y5] 313):=⟨_,rfl⟩;rw[← hW,← hB]at HV0;rw[← hW]at d;rw[← hW,← hB];have HBB:=QA hB;clear hW hB
 go_loopw [1] (fun v1 wr=>∃(m:Nat) (l':List Int) (V':V4) (A:Option Addr) (c:Nat),v1=.slice A l'.length c∧l'.length≤c∧l'.length≤l1.length∧Aside0 (l'.length/16=m∧Qqc (l1.length/16) (V0T a0) l1=Qqc m V' l'∧l1.drop (16*(l1.length/16))=l'.drop (16*m))∧Aside0 (Kd.C (Kd.int .u8) w A l'.length l')∧Aside0 (ArAt wr B V')∧Aside0 (Below w.heap.size w wr))
  (fun v1 _=>lenV v1)
 case atStart=>exact⟨_,l1,V0T a0,A1,c1,rfl,hc1,Nat.le_refl _,⟨rfl,rfl,rfl⟩,j,HV0,d⟩
 case round =>
  obtain⟨m,l',V',A,c,rfl,hlc,hll,HM,HC,HV,HB⟩:=hrel;clear j HV0 d
  by_cases s:16≤l'.length
  ·have o:(16:Int)≤(l'.length:Int):=by omega
   go_wp2_with fail
   go_loopw [9,30] (fun v9 g wi=>∃(i:Nat) (iv:Int),i≤4∧g=.int .i64 iv∧Aside0 (iv=(i:Int))∧Aside0 (ArAt wi B (stepT i V' l'))∧Aside0 (Below w.heap.size w wi))
    (fun _ g _=>4-(intOf g).toNat)
   case atStart=>exact⟨0,0,by omega,rfl,⟨rfl⟩,HV,HB⟩
   case round =>
    obtain⟨i,iv,hi4,rfl,HI,HVi,HBi⟩:=hrel;clear HB HV
    by_cases h4:i<4
    ·have hk:i=0∨i=1∨i=2∨i=3:=by omega
     rcases hk with rfl|rfl|rfl|rfl
     ·obtain rfl:iv=0:=HI.out;have cv:wr.cell? ⟨B,0,none⟩=some (.int .u32 V'.1):=(Qeo HVi.out 0).trans rfl;have fv:=Qep HVi.out 0;obtain⟨A',n',c',hn',a,hcut,hc',hA'⟩:=cutT .i64 A c l' hlc 0 (by omega) 0 rfl;have b:4≤(l'.drop 0).length:=by rw[List.length_drop];omega
      have hwa:IntKind.i64.wrap 0=0:=IntWalk.i64_in 0 (by decide);have hq:∀q,Kd.C (Kd.int .u8) (wr.drewN q) A' n' (l'.drop 0):=fun q=>Kd.C_below (hA' w HC.out) (Qds HBi.out q)
      have HN:=QA (And.intro hn' hc');clear hA' hn' a hc'
      go_wp2_with fail
      go_region_with (first |(go_at_call 235;refine(Qqe HN.out.1 (hq _) HN.out.2 b).mono ?_;rintro e w7 ⟨rfl,hd⟩;obtain⟨q,rfl⟩:=hd.out;clear hd) |(go_at_call 234;refine(Qqf _ 13 ⟨by decide,by decide,by kernel_rfl⟩ _).mono ?_;rintro e w8 ⟨rfl,hd⟩;obtain⟨q2,rfl⟩:=hd.out;clear hd))
      all_goals
       go_wp2_with fail
       go_roundw
       case rel=>exact⟨1,1,by omega,by go_num,⟨rfl⟩,⟨Qel (w:=wr.drewN _) HVi.out 0 _⟩,⟨Qlc (Qds HBi.out _) (Nat.le_of_eq HBB.out.symm)⟩⟩
       case measure=>simp[intOf]
     ·obtain rfl:iv=1:=HI.out;have cv:wr.cell? ⟨B,1,none⟩=some (.int .u32 V'.2.1):=(Qeo HVi.out 1).trans rfl;have fv:=Qep HVi.out 1;obtain⟨A',n',c',hn',a,hcut,hc',hA'⟩:=cutT .i64 A c l' hlc 4 (by omega) 4 rfl;have b:4≤(l'.drop 4).length:=by rw[List.length_drop];omega
      have hwa:IntKind.i64.wrap 4=4:=IntWalk.i64_in 4 (by decide);have hq:∀q,Kd.C (Kd.int .u8) (wr.drewN q) A' n' (l'.drop 4):=fun q=>Kd.C_below (hA' w HC.out) (Qds HBi.out q)
      have HN:=QA (And.intro hn' hc');clear hA' hn' a hc'
      go_wp2_with fail
      go_region_with (first |(go_at_call 235;refine(Qqe HN.out.1 (hq _) HN.out.2 b).mono ?_;rintro e w7 ⟨rfl,hd⟩;obtain⟨q,rfl⟩:=hd.out;clear hd) |(go_at_call 234;refine(Qqf _ 13 ⟨by decide,by decide,by kernel_rfl⟩ _).mono ?_;rintro e w8 ⟨rfl,hd⟩;obtain⟨q2,rfl⟩:=hd.out;clear hd))
      all_goals
       go_wp2_with fail
       go_roundw
       case rel=>exact⟨2,2,by omega,by go_num,⟨rfl⟩,⟨Qel (w:=wr.drewN _) HVi.out 1 _⟩,⟨Qlc (Qds HBi.out _) (Nat.le_of_eq HBB.out.symm)⟩⟩
       case measure=>simp[intOf]
     ·obtain rfl:iv=2:=HI.out;have cv:wr.cell? ⟨B,2,none⟩=some (.int .u32 V'.2.2.1):=(Qeo HVi.out 2).trans rfl;have fv:=Qep HVi.out 2;obtain⟨A',n',c',hn',a,hcut,hc',hA'⟩:=cutT .i64 A c l' hlc 8 (by omega) 8 rfl;have b:4≤(l'.drop 8).length:=by rw[List.length_drop];omega
      have hwa:IntKind.i64.wrap 8=8:=IntWalk.i64_in 8 (by decide);have hq:∀q,Kd.C (Kd.int .u8) (wr.drewN q) A' n' (l'.drop 8):=fun q=>Kd.C_below (hA' w HC.out) (Qds HBi.out q)
      have HN:=QA (And.intro hn' hc');clear hA' hn' a hc'
      go_wp2_with fail
      go_region_with (first |(go_at_call 235;refine(Qqe HN.out.1 (hq _) HN.out.2 b).mono ?_;rintro e w7 ⟨rfl,hd⟩;obtain⟨q,rfl⟩:=hd.out;clear hd) |(go_at_call 234;refine(Qqf _ 13 ⟨by decide,by decide,by kernel_rfl⟩ _).mono ?_;rintro e w8 ⟨rfl,hd⟩;obtain⟨q2,rfl⟩:=hd.out;clear hd))
      all_goals
       go_wp2_with fail
       go_roundw
       case rel=>exact⟨3,3,by omega,by go_num,⟨rfl⟩,⟨Qel (w:=wr.drewN _) HVi.out 2 _⟩,⟨Qlc (Qds HBi.out _) (Nat.le_of_eq HBB.out.symm)⟩⟩
       case measure=>simp[intOf]
     ·obtain rfl:iv=3:=HI.out;have cv:wr.cell? ⟨B,3,none⟩=some (.int .u32 V'.2.2.2):=(Qeo HVi.out 3).trans rfl;have fv:=Qep HVi.out 3;obtain⟨A',n',c',hn',a,hcut,hc',hA'⟩:=cutT .i64 A c l' hlc 12 (by omega) 12 rfl;have b:4≤(l'.drop 12).length:=by rw[List.length_drop];omega
      have hwa:IntKind.i64.wrap 12=12:=IntWalk.i64_in 12 (by decide);have hq:∀q,Kd.C (Kd.int .u8) (wr.drewN q) A' n' (l'.drop 12):=fun q=>Kd.C_below (hA' w HC.out) (Qds HBi.out q)
      have HN:=QA (And.intro hn' hc');clear hA' hn' a hc'
      go_wp2_with fail
      go_region_with (first |(go_at_call 235;refine(Qqe HN.out.1 (hq _) HN.out.2 b).mono ?_;rintro e w7 ⟨rfl,hd⟩;obtain⟨q,rfl⟩:=hd.out;clear hd) |(go_at_call 234;refine(Qqf _ 13 ⟨by decide,by decide,by kernel_rfl⟩ _).mono ?_;rintro e w8 ⟨rfl,hd⟩;obtain⟨q2,rfl⟩:=hd.out;clear hd))
      all_goals
       go_wp2_with fail
       go_roundw
       case rel=>exact⟨4,4,by omega,by go_num,⟨rfl⟩,⟨Qel (w:=wr.drewN _) HVi.out 3 _⟩,⟨Qlc (Qds HBi.out _) (Nat.le_of_eq HBB.out.symm)⟩⟩
       case measure=>simp[intOf]
    ·obtain rfl:i=4:=by omega
     obtain rfl:iv=4:=HI.out;obtain⟨A',n',c',hn',a,hcut,hc',hA'⟩:=cutT .i64 A c l' hlc 16 s 16 rfl;have HN:=QA (And.intro hn' (And.intro a hc'));have HA':=QA (hA' w HC.out);clear hA' hn' a hc'
     go_wp2_with fail
     go_roundw
     case rel =>
      have e4:stepT 4 V' l'=Qqb V' l':=rfl;have hm:=HM.out;obtain⟨hn',a,hc'⟩:=HN.out;subst hn';refine⟨m-1,l'.drop 16,Qqb V' l',A',c',rfl,hc',by omega,⟨by omega,?_,?_⟩,HA',HVi,HBi⟩
      ·rw[hm.2.1,show m=(m-1)+1 by omega];rfl
      ·rw[hm.2.2,List.drop_drop]
       congr 1
       omega
     case measure=>simp[lenV];have:=HN.out.2.1;omega
  ·have o:(l'.length:Int)<16:=by omega
   obtain⟨v1,v2,v3,v4⟩:=V'
   go_wp2_with fail
   have c0:wr.cell? ⟨B,0,none⟩=some (.int .u32 v1):=(Qeo HV.out 0).trans rfl;have c1:wr.cell? ⟨B,1,none⟩=some (.int .u32 v2):=(Qeo HV.out 1).trans rfl;have c2:wr.cell? ⟨B,2,none⟩=some (.int .u32 v3):=(Qeo HV.out 2).trans rfl;have c3:wr.cell? ⟨B,3,none⟩=some (.int .u32 v4):=(Qeo HV.out 3).trans rfl
   go_region_held3 (fun w'=>w'.cell? ⟨B,0,none⟩=some (.int .u32 v1)∧w'.cell? ⟨B,1,none⟩=some (.int .u32 v2)∧w'.cell? ⟨B,2,none⟩=some (.int .u32 v3)∧w'.cell? ⟨B,3,none⟩=some (.int .u32 v4)) (go_keep) (first
    |(go_at_call_of 234 (Value.int .i64 1);refine(Qqf v1 1 ⟨by decide,by decide,by kernel_rfl⟩ _).mono ?_;rintro e w7 ⟨rfl,hd⟩;obtain⟨q1,rfl⟩:=hd.out;clear hd)
    |(go_at_call_of 234 (Value.int .i64 7);refine(Qqf v2 7 ⟨by decide,by decide,by kernel_rfl⟩ _).mono ?_;rintro e w7 ⟨rfl,hd⟩;obtain⟨q2,rfl⟩:=hd.out;clear hd)
    |(go_at_call_of 234 (Value.int .i64 12);refine(Qqf v3 12 ⟨by decide,by decide,by kernel_rfl⟩ _).mono ?_;rintro e w7 ⟨rfl,hd⟩;obtain⟨q3,rfl⟩:=hd.out;clear hd)
    |(go_at_call_of 234 (Value.int .i64 18);refine(Qqf v4 18 ⟨by decide,by decide,by kernel_rfl⟩ _).mono ?_;rintro e w7 ⟨rfl,hd⟩;obtain⟨q4,rfl⟩:=hd.out;clear hd))
   have hm0:m=0:=by have:=HM.out.1;omega
   subst hm0;have hm:=HM.out
   go_wp2_with fail
   refine bodyPost_ret (results_tmp2 rfl _ _ _) rfl ?_;have e2:l1.drop (16*(l1.length/16))=l':=by rw[hm.2.2];simp
   rw[e2,hm.2.1];exact⟨A,c,rfl,Kd.C_below HC.out (Qds HB.out _),hlc,Qds HB.out _⟩
theorem Qdm.calls(a0:Int)(A1:Option Addr)(c1:Nat)(l1:List Int)(r1:Int)(r2:List Int)(w:World)(hr1:Kd.C (Kd.int .u8) w A1 l1.length l1)(hc1:l1.length≤c1)(h:Qdm.f a0 l1=some (r1,r2)) :
  Calls Tryz.prog 233 #[.int .u32 a0,.slice A1 l1.length c1] w fun e w'=>∃A c,e=.returned (.tuple #[.int .u32 r1,.slice A r2.length c])∧Kd.C (Kd.int .u8) w' A r2.length r2∧r2.length≤c∧Below w.heap.size w w':=by
 unfold Qdm.f Qqd at h;split at h
 ·have h:=Option.some.inj h
  by_cases hs:l1.length<16
  ·rw[if_pos hs]at h
   cases h
   refine(Qqg a0 A1 c1 l1 w hs).mono ?_;rintro e w' ⟨rfl,hb⟩;exact⟨A1,c1,rfl,Kd.C_below hr1 hb,hc1,hb⟩
  ·rw[if_neg hs]at h
   cases h
   exact ts_long a0 A1 c1 l1 w hr1 hc1 hs
 ·cases h
def Qqh(h:Int)(l:List Int):Int:=rotT ((h+numT l*3266489917)%4294967296) 17*668265263%4294967296
def Qqi:Nat→Int→List Int→Int
 | 0,h,_=>h
 | m+1,h,l=>Qqi m (Qqh h l) (l.drop 4)
def oneT(h x:Int):Int:=rotT ((h+x%4294967296*374761393)%4294967296) 11*2654435761%4294967296
def mixT(h n p:Int):Int:=Go.bits .xor .u32 h (h/n)*p%4294967296
def finT(h:Int):Int:=Go.bits .xor .u32 (mixT (mixT h 32768 2246822519) 8192 3266489917) (mixT (mixT h 32768 2246822519) 8192 3266489917/65536)
def Qqj(h:Int)(l:List Int):Int:=finT ((l.drop (4*(l.length/4))).foldl oneT (Qqi (l.length/4) h l))
def Qqk(sd:Int)(l:List Int):Int:=Qqj (((Qqd sd l).1+(l.length:Int)%4294967296)%4294967296) (Qqd sd l).2
def Qdk.f(a0:Int)(l1:List Int):Option Int:=if l1.length≤140737488355328 then some (Qqk a0 l1)else none
theorem Qql(a0:Int)(l1:List Int)(hl:l1.length≤140737488355328):Qdm.f a0 l1=some ((Qqd a0 l1).1,(Qqd a0 l1).2):=by unfold Qdm.f;rw[if_pos hl]
theorem Qqm(a0:Int)(l1:List Int):(Qqd a0 l1).2.length≤l1.length:=by
 unfold Qqd;split
 ·exact Nat.le_refl _
 ·rw[List.length_drop];omega
theorem thin_of(a0:Int)(A1:Option Addr)(c1:Nat)(l1:List Int)(w:World)(hr1:Kd.C (Kd.int .u8) w A1 l1.length l1)(hc1:l1.length≤c1)(hl:l1.length≤140737488355328) :
  Calls Tryz.prog 224 #[.int .u32 a0,.slice A1 l1.length c1] w fun e w'=>e=.returned (.int .u32 (Qqk a0 l1))∧Below w.heap.size w w':=by
 have j:=QA hr1;have HST:=QA (Qql a0 l1 hl);have HSL:=QA (Qqm a0 l1);obtain⟨h0,hh0⟩:∃h0,h0=(Qqd a0 l1).1:=⟨_,rfl⟩;obtain⟨r0,hr0⟩:∃r0,r0=(Qqd a0 l1).2:=⟨_,rfl⟩;rw[← hh0,← hr0]at HST;rw[← hr0]at HSL;have hT:Qqk a0 l1=Qqj ((h0+(l1.length:Int)%4294967296)%4294967296) r0:=by rw[hh0,hr0];rfl
 have HT:=QA hT;clear hr1 hh0 hr0 hT
 go_enter Tryz.func224,Tryz.ntmps224
 go_wp2_with (go_at_call 233;refine(Qdm.calls a0 A1 c1 l1 h0 r0 _ j.out hc1 HST.out).mono ?_;rintro e w1 ⟨A,c,rfl,hC,hcc,hb1⟩;have HC:=QA hC;have d:=QA hb1;clear hC hb1)
 generalize l:(l1.length:Int)%4294967296=x1 at HT ⊢;generalize n:(h0+x1)%4294967296=x2 at HT ⊢;clear l n
 go_loopw [5,6] (fun v5 v6 wr=>∃(m:Nat) (h:Int) (l':List Int) (A:Option Addr) (c:Nat),v5=.int .u32 h∧v6=.slice A l'.length c∧l'.length≤c∧l'.length≤l1.length∧Aside0 (l'.length/4=m∧Qqk a0 l1=Qqj h l')∧Aside0 (Kd.C (Kd.int .u8) wr A l'.length l')∧Aside0 (Below w.heap.size w wr))
  (fun _ v6 _=>lenV v6)
 case atStart=>exact⟨_,x2,r0,A,c,rfl,rfl,hcc,HSL.out,⟨rfl,HT.out⟩,HC,d⟩
 case round =>
  clear HC d HST HT HSL hcc;obtain⟨m,h,l',A,c,rfl,rfl,hlc,hll,HM,HC,HB⟩:=hrel
  by_cases h4:4≤l'.length
  ·have o:(4:Int)≤(l'.length:Int):=by omega
   obtain⟨A',n',c',hn',a,hcut,hc',hA'⟩:=cutT .i64 A c l' hlc 4 h4 4 rfl;have HN:=QA (And.intro hn' (And.intro a hc'));have HA':=QA (hA' _ HC.out);clear hA' hn' a hc'
   go_wp2_with (first |(go_at_call 235;refine(Qqe rfl HC.out hlc h4).mono ?_;rintro e w7 ⟨rfl,hd⟩;have hd1:=hd.below;clear hd) |(go_at_call 234;refine(Qqf _ 17 ⟨by decide,by decide,by kernel_rfl⟩ _).mono ?_;rintro e w9 ⟨rfl,hd⟩;have hd3:=hd.below;clear hd))
   go_roundw
   case rel =>
    obtain⟨hn',a,hc'⟩:=HN.out;have hm:=HM.out;subst hn';refine⟨m-1,Qqh h l',l'.drop 4,A',c',rfl,rfl,hc',by omega,⟨by omega,?_⟩,⟨Kd.C_below (Kd.C_below HA'.out hd1) hd3⟩,⟨Qdt (Qdt HB.out HB.out.size hd1) (Nat.le_trans HB.out.size hd1.size) hd3⟩⟩;rw[hm.2];unfold Qqj;have e1:l'.length/4=(l'.drop 4).length/4+1:=by omega
    rw[e1,List.drop_drop];show finT (List.foldl oneT (Qqi ((l'.drop 4).length/4) (Qqh h l') (l'.drop 4)) (l'.drop (4*((l'.drop 4).length/4+1))))=_;rw[show 4*((l'.drop 4).length/4+1)=4+4*((l'.drop 4).length/4)by omega]
   case measure=>simp[lenV];have:=HN.out.2.1;omega
  ·have o:(l'.length:Int)<4:=by omega
   go_wp2_with fail
   obtain⟨R,hR⟩:∃R,R=l'.foldl oneT h:=⟨_,rfl⟩;have g:=QA hR;clear hR
   go_loopw [5,8,34] (fun v5 v8 b wi=>∃(k:Nat) (iv x:Int),k≤l'.length∧b=.int .i64 iv∧v5=.int .u32 x∧Aside0 (iv=(k:Int))∧Aside0 ((l'.drop k).foldl oneT x=R)∧Aside0 (Below wr.heap.size wr wi))
    (fun _ _ b _=>l'.length-(intOf b).toNat)
   case atStart=>exact⟨0,0,_,Nat.zero_le _,rfl,rfl,⟨rfl⟩,⟨by rw[List.drop_zero];exact g.out.symm⟩,⟨Below.refl _ _⟩⟩
   case round =>
    obtain⟨k,iv,x,hk,rfl,rfl,HK,HX,HBi⟩:=hrel
    by_cases hlt:k<l'.length
    ·have hge:0≤iv:=by have:=HK.out;omega
     have hl2:iv<(l'.length:Int):=by have:=HK.out;omega
     obtain⟨ad,hA3,p⟩:=Kd.at_int (Kd.C_below HC.out HBi.out) iv hge hl2;have hA4:=hA3;obtain⟨y,hy⟩:∃y,y=rd l' iv:=⟨_,rfl⟩;rw[← hy]at p;have HY:=QA hy;have HA:=QA hA4;clear hy hA4;subst hA3
     go_wp2_with (go_at_call 234;refine(Qqf _ 11 ⟨by decide,by decide,by kernel_rfl⟩ _).mono ?_;rintro e q ⟨rfl,hd⟩;have hd4:=hd.below;clear hd)
     go_roundw
     case rel=>exact⟨k+1,iv+1,oneT x y,by omega,by go_num,by unfold oneT;with_reducible rfl,⟨by have:=HK.out;omega⟩,⟨by
      have e1:iv=(k:Int):=HK.out;have e2:l'.drop k=rd l' (k:Int) :: l'.drop (k+1):=by
       rw[List.drop_eq_getElem_cons hlt];simp[rd,List.getD_eq_getElem?_getD,List.getElem?_eq_getElem hlt]
      have e3:=HX.out;rw[e2,List.foldl_cons,← e1,← HY.out]at e3;exact e3⟩,⟨Qdt HBi.out HBi.out.size hd4⟩⟩
     case measure=>simp[intOf];omega
    ·obtain rfl:k=l'.length:=by omega
     have e1:iv=_:=HK.out;subst e1
     go_wp2_with fail
     go_ret
     have hx:=HX.out;rw[List.drop_of_length_le (Nat.le_refl l'.length)]at hx;have hx':x=R:=hx;have hm:=HM.out;have hm0:m=0:=by omega
     have e5:Qqk a0 l1=finT x:=by
      rw[hm.2,hx',g.out];unfold Qqj;rw[hm.1,hm0];rfl
     exact⟨by rw[e5];rfl,Qdt HB.out HB.out.size HBi.out⟩
theorem Qdk.calls(a0:Int)(A1:Option Addr)(c1:Nat)(l1:List Int)(r:Int)(w:World)(hr1:Kd.C (Kd.int .u8) w A1 l1.length l1)(hc1:l1.length≤c1)(h:Qdk.f a0 l1=some r) :
  Calls Tryz.prog 224 #[.int .u32 a0,.slice A1 l1.length c1] w fun e w'=>e=.returned (.int .u32 r)∧Below w.heap.size w w':=by
 unfold Qdk.f at h
 by_cases hl:l1.length≤140737488355328
 ·rw[if_pos hl]at h
  cases h
  exact thin_of a0 A1 c1 l1 w hr1 hc1 hl
 ·rw[if_neg hl]at h;cases h
theorem Qrc(n:Int)(h0:0≤n)(h1:n≤140737488355328):Qaa.f 1 n=some (0,n):=by
 have e1:Go.bits .and .u64 1 4294967295=1:=by rw[and_low32 _ (by omega) (by omega)];rfl
 have e2:Go.bits .and .u64 n 4294967295=n%4294967296:=and_low32 _ (by omega) (by omega);have e3:∀x:Int,0≤x→x≤18446744073709551615→IntKind.u64.wrap x=x:=fun x a b=>IntWalk.u64_in x ⟨a,b⟩
 unfold Qaa.f Qab.f;rw[e1,e2];have d1:(1:Int)/4294967296=0:=by decide
 have m0:0≤n%4294967296:=by omega
 have m1:n%4294967296<4294967296:=by omega
 have q0:0≤n/4294967296:=by omega
 have q1:n/4294967296<4294967296:=by omega
 have d2:(n%4294967296)/4294967296=0:=by omega
 have d3:(n/4294967296)/4294967296=0:=by omega
 have z3:IntKind.u64.wrap 0=0:=e3 0 (by omega) (by omega);have zb:Go.bits .and .u64 0 4294967295=0:=by rw[and_low32 _ (by omega) (by omega)];rfl
 simp only[d1,Int.zero_mul,Int.one_mul,z3,e3 _ m0 (by omega),d2,Int.add_zero,Int.zero_add,Int.zero_ediv,zb,e3 _ q0 (by omega),d3,e3 _ h0 (by omega),Option.bind_some]
attribute [local go_sem] Qjk Qjl Qjm Qjn
def Fill(w wr:World)(g n bp:Nat)(x:Int):Prop :=
 ∃cur:List Value,wr.heap[g]? = some (.cells cur.toArray 5 (0,0))∧n≤cur.length∧(∀j,j<bp→cur[j]? = some (.int .u8 x))∧Below w.heap.size w wr∧w.heap.size≤g
theorem Fill.splice{w w1:World}{g n bp k:Nat}{x:Int}{cur:List Value}(hc:∀j,j<bp→cur[j]? = some (.int .u8 x))(hl:n≤cur.length)(hbk:bp+k≤n)(hg:w1.heap[g]? = some (.cells (splice cur bp (List.replicate k (.int .u8 x))).toArray 5 (0,0)))(hB:Below w.heap.size w w1)(hle:w.heap.size≤g):Fill w w1 g n (bp+k) x:=by
 refine⟨_,hg,?_,?_,hB,hle⟩
 ·rw[length_splice _ _ _ qq_23];exact hl
 ·intro j hj;unfold Go.splice
  by_cases h1:j<bp
  ·rw[List.getElem?_append_left qq_23,List.getElem?_take_of_lt h1];exact hc j h1
  ·rw[List.getElem?_append_right qq_23,List.length_take,Nat.min_eq_left (by omega),List.getElem?_append_left qq_23];simp[List.getElem?_replicate];omega
theorem Qrd (A0:Option Addr) (c0:Nat) (x:Int) (n:Nat) (w:World) (p:0<n) (hn:n≤140737488355328) (hr0:Kd.C (Kd.int .u8) w A0 1 [x]) :
    Calls Tryz.prog 120 #[.slice A0 1 c0,.int .i64 n] w fun e w'=>∃g,e=.returned (.slice (some ⟨g,0,none⟩) n n)∧Fill w w' g n n x:=by
  have hmul:=Qrc n (by omega) (by omega);obtain⟨ad,c,rfl,_,hK,hcell0⟩:=Kd.C_get hr0 0 0 (by omega) (by omega);have hK':c=[.int .u8 x]:=hK;subst hK';have hcell:=hcell0 0 _ rfl;clear hcell0 hK;have n0:(0:Int)<(n:Int):=by omega
  have n1:(n:Int)≤140737488355328:=by omega
  go_enter Tryz.func120,Tryz.ntmps120
  have hsz1:(Tryz.prog.info? 5).map (·.size)=some 1:=by kernel_rfl
  obtain⟨g,hg⟩:∃g,g=w.heap.size:=⟨_,rfl⟩
  go_wp2_with (go_at_call 168;refine(Qaa.calls 1 n 0 n w hmul).mono ?_;rintro e w' ⟨rfl,hd⟩;obtain⟨q,rfl⟩:=hd.out;clear hd;fail)
  go_at_call 168
  refine(Qaa.calls 1 n 0 n w hmul).mono ?_;rintro e w' ⟨rfl,hd⟩;obtain⟨q,rfl⟩:=hd.out;clear hd;obtain⟨cs,hrunM,hle,hmx⟩:=Lib.run_makeNoZero (P:=Tryz.prog) (w.drewN q) #[3] 52 5 Tryz.underlying52 n (by omega);have hcall:(callFunc 169 #[.int .i64 (n:Int)]).run Tryz.prog (w.drewN q)=.ok (.value (.slice (some ⟨w.heap.size,0,none⟩) n cs.size)) ((w.alloc (.cells cs 5)).drewN (q+2)):=by
    rw[run_callFunc_extern Tryz.func169 qq_7 qq_7 qq_7 (e:=Extern.BytealgMakeNoZero.makeNoZero #[3] #[52]) qq_7,hrunM];rfl
  clear hrunM hmx;have i1:(n:Int)≤(cs.size:Int):=by omega
  have hcell':((w.alloc (.cells cs 5)).drewN (q+2)).cell? (ad.add 0)=some (.int .u8 x):=by
    rw[World.cell?_drewN];exact(((Below.refl _ w).alloc (Nat.le_refl _) _).cell (World.block_lt_of_cell? w _ hcell)).trans hcell
  obtain⟨W0,hW0⟩:∃W0,((w.alloc (.cells cs 5)).drewN (q+2))=W0:=⟨_,rfl⟩;have hh0:W0.heap[g]? = some (.cells cs.toList.toArray 5 (0,0)):=by rw[← hW0,hg];simpa using heap_alloc_new w (.cells cs 5)
  have hb0:Below w.heap.size w W0:=by rw[← hW0];exact Qds ((Below.refl _ w).alloc (Nat.le_refl _) _) _
  rw[hW0]at hcall hcell';clear hW0;have HG:=QA hg;rw[← hg]at hcall;clear hg
  by_cases hbig:8192<(n:Int)
  all_goals
    go_wp2_with (refine wpList_copy_splice rfl (.tmp 58) (.tmp 59) 52 52 ?ho 5 Tryz.underlying52 hsz1 (some ⟨g,0,none⟩) (some ad) n n 1 c0 ?hd ?hs g 0 cs.toList 5 hh0 [.int .u8 x] ?hn ?hpos ?hfit ?h1 w.heap.size w hb0 ?hBg ?_;(case ho=>rfl);(case hd=>rfl);(case hs=>rfl);(case hn=>simp[Nat.min_def];omega);(case hpos=>intro _;refine⟨rfl,ad,rfl,fun j v hj=>?_⟩;cases j with|zero=>(simp at hj;subst hj;exact hcell')|succ j=>(simp at hj));(case hfit=>simp;omega);(case h1=>intro v hv;simp at hv;subst hv;rfl);(case hBg=>rw[HG.out];exact Nat.le_refl _);intro w1 HG1 hb1)
    have b:Fill w w1 g n (0+1) x:=Fill.splice (cur:=cs.toList) (bp:=0) (k:=1) (by intro j hj;omega) (by simpa using hle) (by omega) HG1.out hb1 qq_24;clear HG1 hb1
    go_loopw [10] (fun a wr=>∃(bp:Nat),1≤bp∧bp≤n∧a=.int .i64 (bp:Int)∧Aside0 (Fill w wr g n bp x)) (fun a _=>n-(intOf a).toNat)
    case atStart=>exact⟨1,Nat.le_refl _,by omega,rfl,⟨b⟩⟩
    case round =>
      clear b;obtain⟨bp,hb1,hb2,rfl,HF⟩:=hrel
      by_cases hlt:bp<n
      · by_cases c8:8192<(bp:Int)
        all_goals first |(exfalso;omega)|skip
        all_goals
         obtain⟨ch,hch1,hch2,hcb⟩:∃ch:Nat,1≤ch∧ch≤bp∧((8192<(n:Int)→8192<(bp:Int)→ch=8192)∧(¬8192<(bp:Int)→ch=bp)∧(¬8192<(n:Int)→ch=bp)):=by
          by_cases c:8192<(n:Int)∧8192<(bp:Int)
          · exact⟨8192,by omega,by omega,fun _ _=>rfl,by omega,by omega⟩
          · exact⟨bp,by omega,by omega,by omega,by omega,by omega⟩
         have e3:(if 8192<(bp:Int)then(8192:Int)else(bp:Int))≤(n:Int):=by split<;>omega
         first|rw[if_pos c8]at e3|rw[if_neg c8]at e3
         have HCB:=QA hcb;clear hcb;obtain⟨cur,hcur,hcl,hcx,hB,hle2⟩:=HF.out;obtain⟨kk,hkk⟩:∃kk,kk=Nat.min ch (n-bp):=⟨_,rfl⟩;have hk1:1≤kk∧kk≤ch∧kk≤n-bp:=by
           have h1:kk≤ch:=by rw[hkk];exact Nat.min_le_left _ _
           have h2:kk≤n-bp:=by rw[hkk];exact Nat.min_le_right _ _
           have h3:1≤kk:=by rw[hkk];exact Nat.le_min.2 ⟨hch1,by omega⟩
           exact⟨h3,h1,h2⟩
         have HKK:=QA hkk;clear hkk;have hcells:∀j,j<ch→wr.cell? ⟨g,j,none⟩=some (.int .u8 x):=by
           intro j hj;have:=hcx j (by omega);simp[World.cell?,hcur,this]
         have HCELLS:=QA hcells;have HCUR:=QA hcur;have HCX:=QA hcx;have HCL:=QA hcl;have HB:=QA hB;have HLE:=QA hle2;clear hcells hcur hcx hcl hB hle2 HF;have e1:(bp:Int)<(n:Int):=by omega
         have e2:(ch:Int)≤(n:Int):=by omega
         have d:=QA (show(List.replicate kk (Value.int .u8 x)).length=Nat.min ch (n-bp)by rw[List.length_replicate];exact HKK.out);have h:=QA (show ∀j v,(List.replicate kk (Value.int .u8 x))[j]? = some v→wr.cell? ((⟨g,0,none⟩:Addr).add j)=some v by
           intro j v hj;rw[List.getElem?_replicate]at hj;split at hj
           · injection hj with hj
             subst hj;rw[Qdv];exact HCELLS.out j (by omega)
           · cases hj)
         have l:=QA (show bp+(List.replicate kk (Value.int .u8 x)).length≤cur.length by rw[List.length_replicate];have:=HCL.out;omega);have m:=QA (show ∀v∈List.replicate kk (Value.int .u8 x),v.oneCell'=true by intro v hv;rw[(List.mem_replicate.1 hv).2];rfl)
         go_wp2_with fail
         go_region_law (refine step_copy_splice rfl (.tmp 70) (.tmp 73) 52 52 rfl 5 Tryz.underlying52 hsz1 (some ⟨g,bp,none⟩) (some ⟨g,0,none⟩) (n-bp) (n-bp) ch n (by(try simp[Act.eval,Act.put])<;>omega) (by(try simp[Act.eval,Act.put])<;>(have:=HCB.out;omega)) g bp cur 5 HCUR.out (List.replicate kk (.int .u8 x)) d.out (fun _=>⟨rfl,_,rfl,h.out⟩) l.out m.out w.heap.size w (by first|exact HB.out|exact Qdr HB.out) HLE.out ?_;intro w4 HG4 hb4)
         have o:Fill w w4 g n (bp+kk) x:=Fill.splice HCX.out HCL.out (by omega) HG4.out hb4 HLE.out;clear HG4 hb4;go_wp2
         go_roundw
         case rel=>exact⟨bp+kk,by omega,by omega,by rw[IntWalk.i64_in _ (by omega)];go_num,⟨o⟩⟩
         case measure=>simp[intOf,IntWalk.i64_in ((bp:Int)+(kk:Int)) (by omega)];omega
      · obtain rfl:bp=n:=by omega
        go_wp2;go_ret
        exact⟨g,rfl,HF.out⟩
theorem Qre{w w':World}{g n:Nat}{x:Int}(h:Fill w w' g n n x)(hn:n≤9223372036854775807):Kd.C (Kd.int .u8) w' (some ⟨g,0,none⟩) n (List.replicate n x):=by
 obtain⟨cur,h1,h2,h3,h4,h5⟩:=h;refine Kd.C_of_reads (d:=(0:Int)) ⟨List.length_replicate,hn,fun _=>⟨_,rfl,fun j hj=>?_⟩⟩;rw[Qdv,Qeo h1];simp[h3 j hj,List.getD_eq_getElem?_getD,List.getElem?_replicate,hj]
theorem Qrf(A0:Option Addr)(c0:Nat)(x:Int)(n:Nat)(w:World)(hn:n≤140737488355328)(hr0:Kd.C (Kd.int .u8) w A0 1 [x]) :
  Calls Tryz.prog 120 #[.slice A0 1 c0,.int .i64 n] w fun e w'=>∃A c,e=.returned (.slice A n c)∧n≤c∧Kd.C (Kd.int .u8) w' A n (List.replicate n x)∧Below w.heap.size w w':=by
 rcases Nat.eq_zero_or_pos n with rfl|hp
 ·go_enter Tryz.func120,Tryz.ntmps120
  go_wp2;go_ret
  exact⟨_,_,rfl,Nat.le_refl _,⟨rfl,by omega,fun h=>absurd h (by omega)⟩,Qdq (Below.refl _ _) _⟩
 ·refine(Qrd A0 c0 x n w hp hn hr0).mono ?_;rintro e w' ⟨g,rfl,hF⟩;refine⟨_,_,rfl,Nat.le_refl _,Qre hF (by omega),?_⟩;obtain⟨cur,h1,h2,h3,h4,h5⟩:=hF;exact h4
def Qaq.f(a0:Int):Option (Int × Int):=if 0≤a0 then if a0<256 then some (12+a0%2,1+a0/2%8)else none else none
theorem Qaq.calls(a0:Int)(r1:Int)(r2:Int)(w:World)(h:Qaq.f a0=some (r1,r2)) :
  Calls Tryz.prog 17 #[.int .u8 a0] w fun e w'=>e=.returned (.agg #[.int .u8 r1,.int .u32 r2])∧Below w.heap.size w w':=by
 unfold Qaq.f at h
 by_cases h0:0≤a0
 ·by_cases h1:a0<256
  ·rw[if_pos h0,if_pos h1]at h;simp only[Option.some.injEq,Prod.mk.injEq]at h;have hr1:=QA h.1;have hr2:=QA h.2;clear h;have hu:=Tryz.underlying27;have e1:Int.tmod a0 2=a0%2:=Int.tmod_eq_emod_of_nonneg h0;have e2:Int.tdiv a0 2=a0/2:=Int.tdiv_eq_ediv_of_nonneg h0;have e3:(12+a0%2)%256=12+a0%2:=by omega
   have e4:a0/2%256=a0/2:=by omega
   go_enter Tryz.func17,Tryz.ntmps17
   go_wp2_with fail
   refine bodyPost_ret (results_cell_row rfl _ _ w.heap.size 27 #[.int .u8 (12+a0%2),.int .u32 (1+a0/2%8)] (0,0) _ rfl (Qfe w _) Tryz.underlying27 rfl qq_7) rfl ?_;exact⟨by rw[hr1.out,hr2.out],Qdq (Below.refl _ _) _⟩
  ·rw[if_pos h0,if_neg h1]at h;cases h
 ·rw[if_neg h0]at h;cases h
def Qax.f(k:Nat)(a0:ByteArray):Option ByteArray:=if a0.size≤70368744177664 then(Qaw.f k (a0.size:Int)).bind fun t=>if t.size≤1000 then some (t++a0)else none else none
theorem Qax.calls(k:Nat)(a0:ByteArray)(r:ByteArray)(w:World)(h:Qax.f k a0=some r) :
  Calls Tryz.prog 104 #[.string a0] w fun e w'=>e=.returned (.string r)∧Below w.heap.size w w':=by
 unfold Qax.f at h
 by_cases hs:a0.size≤70368744177664
 ·rw[if_pos hs]at h;obtain⟨t,ht,h⟩:=Option.bind_eq_some_iff.mp h
  by_cases h1:t.size≤1000
  ·rw[if_pos h1]at h;obtain rfl:=Option.some.inj h;have HT:=QA ht;clear ht h;have hc:t.size+a0.size≤9223372036854775807:=by omega
   go_enter Tryz.func104,Tryz.ntmps104
   go_wp2_with (go_at_call 98;refine(Qaw.calls k _ _ _ HT.out).mono ?_;rintro e w1 ⟨rfl,hb1⟩)
   go_ret
   exact⟨rfl,hb1⟩
  ·rw[if_neg h1]at h;cases h
 ·rw[if_neg hs]at h;cases h
end Go.Proofs.YtnnofopfbeklbaaGreat.C
end
section
namespace Go.Proofs.YtnnofopfbeklbaaGreat.C
open Go.RowKit Go.Proofs.YtnnofopfbeklbaaGreatW.PrintWords Go.Proofs.YtnnofopfbeklbaaGreatW.PrintLast Go.Proofs.YtnnofopfbeklbaaGreatW.PrintMore
attribute [local go_sem] Qjk Qjl Qjm Qjn
theorem Qlx:∃i,Tryz.prog.info? 5=some i∧i.size=1∧i.zero=some (.int .u8 0)∧i.bytes=1:=by
 have h:=Qkb
 cases hh:Tryz.prog.info? 5 with
 | none=>rw[hh]at h;cases h
 | some i =>
  rw[hh]at h;simp only[Option.map_some,Option.some.injEq,Prod.mk.injEq]at h;exact⟨i,rfl,h.2.1,h.1,h.2.2⟩
theorem Qly(A:Option Addr)(n c m:Nat)(j:Int)(hj:j=(m:Int))(hm:m≤n)(hc:n≤c) :
  ∃(A':Option Addr) (n' c':Nat),n'=n-m∧n'≤c'∧(∀W:World,(Instr.slice 52 (.slice A n c) (some (.int .i64 j)) none none).run Tryz.prog W=.ok (.slice A' n' c') W) ∧
   ∀(W:World) (xs:List Int),Kd.C (Kd.int .u8) W A n xs→Kd.C (Kd.int .u8) W A' n' (xs.drop m):=by
 subst hj;obtain⟨i,hi,hsz,_⟩:=Qlx;refine⟨if c=m then A else A.map (·.add (m*1)),n-m,c-m,rfl,by omega,fun W=>?_,fun W xs hq=>?_⟩
 ·have h:=Qfr (P:=Tryz.prog) 52 5 .i64 Tryz.underlying52 hi 1 hsz A n c (m:Int) (by omega) (by omega) W;rw[Int.toNat_natCast]at h;exact h
 ·have hl:=hq.1;subst hl;have h:=Kd.C_drop hq hm hc;rw[List.length_drop]at h;exact h
theorem c8_to(A:Option Addr)(n c m:Nat)(j:Int)(hj:j=(m:Int))(hm:m≤n)(hc:n≤c) :
  ∃(n':Nat),n'=m∧n'≤c∧(∀W:World,(Instr.slice 52 (.slice A n c) none (some (.int .i64 j)) none).run Tryz.prog W=.ok (.slice A n' c) W) ∧
   ∀(W:World) (xs:List Int),Kd.C (Kd.int .u8) W A n xs→Kd.C (Kd.int .u8) W A n' (xs.take m):=by
 subst hj;obtain⟨i,hi,hsz,_⟩:=Qlx;refine⟨m,rfl,by omega,fun W=>?_,fun W xs hq=>?_⟩
 ·have h:=cut_to (P:=Tryz.prog) 52 5 .i64 Tryz.underlying52 hi A n c (m:Int) (by omega) (by omega) hc W;rw[Int.toNat_natCast]at h;exact h
 ·have hl:=hq.1;subst hl;have h:=Kd.C_take hq hm;rw[List.length_take,Nat.min_eq_left hm]at h;exact h
theorem ix_at{W:World}{A:Option Addr}{n c:Nat}{l:List Int}(v:Int)(hC:Kd.C (Kd.int .u8) W A n l)(hc:n≤c) :
  Calls Tryz.prog 80 #[.slice A n c,.int .u8 v] W fun e w'=>e=.returned (.int .i64 (ixOf l v))∧Drawn0 W w':=by
 have hl:=hC.1;subst hl;exact Qae.calls A c l v _ W hC hc rfl
theorem Qlz(l:List Int)(c:Int):-1≤ixOf l c∧ixOf l c<l.length:=by
 unfold ixOf;refine⟨Lib.indexByte_ge _ _,?_⟩
 rcases Int.lt_or_le (Lib.indexByte (Lib.bytesOf l) c.toNat.toUInt8) 0 with h|h
 ·omega
 ·obtain⟨o,ho⟩:=Int.eq_ofNat_of_zero_le h;have h1:=(Lib.indexByte_some (o:=o) ho).1;have h2:=(List.getElem?_eq_some_iff.1 h1).1;have h3:(Lib.bytesOf l).length=l.length:=by simp[Lib.bytesOf]
  omega
theorem R8.cap(W:World)(cs:Array Value)(cap:Nat)(hsz:cs.size=cap*1)(hm:cap≤maxLen):R8 (W.alloc (.cells cs 5)) W.heap.size (.slice (some ⟨W.heap.size,0,none⟩) 0 cap) [] :=
 Kd.R_of_own ⟨by simp[encs],.inr ⟨W.heap.size,cap,cs,rfl,Nat.le_refl _,heap_alloc_new W _,Nat.zero_le _,hm,hsz,by simp[encs]⟩⟩ (fun _ _=>trivial)
def Qma:Nat→List Int→List Int
 | 0,_=>[]
 | k+1,b =>
  if 0≤ixOf (b.take 254) 0 then((ixOf (b.take 254) 0+1)%256) :: (b.take (ixOf (b.take 254) 0).toNat++Qma k (b.drop ((ixOf (b.take 254) 0).toNat+1)))
  else if 254<b.length then 255 :: (b.take 254++Qma k (b.drop 254))
  else(((b.length:Int)+1)%256) :: b
def Qmb(b:List Int):List Int:=Qma (b.length+1) b
theorem Qmc:∀(k:Nat) (b:List Int),b.length<k→∀j,Qma (k+j) b=Qma k b
 | 0,b,h,_=>by omega
 | k+1,b,h,j=>by
  rw[show k+1+j=(k+j)+1 by omega];unfold Qma;split
  ·rename_i h0;have h1:=(Qlz (b.take 254) 0).2;rw[List.length_take]at h1;rw[Qmc k _ qq_18 j]
  ·split
   ·rw[Qmc k _ qq_18 j]
   ·rfl
theorem Qmd(k:Nat)(b:List Int)(h:b.length<k):Qma k b=Qmb b:=by
 have e:=Qmc (b.length+1) b (by omega) (k-(b.length+1));rw[show b.length+1+(k-(b.length+1))=k by omega]at e;exact e
theorem Qme{b:List Int}{p:Nat}(h:ixOf (b.take 254) 0=(p:Int)):Qmb b=(((p:Int)+1)%256) :: (b.take p++Qmb (b.drop (p+1))):=by
 have h1:=(Qlz (b.take 254) 0).2;rw[List.length_take]at h1;have hp:p<b.length:=by omega
 rw[Qmb,Qma,if_pos (by omega),h,Int.toNat_natCast,Qmd _ _ qq_18]
theorem Qmf{b:List Int}(h:ixOf (b.take 254) 0<0)(hl:254<b.length):Qmb b=255 :: (b.take 254++Qmb (b.drop 254)):=by
 rw[Qmb,Qma,if_neg (by omega),if_pos hl,Qmd _ _ qq_18]
theorem Qmg{b:List Int}(h:ixOf (b.take 254) 0<0)(hl:¬254<b.length):Qmb b=(((b.length:Int)+1)%256) :: b:=by
 rw[Qmb,Qma,if_neg (by omega),if_neg hl]
def most(n:Nat):Nat:=if n=0 then 1 else n+1+(n-1)/254
theorem most_is(n:Nat)(h:n≤140737488355328):Qak.f (n:Int)=some (most n:Int):=by
 unfold Qak.f most
 by_cases h0:n=0
 ·subst h0;rfl
 ·rw[if_neg (by omega),if_neg h0];have e1:wrap64 ((n:Int)-1)=(n:Int)-1:=by unfold wrap64;omega
  have e2:wrap64 ((n:Int)+1)=(n:Int)+1:=by unfold wrap64;omega
  rw[e1,e2];have e3:Int.tdiv ((n:Int)-1) 254=(((n-1)/254:Nat):Int):=by
   rw[show(n:Int)-1=((n-1:Nat):Int)by omega];rfl
  rw[e3];have e4:wrap64 (((n-1)/254:Nat):Int)=(((n-1)/254:Nat):Int):=by unfold wrap64;omega
  rw[e4];have e5:wrap64 ((n:Int)+1+(((n-1)/254:Nat):Int))=(n:Int)+1+(((n-1)/254:Nat):Int):=by unfold wrap64;omega
  rw[e5];simp
theorem Qmh(A0:Option Addr)(c0:Nat)(l0:List Int)(w:World)(hr0:Kd.C (Kd.int .u8) w A0 l0.length l0)(hc0:l0.length≤c0)(hl:l0.length≤35184372088832) :
  Calls Tryz.prog 152 #[.slice A0 l0.length c0] w fun e w'=>∃r:Value,e=.returned (r)∧R8 w' w.heap.size r (Qmb l0)∧Below w.heap.size w w':=by
 obtain⟨i8,hi8,hs8,hz8,hb8⟩:=Qlx;have hmost:most l0.length≤140737488355328:=by unfold most;split<;>omega
 have hrun:=fun W=>run_make (P:=Tryz.prog) W 52 5 i8 (.int .u8 0) Tryz.underlying52 hi8 hz8 .i64 .i64 0 (most l0.length:Int) (by omega) (by omega) (by rw[hb8];omega) (by omega)
 simp only[hs8]at hrun;have v:=QA hr0;clear hr0
 go_enter Tryz.func152,Tryz.ntmps152
 go_wp2_with (first |(go_at_call 197;refine(Qak.calls _ _ _ (most_is l0.length (by omega))).mono ?_;rintro e w' ⟨rfl,hd⟩;obtain⟨q,rfl⟩:=hd.out;clear hd))
 obtain⟨W0,hW0⟩:∃W0,W0=(w.drewN q).alloc (.cells (madeCells #[.int .u8 0] (most l0.length)) 5):=⟨_,rfl⟩;have s:=QA (show R8 W0 w.heap.size (.slice (some ⟨w.heap.size,0,none⟩) 0 (most l0.length)) []by rw[hW0];exact R8.cap (w.drewN q) _ _ (by simp[madeCells]) (by unfold maxLen;omega));have t:=QA (show Below w.heap.size w W0 by rw[hW0];exact Qdt (Qds (Below.refl _ _) q) (Nat.le_refl _) (Qdq (Below.refl _ _) _));rw[← hW0];clear hW0 hrun
 go_loopw [0,3,4,24,41] (fun v0 v3 v4 y z wr=>∃(l' out:List Int) (A:Option Addr) (n c:Nat),v0=.slice A n c∧n≤c∧Aside0 (n=l'.length)∧n≤l0.length∧out.length+2*n≤2*l0.length∧Aside0 (Qmb l0=out++Qmb l')∧Aside0 (Kd.C (Kd.int .u8) w A n l')∧Aside0 (R8 wr w.heap.size v3 out)∧Aside0 (Below w.heap.size w wr))
  (fun v0 _ _ _ _ _=>lenV v0)
 case atStart=>exact⟨l0,[],A0,l0.length,c0,rfl,hc0,⟨rfl⟩,Nat.le_refl _,by simp,⟨rfl⟩,v,s,t⟩
 case round =>
  obtain⟨l',out,A,n,c,rfl,hnc,HN,B,hout,HS,HC,HR,HB⟩:=hrel;clear s t;obtain⟨x,hx⟩:∃x,x=ixOf (l'.take 254) 0:=⟨_,rfl⟩;have hxr:=Qlz (l'.take 254) 0;rw[← hx]at hxr;have hlt:=HN.out;have D:x<(n:Int)∧x<254:=by have:=hxr.2;rw[List.length_take]at this;omega
  have E:=hxr.1;have HX:=QA hx;clear hxr hlt hx;obtain⟨m,hm,hC1,hmc⟩:∃m,(m=if 254<n then 254 else n)∧Aside0 (Kd.C (Kd.int .u8) w A m (l'.take 254))∧m≤c:=by
   by_cases h:254<n
   ·refine⟨254,by rw[if_pos h],⟨?_⟩,by omega⟩;have h1:=HC.out;rw[HN.out]at h1;have h2:=Kd.C_take h1 (m:=254) qq_20;rw[List.length_take,Nat.min_eq_left qq_20]at h2;exact h2
   ·refine⟨n,by rw[if_neg h],⟨?_⟩,hnc⟩;rw[List.take_of_length_le qq_20];exact HC.out
  have HM:=QA hm
  by_cases hxz:0≤x
  ·obtain⟨p,rfl⟩:=Int.eq_ofNat_of_zero_le hxz;have hpn:(p:Int)≤(n:Int):=by omega
   have hp8:p<254:=by omega
   have hwp:IntKind.i64.wrap ((p:Int)+1)=(p:Int)+1:=IntWalk.i64_in _ (by omega);have hCp:=QA (show Kd.C (Kd.int .u8) w A p (l'.take p)by
    have h1:=HC.out;rw[HN.out]at h1;have h2:=Kd.C_take h1 (m:=p) qq_20;rw[List.length_take,Nat.min_eq_left qq_20]at h2;exact h2)
   obtain⟨p',hp',_,hcutp,_⟩:=c8_to A n c p p rfl (by omega) hnc;subst hp';obtain⟨A4,n4,c4,d,g,hcut4,hC4⟩:=Qly A n c (p'+1) ((p':Int)+1) (by omega) (by omega) hnc;have HN4:=QA d;have u:n4<n:=by omega
   clear d
   by_cases hbig:254<n
   all_goals first|rw[if_pos hbig]at hm|rw[if_neg hbig]at hm
   all_goals
    subst hm
    go_wp2_with (first |(go_at_call 80;refine(ix_at 0 (Kd.C_below hC1.out HB.out) hmc).mono ?_;rw[← HX.out];rintro e w2 ⟨rfl,hd⟩;obtain⟨q2,rfl⟩:=hd.out;clear hd))
    obtain⟨W,hW⟩:∃W,W=(wr.drewN q2).drew:=⟨_,rfl⟩
    go_region_law (first
     |(refine Kd.R_append_step (Kd.int .u8) (w0:=w) w.heap.size (by rfl) (.tmp 27) (.tmp 31) 52 5 (.int .u8 0) 1 rfl Tryz.underlying52 Qkb rfl (by decide) (by omega) u3 out (((p':Int)+1)%256) [.int .u8 (((p':Int)+1)%256)] (fun _=>True) (fun _=>False) rfl ?ax ?aP (fun _ hk=>hk.elim) (fun _ _=>trivial) ?aO ?aB ?aS ?aL ?_;(case ax=>rfl);(case aP=>rfl);(case aO=>exact Kd.R_drew (Kd.R_drewN HR.out q2));(case aB=>exact Qdr (Qds HB.out q2));(case aS=>exact HB.out.size);(case aL=>omega);intro v1 w1 b hb1 l hat1)
     |(refine Kd.R_append_rows_step (Kd.int .u8) (Rr:=fun x cs=>cs=[.int .u8 x]) (w0:=w) w.heap.size (by rfl) (.tmp 32) (.tmp 35) 52 5 (.int .u8 0) 1 rfl Tryz.underlying52 Qkb rfl (by decide) (by omega) v1 (out++[((p':Int)+1)%256]) (l'.take p') A p' c (fun _=>True) (fun _=>False) rfl rfl b ?bR (fun _ _ h=>h) (fun _ hk=>hk.elim) (fun _ _=>trivial) hb1 hb1.size ?bL ?_;(case bR=>exact Kd.C_below hCp.out hb1);(case bL=>simp;omega);intro v2 w2 a hb2 o hat2))
    all_goals
     have j:=QA a;have k:=QA hb2;clear b hb1 l hat1 a hb2 o hat2
     go_wp2_with fail
     go_roundw
     case rel=>exact⟨l'.drop (p'+1),out++[((p':Int)+1)%256]++l'.take p',A4,n4,c4,rfl,g,⟨by rw[List.length_drop];have:=HN4.out;have:=HN.out;omega⟩,by omega,by
       have:=HN.out;have:=HN4.out;simp only[List.length_append,List.length_singleton,List.length_take];omega,⟨by
       rw[HS.out,Qme HX.out.symm];simp⟩,⟨hC4 _ _ HC.out⟩,j,k⟩
     case measure=>simp[lenV];omega
  ·have hxm:x=-1:=by omega
   subst hxm;have hix:ixOf (l'.take 254) 0<0:=by have:=HX.out;omega
   have HIX:=QA hix;clear hix
   by_cases hbig:254<n
   ·rw [if_pos hbig]at hm;subst hm;have hbi:(254:Int)<(n:Int):=by omega
    obtain⟨p',hp',_,hcutp,_⟩:=c8_to A n c 254 254 rfl (by omega) hnc;subst hp';obtain⟨A4,n4,c4,d,g,hcut4,hC4⟩:=Qly A n c 254 254 rfl (by omega) hnc;have HN4:=QA d;have u:n4<n:=by omega
    clear d
    go_wp2_with (first |(go_at_call 80;refine(ix_at 0 (Kd.C_below hC1.out HB.out) hmc).mono ?_;rw[← HX.out];rintro e w2 ⟨rfl,hd⟩;obtain⟨q2,rfl⟩:=hd.out;clear hd))
    go_region_law (first
     |(refine Kd.R_append_step (Kd.int .u8) (w0:=w) w.heap.size (by rfl) (.tmp 45) (.tmp 46) 52 5 (.int .u8 0) 1 rfl Tryz.underlying52 Qkb rfl (by decide) (by omega) u3 out 255 [.int .u8 255] (fun _=>True) (fun _=>False) rfl ?ax ?aP (fun _ hk=>hk.elim) (fun _ _=>trivial) ?aO ?aB ?aS ?aL ?_;(case ax=>rfl);(case aP=>rfl);(case aO=>exact Kd.R_drew (Kd.R_drewN HR.out q2));(case aB=>exact Qdr (Qds HB.out q2));(case aS=>exact HB.out.size);(case aL=>omega);intro v1 w1 b hb1 l hat1)
     |(refine Kd.R_append_rows_step (Kd.int .u8) (Rr:=fun x cs=>cs=[.int .u8 x]) (w0:=w) w.heap.size (by rfl) (.tmp 47) (.tmp 49) 52 5 (.int .u8 0) 1 rfl Tryz.underlying52 Qkb rfl (by decide) (by omega) v1 (out++[255]) (l'.take 254) A 254 c (fun _=>True) (fun _=>False) rfl rfl b ?bR (fun _ _ h=>h) (fun _ hk=>hk.elim) (fun _ _=>trivial) hb1 hb1.size ?bL ?_;(case bR=>exact Kd.C_below hC1.out hb1);(case bL=>simp;omega);intro v2 w2 a hb2 o hat2))
    all_goals
     have j:=QA a;have k:=QA hb2;clear b hb1 l hat1 a hb2 o hat2
     go_wp2_with fail
     go_roundw
     case rel=>exact⟨l'.drop 254,out++[255]++l'.take 254,A4,n4,c4,rfl,g,⟨by rw[List.length_drop];have:=HN4.out;have:=HN.out;omega⟩,by omega,by
       have:=HN.out;have:=HN4.out;simp only[List.length_append,List.length_singleton,List.length_take];omega,⟨by
       rw[HS.out,Qmf HIX.out qq_20];simp⟩,⟨hC4 _ _ HC.out⟩,j,k⟩
     case measure=>simp[lenV];omega
   ·rw[if_neg hbig]at hm;subst hm;have hbi:(m:Int)≤254:=by omega
    go_wp2_with (first
     |(go_at_call 80;refine(ix_at 0 (Kd.C_below hC1.out HB.out) hmc).mono ?_;rw[← HX.out];rintro e w2 ⟨rfl,hd⟩;obtain⟨q2,rfl⟩:=hd.out;clear hd)
     |(at_builtin;refine Kd.R_append (Kd.int .u8) (w0:=w) w.heap.size rfl (.tmp 15) (.tmp 20) 52 5 (.int .u8 0) 1 rfl Tryz.underlying52 Qkb rfl (by decide) (by omega) u3 out ((m:Int)+1) [.int .u8 ((m:Int)+1)] (fun _=>True) (fun _=>False) rfl ?ax ?aP (fun _ hk=>hk.elim) ?aF ?aO ?aB ?aS ?aL ?_;(case ax=>rfl);(case aP=>rfl);(case aF=>exact fun _ _=>trivial);(case aO=>exact Kd.R_drewN HR.out q2);(case aB=>exact Qds HB.out q2);(case aS=>exact HB.out.size);(case aL=>omega);intro v1 w1 b hb1 l hat1)
     |(at_builtin;refine Kd.R_append_rows (Kd.int .u8) (Rr:=fun x cs=>cs=[.int .u8 x]) (w0:=w) w.heap.size rfl (.tmp 21) (.tmp 22) 52 5 (.int .u8 0) 1 rfl Tryz.underlying52 Qkb rfl (by decide) (by omega) v1 (out++[(m:Int)+1]) (l'.take 254) A m c (fun _=>True) (fun _=>False) rfl rfl b ?bR (fun _ _ h=>h) (fun _ hk=>hk.elim) (fun _ _=>trivial) hb1 hb1.size ?bL ?_;(case bR=>exact Kd.C_below hC1.out hb1);(case bL=>simp;omega);intro v2 w2 a hb2 o hat2))
    go_ret
    refine⟨v2,rfl,?_,hb2⟩;have hlm:=HN.out;rw[HS.out,Qmg HIX.out (by omega),← hlm];rw[List.take_of_length_le (by omega)]at a;rw[show((m:Int)+1)%256=(m:Int)+1 by omega]
    simpa using a
end Go.Proofs.YtnnofopfbeklbaaGreat.C
end
section
namespace Go.Proofs.YtnnofopfbeklbaaGreat.C
open Go.RowKit Go.Proofs.YtnnofopfbeklbaaGreatW.PrintWords Go.Proofs.YtnnofopfbeklbaaGreatW.PrintLast Go.Proofs.YtnnofopfbeklbaaGreatW.PrintMore
theorem Qmi:((List.range 256).all fun a=>Go.bits .or .u8 (a:Int) 128 == (a:Int)%128+128)=true:=by kernel_rfl
theorem or128(a:Int)(h0:0≤a)(h1:a<256):Go.bits .or .u8 a 128=a%128+128:=by
 have h:=List.all_eq_true.1 Qmi a.toNat (List.mem_range.2 (by omega));have e:((a.toNat:Nat):Int)=a:=by omega
 rw[e]at h;exact eq_of_beq h
def vput:Nat→Int→List Int
 | 0,x=>[x]
 | n+1,x=>if x<128 then [x]else(x%128+128) :: vput n (x/128)
theorem Qmj:∀(n:Nat) (x:Int),(vput n x).length≤n+1
 | 0,_=>by simp[vput]
 | n+1,x=>by
  unfold vput;have:=Qmj n (x/128);split<;>simp<;>omega
theorem Qmk(b g:Nat)(x:Int)(xs:List Int)(w:World)(j:0≤x)(l:x<18446744073709551616)(hbg:b≤g)(hbw:b≤w.heap.size)(hI:IsBuf w b g xs)(hl:xs.length+10≤140737488355328) :
  Calls Tryz.prog 95 #[.pointer (some ⟨g,0,none⟩),.int .u64 x] w fun e w'=>(∃v,e=.returned v)∧IsBuf w' b g (xs++vput 9 x)∧Bw b g w w':=by
 have HI:=QA hI;clear hI
 go_enter Tryz.func95,Tryz.ntmps95
 go_wp2
 go_loopw [1] (fun v1 wr=>∃(k:Nat) (ys:List Int) (xv:Int),k≤9∧ys.length=k∧v1=.int .u64 xv∧0≤xv∧xv<2^(64-7*k)∧Aside0 (vput 9 x=ys++vput (9-k) xv)∧Aside0 (IsBuf wr b g (xs++ys))∧Aside0 (Bw b g w wr))
  (fun v1 _=>(intOf v1).toNat)
 case atStart=>exact⟨0,[],x,by omega,rfl,rfl,j,by simpa using l,⟨rfl⟩,⟨by simpa using HI.out⟩,⟨Bw.refl _ _ _⟩⟩
 case round =>
  obtain⟨k,ys,xv,hk,hys,rfl,n,a,HL,HB,HW⟩:=hrel;have o:xv<18446744073709551616:=by
   have:(2:Int)^(64-7*k)≤2^64:=by exact_mod_cast Nat.pow_le_pow_right (by decide) (by omega)
   omega
  by_cases hlt:128≤xv
  ·have hk9:k<9:=by
    by_cases e:k<9
    ·exact e
    ·obtain rfl:k=9:=by omega
     simp at a;omega
   have hor:=or128 (xv%256) (by omega) (by omega);have hm:(xv%256)%128=xv%128:=by omega
   rw[hm]at hor;have d:xv/128<2^(64-7*(k+1)):=by
    have e:(2:Int)^(64-7*k)=2^(64-7*(k+1))*128:=by
     rw[show 64-7*k=(64-7*(k+1))+7 by omega,Int.pow_add];rfl
    rw[e]at a;exact Int.ediv_lt_of_lt_mul (by decide) a
   have HX5:=QA d;clear a d
   go_wp2_with (go_at_call 94;(try rw[hor]);refine(Qlh b g (xv%128+128) (xs++ys) _ (by omega) (by omega) hbg (Nat.le_trans hbw HW.out.size) HB.out qq_23).mono ?_;rintro e w1 ⟨rfl,hd,hb1⟩;have HI1:=QA hd;have c:=QA (HW.out.trans hb1);clear hd hb1)
   go_roundw
   case rel=>exact⟨k+1,ys++[xv%128+128],xv/128,by omega,by simp[hys],by go_num,by omega,HX5.out,⟨by
    rw[HL.out,show 9-k=(9-(k+1))+1 by omega,vput,if_neg (by omega)];simp⟩,⟨by rw[← List.append_assoc];exact HI1.out⟩,⟨c.out⟩⟩
   case measure=>simp[intOf];omega
  ·have hxm:xv%256=xv:=by omega
   go_wp2_with (go_at_call 94;(try rw[hxm]);refine(Qlh b g xv (xs++ys) _ (by omega) (by omega) hbg (Nat.le_trans hbw HW.out.size) HB.out qq_23).mono ?_;rintro e w1 ⟨rfl,hd,hb1⟩;have HI1:=QA hd;have c:=QA (HW.out.trans hb1);clear hd hb1)
   go_end0
   refine⟨⟨_,rfl⟩,?_,c.out⟩;have e:vput (9-k) xv=[xv]:=by
    cases h:9-k with
    | zero=>rfl
    | succ m=>rw[vput,if_pos (by omega)]
   rw[HL.out,e,← List.append_assoc];exact HI1.out
theorem Qml(W:World)(s:ByteArray)(hs:s.size≤9223372036854775807):Kd.C (Kd.int .u8) (Lib.bytesWorld W 5 s) (some ⟨W.heap.size,0,none⟩) s.size (bytesOf s) :=
 Kd.C_of_reads (d:=(0:Int)) (Qee W 5 s hs)
theorem Qmm(b g:Nat)(s:ByteArray)(xs:List Int)(w:World)(hs:s.size≤70368744177664)(hbg:b≤g)(hbw:b≤w.heap.size)(hI:IsBuf w b g xs)(hl:xs.length+s.size+10≤140737488355328) :
  Calls Tryz.prog 153 #[.pointer (some ⟨g,0,none⟩),.string s] w fun e w'=>(∃v,e=.returned v)∧IsBuf w' b g (xs++(vput 9 s.size++bytesOf s))∧Bw b g w w':=by
 have hvl:=Qmj 9 s.size;have kb:=fun W=>Qed (P:=Tryz.prog) 9 52 5 Tryz.underlying9 Tryz.underlying52 Tryz.underlying5 s W
 go_enter Tryz.func153,Tryz.ntmps153
 go_wp2_with (first |(go_at_call 95;refine(Qmk b g s.size xs w (by omega) (by omega) hbg hbw hI (by omega)).mono ?_;rintro e w1 ⟨⟨_,rfl⟩,hd,hb1⟩) |(go_at_call 150;refine(Qln b g _ _ s.size (bytesOf s) (xs++vput 9 s.size) (Lib.bytesWorld w1 5 s) (Qeb s).symm (Qml w1 s (by omega)) hbg (by rw[Lib.bytesWorld_size];have:=hb1.size;omega) (hd.kept (Qef (Below.refl _ _) (Nat.le_refl _) _ _)) qq_23).mono ?_;rintro e w2 ⟨rfl,hd2,hb2⟩))
 go_end0
 refine⟨⟨_,rfl⟩,by rw[← List.append_assoc];exact hd2,hb1.trans ((Bw.below (Qef (Below.refl _ _) (Nat.le_refl _) _ _) (by have:=hb1.size;omega)).trans hb2)⟩
theorem rd_mem{l:List Int}{i:Int}(h0:0≤i)(h1:i<l.length):rd l i∈l:=by
 have h:i.toNat<l.length:=by omega
 unfold rd;rw[List.getD_eq_getElem?_getD,List.getElem?_eq_getElem h];exact List.getElem_mem h
theorem Qon{l:List Int}{k:Nat}(h:k<l.length):l.take (k+1)=l.take k++[rd l (k:Int)]:=by
 unfold rd;rw[List.take_add_one,List.getElem?_eq_getElem h,List.getD_eq_getElem?_getD];simp[List.getElem?_eq_getElem h]
theorem Qmo(l:List Int):(l.flatMap (fun x=>leb x 8)).length=8*l.length:=by
 induction l with
 | nil=>rfl
 | cons a l ih=>simp[Qlb,ih];omega
theorem Qmp(b g:Nat)(A0:Option Addr)(c0:Nat)(l:List Int)(xs:List Int)(w:World)(hr0:∀W',Bw b g w W'→Kd.C (Kd.int .u64) W' A0 l.length l)(hwf:∀x∈l,0≤x∧x<18446744073709551616)(hbg:b≤g)(hbw:b≤w.heap.size)(hI:IsBuf w b g xs)(hl:xs.length+8*l.length≤140737488355328) :
  Calls Tryz.prog 114 #[.pointer (some ⟨g,0,none⟩),.slice A0 l.length c0] w fun e w'=>(∃v,e=.returned v)∧IsBuf w' b g (xs++l.flatMap (fun x=>leb x 8))∧Bw b g w w':=by
 have HI:=QA hI;clear hI
 go_enter Tryz.func114,Tryz.ntmps114
 go_wp2
 go_loopw [8] (fun i wr=>∃(k:Nat) (iv:Int),k≤l.length∧i=.int .i64 iv∧Aside0 (iv=(k:Int))∧Aside0 (IsBuf wr b g (xs++(l.take k).flatMap (fun x=>leb x 8)))∧Aside0 (Bw b g w wr))
  (fun i _=>l.length-(intOf i).toNat)
 case atStart=>exact⟨0,0,Nat.zero_le _,rfl,⟨rfl⟩,⟨by simpa using HI.out⟩,⟨Bw.refl _ _ _⟩⟩
 case round =>
  obtain⟨k,iv,hk,rfl,HK,HB,HW⟩:=hrel
  by_cases hlt:k<l.length
  ·have hge:0≤iv:=by have:=HK.out;omega
   have hl2:iv<(l.length:Int):=by have:=HK.out;omega
   obtain⟨ad,rfl,a⟩:=Kd.at_int (hr0 wr HW.out) iv hge hl2;obtain⟨x,hx⟩:∃x,x=rd l iv:=⟨_,rfl⟩;rw[← hx]at a;have hxr:0≤x∧x<18446744073709551616:=by rw[hx];exact hwf _ (rd_mem hge hl2)
   have HX:=QA hx;clear hx;have hlen:=QA (show(xs++(l.take k).flatMap (fun x=>leb x 8)).length+8≤140737488355328 by rw[List.length_append,Qmo,List.length_take];omega)
   go_wp2_with (go_at_call 151;refine(Qlk b g x (xs++(l.take k).flatMap (fun x=>leb x 8)) _ hxr.1 hxr.2 hbg (Nat.le_trans hbw HW.out.size) HB.out hlen.out).mono ?_;rintro e w1 ⟨rfl,hd,hb1⟩;have HI1:=QA hd;have c:=QA (HW.out.trans hb1);clear hd hb1)
   go_roundw
   case rel=>exact⟨k+1,iv+1,by omega,by go_num,⟨by have:=HK.out;omega⟩,⟨by
    have e1:iv=(k:Int):=HK.out;rw[Qon hlt,List.flatMap_append,← List.append_assoc,← e1,← HX.out]
    simpa using HI1.out⟩,⟨c.out⟩⟩
   case measure=>simp[intOf];omega
  ·obtain rfl:k=l.length:=by omega
   obtain rfl:iv=(l.length:Int):=HK.out;go_wp2;go_end0
   refine⟨⟨_,rfl⟩,?_,HW.out⟩
   simpa using HB.out
def ent(x:S117):List Int:=leb x.f0 8++leb x.f1 4
theorem Qmq{l:List S117}{k:Nat}(h:k<l.length):l.take (k+1)=l.take k++[Qkn l (k:Int)]:=by
 unfold Qkn;rw[List.take_add_one,List.getElem?_eq_getElem h,List.getD_eq_getElem?_getD];simp[List.getElem?_eq_getElem h]
theorem rdT_mem{l:List S117}{i:Int}(h0:0≤i)(h1:i<l.length):Qkn l i∈l:=by
 have h:i.toNat<l.length:=by omega
 unfold Qkn;rw[List.getD_eq_getElem?_getD,List.getElem?_eq_getElem h];exact List.getElem_mem h
theorem Qmr(l:List S117):(l.flatMap ent).length=12*l.length:=by
 induction l with
 | nil=>rfl
 | cons a l ih=>simp[ent,Qlb,ih];omega
theorem Qms(b g:Nat)(A0:Option Addr)(c0:Nat)(l:List S117)(xs:List Int)(w:World)(hr0:∀W',Bw b g w W'→Kd.C k117 W' A0 l.length l)(hwf:∀x∈l,(0≤x.f0∧x.f0<18446744073709551616)∧0≤x.f1∧x.f1<4294967296)(hbg:b≤g)(hbw:b≤w.heap.size)(hI:IsBuf w b g xs)(hl:xs.length+12*l.length≤140737488355328) :
  Calls Tryz.prog 113 #[.pointer (some ⟨g,0,none⟩),.slice A0 l.length c0] w fun e w'=>(∃v,e=.returned v)∧IsBuf w' b g (xs++l.flatMap ent)∧Bw b g w w':=by
 have hu:=Tryz.underlying117;have HI:=QA hI;clear hI
 go_enter Tryz.func113,Tryz.ntmps113
 go_wp2
 go_loopw [8] (fun i wr=>∃(k:Nat) (iv:Int),k≤l.length∧i=.int .i64 iv∧Aside0 (iv=(k:Int))∧Aside0 (IsBuf wr b g (xs++(l.take k).flatMap ent))∧Aside0 (Bw b g w wr))
  (fun i _=>l.length-(intOf i).toNat)
 case atStart=>exact⟨0,0,Nat.zero_le _,rfl,⟨rfl⟩,⟨by simpa using HI.out⟩,⟨Bw.refl _ _ _⟩⟩
 case round =>
  obtain⟨k,iv,hk,rfl,HK,HB,HW⟩:=hrel
  by_cases hlt:k<l.length
  ·have hge:0≤iv:=by have:=HK.out;omega
   have hl2:iv<(l.length:Int):=by have:=HK.out;omega
   obtain⟨ad,rfl,a,c⟩:=Qko (hr0 wr HW.out) iv hge hl2;obtain⟨x,hx⟩:∃x,x=Qkn l iv:=⟨_,rfl⟩;rw[← hx]at a c;have hxr:=hwf x (by rw[hx];exact rdT_mem hge hl2);have HX:=QA hx;clear hx;have hlen:=QA (show(xs++(l.take k).flatMap ent).length+12≤140737488355328 by rw[List.length_append,Qmr,List.length_take];omega)
   go_upto_region 3 with fail
   obtain⟨B,hBe⟩:∃B,B=wr.heap.size:=⟨_,rfl⟩;obtain⟨W,hW⟩:∃W,W=wr.alloc (.cells #[.int .u64 x.f0,.int .u32 x.f1] 117):=⟨_,rfl⟩;have hBlk:W.heap[B]? = some (.cells #[.int .u64 x.f0,.int .u32 x.f1] 117 (0,0)):=by rw[hW,hBe];exact Qfe wr _
   have hIB:IsBuf W b g (xs++(l.take k).flatMap ent):=by rw[hW];exact HB.out.kept (Qdq (Below.refl _ _) _)
   have hBW:Bw b g w W:=by rw[hW];exact HW.out.trans (Bw.below (Qdq (Below.refl _ _) _) (Nat.le_trans hbw HW.out.size))
   have hgB:B≠g:=by have:=HB.out.lt;omega
   rw[← hW,← hBe];clear hW hBe a c;have d0:Below W.heap.size W W.drew:=Qdr (Below.refl _ _);have hBlk1:=Qfd hBlk d0;have hIB1:=hIB.kept d0;have hBW1:Bw b g w W.drew:=hBW.trans (Bw.below d0 (Nat.le_trans hbw hBW.size));have c0:W.drew.cell? ⟨B,0,none⟩=some (.int .u64 x.f0):=(Qeo hBlk1 0).trans rfl;have c1:W.drew.cell? ⟨B,1,none⟩=some (.int .u32 x.f1):=(Qeo hBlk1 1).trans rfl;have hs1:b≤W.drew.heap.size:=Nat.le_trans hbw hBW1.size
   go_region_held3 (fun w'=>w'.cell? ⟨B,0,none⟩=some (.int .u64 x.f0)∧w'.cell? ⟨B,1,none⟩=some (.int .u32 x.f1)) (first|exact⟨c0,c1⟩|exact⟨c2,c3⟩|exact⟨c4,c5⟩) (first |(go_at_call 151;refine(Qlk b g x.f0 (xs++(l.take k).flatMap ent) W.drew hxr.1.1 hxr.1.2 hbg hs1 hIB1 (by have:=hlen.out;omega)).mono ?_;rintro e w2 ⟨rfl,hI2,hb2⟩;have hBlk2:=hb2.2 _ _ _ hBlk1 (by decide) hgB;have c2:w2.cell? ⟨B,0,none⟩=some (.int .u64 x.f0):=(Qeo hBlk2 0).trans rfl;have c3:w2.cell? ⟨B,1,none⟩=some (.int .u32 x.f1):=(Qeo hBlk2 1).trans rfl) |(go_at_call 112;refine(Qlj b g x.f1 (xs++(l.take k).flatMap ent++leb x.f0 8) w2 hxr.2.1 hxr.2.2 hbg (Nat.le_trans hs1 hb2.size) hI2 (by have:=hlen.out;simp[Qlb]at this ⊢;omega)).mono ?_;rintro e w3 ⟨rfl,hI3,hb3⟩;have hBlk3:=hb3.2 _ _ _ hBlk2 (by decide) hgB;have c4:w3.cell? ⟨B,0,none⟩=some (.int .u64 x.f0):=(Qeo hBlk3 0).trans rfl;have c5:w3.cell? ⟨B,1,none⟩=some (.int .u32 x.f1):=(Qeo hBlk3 1).trans rfl))
   have HI3:=QA hI3;have d:=QA (hBW1.trans (hb2.trans hb3));clear hI3 hI2 hb2 hb3 c0 c1 c2 c3 c4 c5 hBlk hBlk1 hBlk2 hBlk3 hIB hIB1 hBW hBW1;go_wp2
   go_roundw
   case rel=>exact⟨k+1,iv+1,by omega,by go_num,⟨by have:=HK.out;omega⟩,⟨by
    have e1:iv=(k:Int):=HK.out;rw[Qmq hlt,List.flatMap_append,← List.append_assoc,← e1,← HX.out]
    simpa [ent]using HI3.out⟩,⟨d.out⟩⟩
   case measure=>simp[intOf];omega
  ·obtain rfl:k=l.length:=by omega
   obtain rfl:iv=(l.length:Int):=HK.out;go_wp2;go_end0
   refine⟨⟨_,rfl⟩,?_,HW.out⟩
   simpa using HB.out
theorem Qnm(a0:Int)(A1:Option Addr)(c1:Nat)(l1:List Int)(w:World)(hr1:Kd.C (Kd.int .u8) w A1 l1.length l1)(hl:l1.length≤140737488355328) :
  Calls Tryz.prog 101 #[.int .u64 a0,.slice A1 l1.length c1] w fun e w'=>e=.returned (.int .u64 (Qnk a0 l1))∧Below w.heap.size w w':=by
 go_enter Tryz.func101,Tryz.ntmps101
 go_wp2_with (first |(go_at_call 155;refine(st_New a0 w).mono ?_;rintro e w1 ⟨rfl,⟨rv,hv,hR⟩,hb1⟩;have hv1:StAt w1 w.heap.size a0 (IntKind.u64.wrap (IntKind.u64.wrap (a0+Q1)+Q2),IntKind.u64.wrap (a0+Q2),a0,IntKind.u64.wrap (a0-Q1)) rv 0:=hv;have hr:=Kd.C_below hr1 hb1;have hf:=Kd.far_C (0:Int) hr1 (Nat.le_refl w.heap.size)) |(go_at_call 156;refine(Qnl w.heap.size w.heap.size a0 _ rv A1 c1 l1 w1 hr hf hv1 hR (Nat.le_refl _) hb1.size hl).mono ?_;rintro e w2 ⟨rfl,⟨rv2,hv2,hR2⟩,hb2⟩) |(go_at_call 157;refine(st_Sum w.heap.size w.heap.size a0 _ rv2 _ _ w2 hv2 (Kd.Q_of_R hR2)).mono ?_;rintro e w3 ⟨rfl,hb3⟩))
 go_ret
 exact⟨rfl,(hb1.trans hb2).trans (Qld hb3 (Nat.le_trans hb1.size hb2.size))⟩
theorem sum_of'(a0:Int)(A1:Option Addr)(c1 n:Nat)(l1:List Int)(w:World)(hn:n=l1.length)(hr1:Kd.C (Kd.int .u8) w A1 n l1)(hl:n≤140737488355328) :
  Calls Tryz.prog 101 #[.int .u64 a0,.slice A1 n c1] w fun e w'=>e=.returned (.int .u64 (Qnk a0 l1))∧Below w.heap.size w w':=by
 subst hn;exact Qnm a0 A1 c1 l1 w hr1 hl
theorem hash_of(s:ByteArray)(w:World)(hl:s.size≤140737488355328) :
  Calls Tryz.prog 60 #[.string s] w fun e w'=>e=.returned (.int .u64 (Qnk 0 (bytesOf s)))∧Below w.heap.size w w':=by
 have kb:=fun W=>Qed (P:=Tryz.prog) 9 52 5 Tryz.underlying9 Tryz.underlying52 Tryz.underlying5 s W
 have hbb:=Qef (Below.refl w.heap.size w) (Nat.le_refl _) 5 s
 go_enter Tryz.func60,Tryz.ntmps60
 go_wp2_with (go_at_call 101;refine(sum_of' 0 _ _ s.size (bytesOf s) (Lib.bytesWorld w 5 s) (Qeb s).symm (Qml w s (by omega)) hl).mono ?_;rintro e w1 ⟨rfl,hb1⟩)
 go_ret
 exact⟨rfl,Qdt hbb hbb.size hb1⟩
def chk(d:Bool)(key v:ByteArray):Int:=if key.toList=([]:List UInt8)then 4 else if(key.size:Int) > 4096 then 3 else if(d && (v.toList != ([]:List UInt8)))=true then 4 else if(v.size:Int) > 1048576 then 3 else 0
theorem Qqn(d:Bool)(s:Int)(key v:ByteArray):Qdf.f 1 d s key v=some (chk d key v):=by
 unfold Qdf.f chk;split
 ·rfl
 split
 ·rfl
 cases d
 ·simp only[Bool.false_eq_true,if_false,Bool.false_and,Qdf.j0];split<;>rfl
 ·simp only[if_true,Bool.true_and,Qdf.j0];split
  ·rfl
  ·split<;>rfl
theorem Qqo{d:Bool}{key v:ByteArray}(h:chk d key v=0):key.size≤4096∧v.size≤1048576:=by
 unfold chk at h
 repeat' split at h
 all_goals first|omega|skip
def Qqp(d:Bool)(s:Int)(key v:ByteArray):List Int:=[if d then 3 else 2]++vput 9 s++(vput 9 key.size++bytesOf key)++(if d then []else vput 9 v.size++bytesOf v)
def Qde.f(a0_0:Bool)(a0_1:Int)(a0_2:ByteArray)(a0_3:ByteArray):Option (List Int × Int) :=
 if 0≤a0_1 then if a0_1<18446744073709551616 then some (if chk a0_0 a0_2 a0_3=0 then(Qqp a0_0 a0_1 a0_2 a0_3,0)else([],chk a0_0 a0_2 a0_3))else none else none
theorem IsBuf.new(w:World)(b:Nat):IsBuf (w.alloc (.cells #[.slice none 0 0] 167)) b w.heap.size []:=⟨_,Qfe w _,Kd.R_nil _ _ _ _ _⟩
theorem box4{W:World}{B:Nat}{d:Bool}{s:Int}{key v:ByteArray}(h:W.heap[B]? = some (.cells #[.bool d,.int .u64 s,.string key,.string v] 39 (0,0))) :
  W.cell? ⟨B,0,none⟩=some (.bool d)∧W.cell? ⟨B,1,none⟩=some (.int .u64 s)∧W.cell? ⟨B,2,none⟩=some (.string key)∧W.cell? ⟨B,3,none⟩=some (.string v) :=
 ⟨(Qeo h 0).trans rfl,(Qeo h 1).trans rfl,(Qeo h 2).trans rfl,(Qeo h 3).trans rfl⟩
theorem body_of(d:Bool)(s:Int)(key v:ByteArray)(w:World)(hs0:0≤s)(hs1:s<18446744073709551616)(hc:chk d key v=0) :
  Calls Tryz.prog 99 #[.agg #[.bool d,.int .u64 s,.string key,.string v]] w fun e w'=>∃a:Value,e=.returned (.tuple #[a,.int .i64 0])∧R8 w' w.heap.size a (Qqp d s key v)∧Below w.heap.size w w':=by
 have hu:=Tryz.underlying39;obtain⟨hk,hv⟩:=Qqo hc;have hl1:=Qmj 9 s;have hl2:=Qmj 9 key.size;have hl3:=Qmj 9 v.size;have hkl:=Qeb key;have hvl:=Qeb v;have hcheck:=Qqn d s key v;rw[hc]at hcheck;have HC:=QA hcheck;clear hcheck hc;have hba:Below w.heap.size w (w.alloc (.cells #[.bool d,.int .u64 s,.string key,.string v] 39)):=Qdq (Below.refl _ _) _;have hbn:=Qfe w (.cells #[.bool d,.int .u64 s,.string key,.string v] 39)
 cases d
 all_goals
  go_enter Tryz.func99,Tryz.ntmps99
  go_wp2_with (first
   |(go_at_call 56;refine(Qdf.calls 1 _ s key v 0 _ HC.out).mono ?_;rintro e w1 ⟨rfl,hb1⟩;have hk1:=Qfd hbn hb1;obtain⟨c0,c1,c2,c3⟩:=box4 hk1;have hw1:=QA (Qdt hba hba.size hb1);have hs1':=QA (show w.heap.size<w1.heap.size from Qen hk1);have HI1:=QA (IsBuf.new w1 w.heap.size);have hk1':=Qfa hk1 (.cells #[.slice none 0 0] 167);obtain⟨b,c,g,h⟩:=box4 hk1';clear hk1 hb1 hbn hba)
   |(go_at_call 94;refine(Qlh w.heap.size w1.heap.size _ [] _ (by decide) (by decide) (Nat.le_of_lt hs1'.out) (by rw[World.size_alloc];have:=hs1'.out;omega) HI1.out (by simp)).mono ?_;rintro e w2 ⟨rfl,hI2,hb2⟩;have hk2:=hb2.2 _ _ _ hk1' (by decide) (Nat.ne_of_lt hs1'.out);obtain⟨d0,d1,d2,d3⟩:=box4 hk2;have HI2:=QA hI2;have hs2:=QA hb2.size;clear hI2 c0 c1 c2 c3 b c g h)
   |(go_at_call 95;refine(Qmk w.heap.size w1.heap.size s _ _ hs0 hs1 (Nat.le_of_lt hs1'.out) (by have:=hs1'.out;have:=hs2.out;simp at this;omega) HI2.out (by simp)).mono ?_;rintro e w3 ⟨⟨_,rfl⟩,hI3,hb3⟩;have hk3:=hb3.2 _ _ _ hk2 (by decide) (Nat.ne_of_lt hs1'.out);obtain⟨e0,e1,e2,e3⟩:=box4 hk3;have HI3:=QA hI3;have hs3:=QA (Nat.le_trans hs2.out hb3.size);clear hI3 d0 d1 d2 d3)
   |(go_at_call_of 153 key;refine(Qmm w.heap.size w1.heap.size key _ _ (by omega) (Nat.le_of_lt hs1'.out) (by have:=hs1'.out;have:=hs3.out;simp at this;omega) HI3.out qq_23).mono ?_;rintro e w4 ⟨⟨_,rfl⟩,hI4,hb4⟩;have hk4:=hb4.2 _ _ _ hk3 (by decide) (Nat.ne_of_lt hs1'.out);obtain⟨f0,f1,f2,f3⟩:=box4 hk4;have HI4:=QA hI4;have hs4:=QA (Nat.le_trans hs3.out hb4.size);clear hI4 e0 e1 e2 e3)
   |(go_at_call_of 153 v;refine(Qmm w.heap.size w1.heap.size v _ _ (by omega) (Nat.le_of_lt hs1'.out) (by have:=hs1'.out;have:=hs4.out;simp at this;omega) HI4.out qq_23).mono ?_;rintro e w5 ⟨⟨_,rfl⟩,hI5,hb5⟩;have HI5:=QA hI5;have hs5:=QA (Nat.le_trans hs4.out hb5.size))
   |(go_at_call 97;first |(refine(Qlo w.heap.size w1.heap.size _ _ HI5.out qq_23).mono ?_;rintro e w6 ⟨vv,rfl,hR6,hb6⟩) |(refine(Qlo w.heap.size w1.heap.size _ _ HI4.out qq_23).mono ?_;rintro e w6 ⟨vv,rfl,hR6,hb6⟩)))
 ·refine bodyPost_ret (results_tmp2 rfl _ _ _) rfl ?_;have hsz:=hs5.out;simp at hsz;have:=hs1'.out;refine⟨vv,rfl,?_,(((((hw1.out.trans (Qld (Qdq (Below.refl _ _) _) (Nat.le_of_lt hs1'.out))).trans hb2.1).trans hb3.1).trans hb4.1).trans hb5.1).trans (Qld hb6 (by omega))⟩;have e:Qqp false s key v=[]++[2]++vput 9 s++(vput 9 key.size++bytesOf key)++(vput 9 v.size++bytesOf v):=by simp[Qqp]
  rw[e];exact hR6.low (by omega)
 ·refine bodyPost_ret (results_tmp2 rfl _ _ _) rfl ?_;have hsz:=hs4.out;simp at hsz;have:=hs1'.out;refine⟨vv,rfl,?_,((((hw1.out.trans (Qld (Qdq (Below.refl _ _) _) (Nat.le_of_lt hs1'.out))).trans hb2.1).trans hb3.1).trans hb4.1).trans (Qld hb6 (by omega))⟩;have e:Qqp true s key v=[]++[3]++vput 9 s++(vput 9 key.size++bytesOf key):=by simp[Qqp]
  rw[e];exact hR6.low (by omega)
theorem Qqq(d:Bool)(s:Int)(key v:ByteArray)(w:World)(c:Int)(hc:chk d key v=c)(hn:c≠0) :
  Calls Tryz.prog 99 #[.agg #[.bool d,.int .u64 s,.string key,.string v]] w fun e w'=>∃v0_:Value,e=.returned (.tuple #[v0_,.int .i64 c])∧R8 w' w.heap.size v0_ []∧Below w.heap.size w w':=by
 have hu:=Tryz.underlying39;have hcheck:=Qqn d s key v;rw[hc]at hcheck;have HC:=QA hcheck;have hn1:(c == 0)=false:=by simpa using hn
 have hn2:(c != 0)=true:=by simpa using hn
 clear hcheck hc;have hba:Below w.heap.size w (w.alloc (.cells #[.bool d,.int .u64 s,.string key,.string v] 39)):=Qdq (Below.refl _ _) _
 go_enter Tryz.func99,Tryz.ntmps99
 go_wp2_with (go_at_call 56;refine(Qdf.calls 1 _ s key v c _ HC.out).mono ?_;rintro e w1 ⟨rfl,hb1⟩)
 refine bodyPost_ret (results_tmp2 rfl _ _ _) rfl ?_;exact⟨_,rfl,Kd.R_nil _ _ _ _ _,Qdt hba hba.size hb1⟩
theorem Qde.calls(a0_0:Bool)(a0_1:Int)(a0_2:ByteArray)(a0_3:ByteArray)(r1:List Int)(r2:Int)(w:World)(h:Qde.f a0_0 a0_1 a0_2 a0_3=some (r1,r2)) :
  Calls Tryz.prog 99 #[.agg #[.bool a0_0,.int .u64 a0_1,.string a0_2,.string a0_3]] w fun e w'=>∃v0_:Value,e=.returned (.tuple #[v0_,.int .i64 r2])∧Kd.R (Kd.int .u8) 5 w' w.heap.size (fun _=>True) v0_ r1∧Below w.heap.size w w':=by
 unfold Qde.f at h
 by_cases h0:0≤a0_1
 ·by_cases h1:a0_1<18446744073709551616
  ·rw[if_pos h0,if_pos h1]at h
   by_cases h2:chk a0_0 a0_2 a0_3=0
   ·rw[if_pos h2]at h
    cases h
    exact body_of _ _ _ _ w h0 h1 h2
   ·rw[if_neg h2]at h
    cases h
    exact Qqq _ _ _ _ w _ rfl h2
  ·rw[if_pos h0,if_neg h1]at h;cases h
 ·rw[if_neg h0]at h;cases h
theorem Qqr(x:Int):0≤IntKind.u64.wrap x∧IntKind.u64.wrap x<18446744073709551616:=by
 simp[IntKind.wrap,IntKind.signed,IntKind.bits];omega
theorem Qqs(op:BinOp)(x y:Int):0≤Go.bits op .u64 x y∧Go.bits op .u64 x y<18446744073709551616:=by
 unfold Go.bits;split<;>exact Qqr _
theorem Qqt(sd:Int)(l:List Int):0≤Qnk sd l∧Qnk sd l<18446744073709551616:=by
 unfold Qnk sumP finP;split<;>exact Qqs _ _ _
def Qqu(b:List Int):List Int:=Qmb (b++leb (Qnk 0 b) 8)++[0]
theorem Qqv:∀(n:Nat) (b:List Int),b.length≤n→(Qmb b).length≤2*b.length+1
 | n,b,h=>by
  rcases Int.lt_or_le (ixOf (b.take 254) 0) 0 with h0|h0
  ·by_cases hl:254<b.length
   ·rw[Qmf h0 hl];have hd:(b.drop 254).length<b.length:=by rw[List.length_drop];omega
    cases n with
    | zero=>omega
    | succ n =>
     have:=Qqv n (b.drop 254) (by omega);simp only[List.length_cons,List.length_append,List.length_take,List.length_drop]at this ⊢;omega
   ·rw[Qmg h0 hl];simp;omega
  ·obtain⟨p,hp⟩:=Int.eq_ofNat_of_zero_le h0;have h1:=(Qlz (b.take 254) 0).2;rw[hp,List.length_take]at h1;rw[Qme hp]
   cases n with
   | zero=>omega
   | succ n =>
    have:=Qqv n (b.drop (p+1)) qq_18;simp only[List.length_cons,List.length_append,List.length_take,List.length_drop]at this ⊢;omega
theorem R8.reads{W:World}{b:Nat}{v:Value}{xs:List Int}(h:R8 W b v xs):∃A n c,v=.slice A n c∧Aside0 (n=xs.length)∧n≤c∧Kd.C (Kd.int .u8) W A n xs:=by
 obtain⟨A,c,e,h1,h2⟩:=Kd.R_reads h;exact⟨A,_,c,e,⟨rfl⟩,h1,h2⟩
theorem Qqw(A:Option Addr)(n c:Nat)(l:List Int)(w:World)(hC:Kd.C (Kd.int .u8) w A n l)(hc:n≤c)(hl:l.length≤35184372088832) :
  Calls Tryz.prog 152 #[.slice A n c] w fun e w'=>∃v0_:Value,e=.returned (v0_)∧R8 w' w.heap.size v0_ (Qmb l)∧Below w.heap.size w w':=by
 have hn:=hC.1;subst hn;exact Qmh A c l w hC hc hl
theorem Qqx(l:List Int):([]++l++leb (Qnk 0 l) 8).length=l.length+8:=by simp[Qlb]
theorem Qqy(A0:Option Addr)(c0:Nat)(l0:List Int)(w:World)(hr0:Kd.C (Kd.int .u8) w A0 l0.length l0)(hl:l0.length≤35184372088824) :
  Calls Tryz.prog 96 #[.slice A0 l0.length c0] w fun e w'=>∃a:Value,e=.returned (a)∧R8 w' w.heap.size a (Qqu l0)∧Below w.heap.size w w':=by
 have hI0:=QA (IsBuf.new w w.heap.size);have hb0:Below w.heap.size w (w.alloc (.cells #[.slice none 0 0] 167)):=Qdq (Below.refl _ _) _;have hz0:w.heap.size≤(w.alloc (.cells #[.slice none 0 0] 167)).heap.size:=hb0.size;have hC0:=Kd.C_below hr0 hb0;have hh:=Qqt 0 l0
 go_enter Tryz.func96,Tryz.ntmps96
 go_wp2_with (first
  |(go_at_call 150;refine(Qlm w.heap.size w.heap.size A0 c0 l0 [] _ hC0 (Nat.le_refl _) hz0 hI0.out qq_23).mono ?_;rintro e w1 ⟨rfl,hI1,hb1⟩;have hC1:=Kd.C_below hr0 (hb0.trans hb1.1))
  |(go_at_call 101;refine(Qnm 0 A0 c0 l0 w1 hC1 (by omega)).mono ?_;rintro e w2 ⟨rfl,hb2⟩;have hI2:=hI1.kept hb2)
  |(go_at_call 151;refine(Qlk w.heap.size w.heap.size _ _ w2 hh.1 hh.2 (Nat.le_refl _) (Nat.le_trans (Nat.le_trans hz0 hb1.size) hb2.size) hI2 qq_23).mono ?_;rintro e w3 ⟨rfl,hI3,hb3⟩)
  |(go_at_call 97;refine(Qlo w.heap.size w.heap.size _ w3 hI3 (by rw[Qqx];omega)).mono ?_;rintro e w4 ⟨v4,rfl,hR4,hb4⟩;obtain⟨A4,n4,c4,rfl,d,hlc4,hC4⟩:=R8.reads hR4)
  |(go_at_call 152;refine(Qqw A4 n4 c4 _ w4 hC4 hlc4 (by rw[Qqx];omega)).mono ?_;rintro e w5 ⟨v5,rfl,hR5,hb5⟩;have b:=QA hR5;have hz5:w.heap.size≤w5.heap.size:=Nat.le_trans (Nat.le_trans (Nat.le_trans (Nat.le_trans (Nat.le_trans hz0 hb1.size) hb2.size) hb3.size) hb4.size) hb5.size;have hB5:=QA (show Below w.heap.size w w5 from((((hb0.trans hb1.1).trans (Qld hb2 (Nat.le_trans hz0 hb1.size))).trans hb3.1).trans (Qld hb4 (Nat.le_trans (Nat.le_trans (Nat.le_trans hz0 hb1.size) hb2.size) hb3.size))).trans (Qld hb5 (Nat.le_trans (Nat.le_trans (Nat.le_trans (Nat.le_trans hz0 hb1.size) hb2.size) hb3.size) hb4.size)));clear hR5)
  |(at_builtin;refine Kd.R_append (Kd.int .u8) (w0:=w) w.heap.size rfl (.tmp 10) (.tmp 11) 52 5 (.int .u8 0) 1 rfl Tryz.underlying52 Qkb rfl (by decide) (by omega) v5 (Qmb ([]++l0++leb (Qnk 0 l0) 8)) 0 [.int .u8 0] (fun _=>True) (fun _=>False) rfl ?ax ?aP (fun _ hk=>hk.elim) ?aF ?aO ?aB ?aS ?aL ?_;(case ax=>rfl);(case aP=>rfl);(case aF=>exact fun _ _=>trivial);(case aO=>exact b.out.low (Nat.le_trans (Nat.le_trans (Nat.le_trans (Nat.le_trans hz0 hb1.size) hb2.size) hb3.size) hb4.size));(case aB=>exact hB5.out);(case aS=>exact hz5);(case aL=>have:=Qqv _ ([]++l0++leb (Qnk 0 l0) 8) (Nat.le_refl _);rw[Qqx]at this;omega);intro v6 w6 c hb6 g hat6))
 go_ret
 exact⟨v6,rfl,c,hb6⟩
def Qcr.f(l0:List Int):Option (List Int):=if l0.length≤35184372088824 then some (Qqu l0)else none
theorem Qcr.calls(A0:Option Addr)(c0:Nat)(l0:List Int)(r:List Int)(w:World)(hr0:Kd.C (Kd.int .u8) w A0 l0.length l0)(hc0:l0.length≤c0)(h:Qcr.f l0=some r) :
  Calls Tryz.prog 96 #[.slice A0 l0.length c0] w fun e w'=>∃v0_:Value,e=.returned (v0_)∧Kd.R (Kd.int .u8) 5 w' w.heap.size (fun _=>True) v0_ r∧Below w.heap.size w w':=by
 unfold Qcr.f at h
 by_cases hl:l0.length≤35184372088824
 ·rw[if_pos hl]at h
  cases h
  exact Qqy A0 c0 l0 w hr0 hl
 ·rw[if_neg hl]at h;cases h
def Qqz(e s n:Int):List Int:=Qqu ([1,2,e]++vput 9 s++vput 9 n)
def Qcp.f(a0_0 a0_1 a1:Int):Option (List Int × Int) :=
 (Qct.f a0_0 a0_1 a1).bind fun e=>if e=0 then(if 0≤a0_0∧a0_0<256∧0≤a0_1∧a0_1<4294967296∧0≤a1∧a1<4294967296 then some (Qqz a0_0 a0_1 a1,0)else none)else some ([],e)
theorem Qra(A:Option Addr)(n c:Nat)(l:List Int)(w:World)(hC:Kd.C (Kd.int .u8) w A n l)(hl:l.length≤35184372088824) :
  Calls Tryz.prog 96 #[.slice A n c] w fun e w'=>∃v0_:Value,e=.returned (v0_)∧R8 w' w.heap.size v0_ (Qqu l)∧Below w.heap.size w w':=by
 have hn:=hC.1;subst hn;exact Qqy A c l w hC hl
theorem box2{W:World}{B:Nat}{e s:Int}(h:W.heap[B]? = some (.cells #[.int .u8 e,.int .u32 s] 27 (0,0))):W.cell? ⟨B,0,none⟩=some (.int .u8 e)∧W.cell? ⟨B,1,none⟩=some (.int .u32 s) :=
 ⟨(Qeo h 0).trans rfl,(Qeo h 1).trans rfl⟩
theorem head_of(e s n:Int)(w:World)(hc:Qct.f e s n=some 0)(he0:0≤e)(he1:e<256)(hs0:0≤s)(hs1:s<4294967296)(b:0≤n)(d:n<4294967296) :
  Calls Tryz.prog 53 #[.agg #[.int .u8 e,.int .u32 s],.int .u32 n] w fun ee w'=>∃a:Value,ee=.returned (.tuple #[a,.int .i64 0])∧R8 w' w.heap.size a (Qqz e s n)∧Below w.heap.size w w':=by
 have hu:=Tryz.underlying27;have hl1:=Qmj 9 s;have hl2:=Qmj 9 n;have HC:=QA hc;clear hc;have hba:Below w.heap.size w (w.alloc (.cells #[.int .u8 e,.int .u32 s] 27)):=Qdq (Below.refl _ _) _;have hbn:=Qfe w (.cells #[.int .u8 e,.int .u32 s] 27)
 go_enter Tryz.func53,Tryz.ntmps53
 go_wp2_with (first
  |(go_at_call 93;refine(Qct.calls e s n 0 _ HC.out).mono ?_;rintro ee w1 ⟨rfl,hb1⟩;have hk1:=Qfd hbn hb1;have hw1:=QA (Qdt hba hba.size hb1);have hs1':=QA (show w.heap.size<w1.heap.size from Qen hk1);have HI1:=QA (IsBuf.new w1 w.heap.size);have hk1':=Qfa hk1 (.cells #[.slice none 0 0] 167);obtain⟨c0,c1⟩:=box2 hk1';clear hk1 hb1 hbn hba))
 obtain⟨W,hW⟩:∃W,W=w1.alloc (.cells #[.slice none 0 0] 167):=⟨_,rfl⟩;have hbW:Below w1.heap.size w1 W:=by rw[hW];exact Qdq (Below.refl _ _) _
 rw[← hW]at hk1' c0 c1 HI1 ⊢;clear hW;have hkd:=Qfd hk1' (Qdr (Below.refl W.heap.size W));have hId:=HI1.out.kept (Qdr (Below.refl W.heap.size W));obtain⟨j0,j1⟩:=box2 hkd;have hg:=Nat.le_of_lt hs1'.out;have hzd:w.heap.size≤W.drew.heap.size:=Nat.le_trans hg hbW.size;have hne:=Nat.ne_of_lt hs1'.out
 go_region_held3 (fun w'=>w'.cell? ⟨w.heap.size,0,none⟩=some (.int .u8 e)∧w'.cell? ⟨w.heap.size,1,none⟩=some (.int .u32 s)) (first|exact⟨j0,j1⟩|exact⟨i0,i1⟩|exact⟨i2,i3⟩|exact⟨i4,i5⟩) (first
  |(go_at_call_of 94 (Value.int .u8 1);refine(Qlh w.heap.size w1.heap.size 1 [] W.drew (by decide) (by decide) hg hzd hId (by simp)).mono ?_;rintro ee w2 ⟨rfl,hI2,hb2⟩;have hk2:=hb2.2 _ _ _ hkd (by decide) hne;obtain⟨i0,i1⟩:=box2 hk2)
  |(go_at_call_of 94 (Value.int .u8 2);refine(Qlh w.heap.size w1.heap.size 2 ([]++[1]) w2 (by decide) (by decide) hg (Nat.le_trans hzd hb2.size) hI2 (by simp)).mono ?_;rintro ee w3 ⟨rfl,hI3,hb3⟩;have hk3:=hb3.2 _ _ _ hk2 (by decide) hne;obtain⟨i2,i3⟩:=box2 hk3)
  |(go_at_call_of 94 (Value.int .u8 e);refine(Qlh w.heap.size w1.heap.size e ([]++[1]++[2]) w3 he0 he1 hg (Nat.le_trans (Nat.le_trans hzd hb2.size) hb3.size) hI3 (by simp)).mono ?_;rintro ee w4 ⟨rfl,hI4,hb4⟩;have hk4:=hb4.2 _ _ _ hk3 (by decide) hne;obtain⟨i4,i5⟩:=box2 hk4))
 have hz4:w.heap.size≤w4.heap.size:=Nat.le_trans (Nat.le_trans (Nat.le_trans hzd hb2.size) hb3.size) hb4.size;have c:=QA (show Below w.heap.size w w4 from((((hw1.out.trans (Qld hbW hg)).trans (Qld (Qdr (Below.refl W.heap.size W)) (Nat.le_trans hg hbW.size))).trans hb2.1).trans hb3.1).trans hb4.1);clear i0 i1 i2 i3 j0 j1 hk2 hk3 hb2 hb3 hb4 hI2 hI3 hkd hId
 go_wp2_with (first
  |(go_at_call_of 95 (Value.int .u64 s);refine(Qmk w.heap.size w1.heap.size s _ w4 hs0 (by omega) hg hz4 hI4 (by simp)).mono ?_;rintro ee w5 ⟨⟨_,rfl⟩,hI5,hb5⟩)
  |(go_at_call_of 95 (Value.int .u64 n);refine(Qmk w.heap.size w1.heap.size n _ w5 b (by omega) hg (Nat.le_trans hz4 hb5.size) hI5 qq_23).mono ?_;rintro ee w6 ⟨⟨_,rfl⟩,hI6,hb6⟩)
  |(go_at_call 97;refine(Qlo w.heap.size w1.heap.size _ w6 hI6 qq_23).mono ?_;rintro ee w7 ⟨v7,rfl,hR7,hb7⟩;obtain⟨A7,n7,c7,rfl,g,hlc7,hC7⟩:=R8.reads hR7)
  |(go_at_call 96;refine(Qra A7 n7 c7 _ w7 hC7 qq_23).mono ?_;rintro ee w8 ⟨v8,rfl,hR8,hb8⟩))
 refine bodyPost_ret (results_tmp2 rfl _ _ _) rfl ?_;have hz6:w.heap.size≤w6.heap.size:=Nat.le_trans (Nat.le_trans hz4 hb5.size) hb6.size;have hz7:w.heap.size≤w7.heap.size:=Nat.le_trans hz6 hb7.size;exact⟨v8,rfl,R8.low hR8 hz7,(((c.out.trans hb5.1).trans hb6.1).trans (Qld hb7 hz6)).trans (Qld hb8 hz7)⟩
theorem Qrb(e s n c:Int)(w:World)(hc:Qct.f e s n=some c)(hn:c≠0) :
  Calls Tryz.prog 53 #[.agg #[.int .u8 e,.int .u32 s],.int .u32 n] w fun ee w'=>∃v0_:Value,ee=.returned (.tuple #[v0_,.int .i64 c])∧R8 w' w.heap.size v0_ []∧Below w.heap.size w w':=by
 have hu:=Tryz.underlying27;have HC:=QA hc;clear hc;have hn1:(c == 0)=false:=by simpa using hn
 have hn2:(c != 0)=true:=by simpa using hn
 have hba:Below w.heap.size w (w.alloc (.cells #[.int .u8 e,.int .u32 s] 27)):=Qdq (Below.refl _ _) _
 go_enter Tryz.func53,Tryz.ntmps53
 go_wp2_with (go_at_call 93;refine(Qct.calls e s n c _ HC.out).mono ?_;rintro ee w1 ⟨rfl,hb1⟩)
 refine bodyPost_ret (results_tmp2 rfl _ _ _) rfl ?_;exact⟨_,rfl,Kd.R_nil _ _ _ _ _,Qdt hba hba.size hb1⟩
theorem Qcp.calls(a0_0 a0_1 a1:Int)(r1:List Int)(r2:Int)(w:World)(h:Qcp.f a0_0 a0_1 a1=some (r1,r2)) :
  Calls Tryz.prog 53 #[.agg #[.int .u8 a0_0,.int .u32 a0_1],.int .u32 a1] w fun e w'=>∃v0_:Value,e=.returned (.tuple #[v0_,.int .i64 r2])∧Kd.R (Kd.int .u8) 5 w' w.heap.size (fun _=>True) v0_ r1∧Below w.heap.size w w':=by
 unfold Qcp.f at h;obtain⟨c,hc,h⟩:=Option.bind_eq_some_iff.mp h
 by_cases h0:c=0
 ·subst h0;rw[if_pos rfl]at h
  by_cases h1:0≤a0_0∧a0_0<256∧0≤a0_1∧a0_1<4294967296∧0≤a1∧a1<4294967296
  ·rw[if_pos h1]at h
   cases h
   exact head_of _ _ _ w hc h1.1 h1.2.1 h1.2.2.1 h1.2.2.2.1 h1.2.2.2.2.1 h1.2.2.2.2.2
  ·rw[if_neg h1]at h;cases h
 ·rw[if_neg h0]at h
  cases h
  exact Qrb _ _ _ _ w hc h0
end Go.Proofs.YtnnofopfbeklbaaGreat.C
end
