/- Merged texts. -/
import Derived.Test.YteaocbonofboeaaGreatMA02
import Derived.WalkLawsBesides
import Derived.Recover
import Derived.Defers
import Derived.Test.YteaocbonofboeaaGreatMA06
import Derived.Test.YteaocbonofboeaaGreatMA07
import Derived.Test.YteaocbonofboeaaGreatMA03
set_option linter.unusedVariables false
set_option linter.unusedSimpArgs false
set_option maxHeartbeats 8000000
set_option maxRecDepth 100000
section
namespace Go.Proofs.YteaocbonofboeaaGreat.C
open Go.RowKit Go.Proofs.YteaocbonofboeaaGreatW.PrintWords Go.Proofs.YteaocbonofboeaaGreatW.PrintLast Go.Proofs.YteaocbonofboeaaGreatW.PrintMore
def Tl(lo g:Nat)(w w':World):Prop:=∀k cs t,lo≤k→w.heap[k]? = some (.cells cs t (0,0))→t≠5→k≠g→w'.heap[k]? = some (.cells cs t (0,0))
def Ty(W W':World):Prop:=∀(k:Nat) (cs:Array Value) (t:TypeId),W.heap[k]? = some (.cells cs t (0,0))→t≠3→t≠31→t≠300→W'.heap[k]? = some (.cells cs t (0,0))
theorem Ty.set{W W1:World}(h:Ty W W1){p:Addr}{cs:Array Value}{t:TypeId}(hp:W1.heap[p.block]? = some (.cells cs t (0,0)))(ht:t=3∨t=31∨t=300)(u:Value):Ty W (W1.setCell p u):=fun k cs' t' h1 h2 h3 h4 =>
 Qeg (h k cs' t' h1 h2 h3 h4) (p:=p) (Qel (h k cs' t' h1 h2 h3 h4) hp (by rcases ht with rfl|rfl|rfl;exact h2;exact h3;exact h4)) u
theorem Ty.refl(W:World):Ty W W:=fun _ _ _ h _ _ _=>h
theorem Ty.alloc{W W1:World}(h:Ty W W1)(o:Obj):Ty W (W1.alloc o):=fun k cs t h1 h2 h3 h4=>Qeu (h k cs t h1 h2 h3 h4) o
theorem Qsz(tmps:Array Value)(W:World)(ba be:Nat)(i er:Int)(h4:tmps[4]? = some (.pointer (some ⟨ba,0,none⟩)))(h5:tmps[5]? = some (.pointer (some ⟨be,0,none⟩)))
  (c4:W.heap[ba]? = some (.cells #[.int .i64 i] 3 (0,0))) (c5:W.heap[be]? = some (.cells #[.int .i64 er] 31 (0,0))) :
  (results Tryz.f169 tmps).run Tryz.prog W=.ok (.tuple #[.int .i64 i,.int .i64 er]) W:=by
 have hr:Tryz.f169.results=#[.cell 4 3,.cell 5 31]:=rfl;have d4:W.cell? ⟨ba,0,none⟩=some (.int .i64 i):=(Qei c4 0).trans rfl;have d5:W.cell? ⟨be,0,none⟩=some (.int .i64 er):=(Qei c5 0).trans rfl;have hu1:=Tryz.underlying3;have hu2:=Tryz.underlying31;simp[results,hr,h4,h5,go_sem,loadVar,d4,d5,c4,c5]
theorem Qta(F:Nat)(cap:Array Value)(A0:Option Addr)(c0:Nat)(l0:List Int)(w:World)(hr0:Kd.C (Kd.int .u8) w A0 l0.length l0)(hl:l0.length≤140737488355328)
  (hcf:∀(as_:Array Value) (W:World),(callFunc F as_).run Tryz.prog W=.ok (.enter F as_) W)
  (Post:Int→Int→World→Prop) (hst:∀er i W W',Post er i W→Below w.heap.size W W'→Ty W W'→Post er i W')
  (hrd:∀(W:World) (g:Nat),w.heap.size≤g→Below w.heap.size w W→IsCur W w.heap.size g l0 0→Calls Tryz.prog F (#[.pointer (some ⟨g,0,none⟩)]++cap) W fun e W'=>∃i,IsCur W' w.heap.size g l0 i∧Tl w.heap.size g W W' ∧
   ((e=.returned (.tuple #[])∧Post 0 i W')∨∃er,e=.panicked [Qop g er]∧Post er i W')) :
  Calls Tryz.prog 169 #[.slice A0 l0.length c0,.func (.func F) #[] cap] w fun e w'=>∃er i,e=.returned (.tuple #[.int .i64 i,.int .i64 er])∧Post er i w':=by
 have hu:=Tryz.underlying300;have a:=QA hr0;have HRD:=QA @hrd;have HST:=QA @hst;have hmf:∀(fn:Fn) (first cap:Array Value) (w:World),(Instr.makeFunc fn first cap).run Tryz.prog w=.ok (.func fn first cap) w:=fun _ _ _ _=>rfl
 have hnil:∀W:World,(binOp .eql 256 (.func (.func F) #[] cap) .nilFunc).run Tryz.prog W=.ok (.bool false) W:=fun W=>by kernel_rfl
 clear hr0 hrd hst
 go_enter_defers Tryz.func169,Tryz.ntmps169
 go_upto_region 5 with(go_at_call 72;refine(Qks A0 c0 l0 _ (Kd.C_below a.out (Qdj (Qdj (Below.refl _ _) _) _)) hl).mono ?_;rintro ee w3 ⟨vb,rfl,hR,hb⟩;obtain⟨A,c,hv⟩:=Kd.R_slice hR;subst hv)
 have b0:Below w.heap.size w ((w.alloc (.cells #[.int .i64 0] 3)).alloc (.cells #[.int .i64 0] 31)):=Qdj (Qdj (Below.refl _ _) _) _;have e0:((w.alloc (.cells #[.int .i64 0] 3)).alloc (.cells #[.int .i64 0] 31)).heap.size=w.heap.size+2:=by simp[World.size_alloc]
 have ka:=Qex (Qeu (Qey w (.cells #[.int .i64 0] 3)) (.cells #[.int .i64 0] 31)) hb;have ke:=Qex (Qey (w.alloc (.cells #[.int .i64 0] 3)) (.cells #[.int .i64 0] 31)) hb;rw[World.size_alloc]at ke;have b3:Below w.heap.size w w3:=b0.trans (Qkr hb b0.size);have hs3:w.heap.size+2≤w3.heap.size:=by have:=hb.size;omega
 have kc:=Qeu (Qey w3 (.cells #[.slice A l0.length c,.int .i64 0,.bool true] 300)) (.cells #[.pointer (some ⟨w3.heap.size,0,none⟩)] 255);have kp:=Qey (w3.alloc (.cells #[.slice A l0.length c,.int .i64 0,.bool true] 300)) (.cells #[.pointer (some ⟨w3.heap.size,0,none⟩)] 255);rw[World.size_alloc]at kp;have ka5:=Qeu (Qeu ka (.cells #[.slice A l0.length c,.int .i64 0,.bool true] 300)) (.cells #[.pointer (some ⟨w3.heap.size,0,none⟩)] 255);have ke5:=Qeu (Qeu ke (.cells #[.slice A l0.length c,.int .i64 0,.bool true] 300)) (.cells #[.pointer (some ⟨w3.heap.size,0,none⟩)] 255);have b5:Below w.heap.size w ((w3.alloc (.cells #[.slice A l0.length c,.int .i64 0,.bool true] 300)).alloc (.cells #[.pointer (some ⟨w3.heap.size,0,none⟩)] 255)):=b3.trans (Qkr (Qdj (Qdj (Below.refl _ _) _) _) b3.size);have hI5:IsCur ((w3.alloc (.cells #[.slice A l0.length c,.int .i64 0,.bool true] 300)).alloc (.cells #[.pointer (some ⟨w3.heap.size,0,none⟩)] 255)) w.heap.size w3.heap.size l0 0:=⟨_,kc,R8.low (R8.kept (R8.kept hR (Qdj (Below.refl _ _) _)) (Qdj (Below.refl _ _) _)) (by rw[e0];omega)⟩;generalize hW5:((w3.alloc (.cells #[.slice A l0.length c,.int .i64 0,.bool true] 300)).alloc (.cells #[.pointer (some ⟨w3.heap.size,0,none⟩)] 255))=W5 at *;have HI5:=QA hI5;have b:=QA b5;have p0:W5.cell? ⟨w3.heap.size+1,0,none⟩=some (.pointer (some ⟨w3.heap.size,0,none⟩)):=(Qei kp 0).trans rfl;clear hI5 b5 hW5 ka ke b0 e0 hb hR;have ha2:w.heap.size≠w3.heap.size:=by omega
 have he2:w.heap.size+1≠w3.heap.size:=by omega
 have hea:w.heap.size+1≠w.heap.size:=by omega
 have hcg:w3.heap.size+1≠w3.heap.size:=by omega
 go_wp2_with (refine(HRD.out W5 w3.heap.size (by omega) b.out HI5.out).mono ?_;rintro ee w6 ⟨i,hI6,hT6,⟨rfl,hp6⟩ |⟨er,rfl,hp6⟩⟩<;>(obtain⟨v6,kg6,hR6⟩:=hI6;have ka6:=hT6 _ _ _ (by omega) ka5 (by decide) ha2;have ke6:=hT6 _ _ _ (by omega) ke5 (by decide) he2;have kp6:=hT6 _ _ _ (by omega) kp (by decide) hcg;have q0:w6.cell? ⟨w3.heap.size+1,0,none⟩=some (.pointer (some ⟨w3.heap.size,0,none⟩)):=(Qei kp6 0).trans rfl;have q1:w6.cell? ⟨w3.heap.size,1,none⟩=some (.int .i64 i):=(Qei kg6 1).trans rfl;have q2:w6.frozen? ⟨w.heap.size,0,none⟩=false:=Qej ka6 0;have q3:w6.cell? ⟨w.heap.size,0,none⟩=some (.int .i64 0):=(Qei ka6 0).trans rfl;have ke7:=Qeg ke6 (p:=⟨w.heap.size,0,none⟩) hea (.int .i64 i);have q4:(w6.setCell ⟨w.heap.size,0,none⟩ (.int .i64 i)).frozen? ⟨w.heap.size+1,0,none⟩=false:=Qej ke7 0;have q5:(w6.setCell ⟨w.heap.size,0,none⟩ (.int .i64 i)).cell? ⟨w.heap.size+1,0,none⟩=some (.int .i64 0):=(Qei ke7 0).trans rfl))
 ·have bc8:=Qeg (Qeg kp6 (p:=⟨w.heap.size,0,none⟩) (show w3.heap.size+1≠w.heap.size by omega) (.int .i64 i)) (p:=⟨w.heap.size+1,0,none⟩) (show w3.heap.size+1≠w.heap.size+1 by omega) (.int .i64 0);have g8:=Qeg (Qeg kg6 (p:=⟨w.heap.size,0,none⟩) (show w3.heap.size≠w.heap.size by omega) (.int .i64 i)) (p:=⟨w.heap.size+1,0,none⟩) (show w3.heap.size≠w.heap.size+1 by omega) (.int .i64 0);have ba8:=Qeg (Qef ka6 0 (.int .i64 i)) (p:=⟨w.heap.size+1,0,none⟩) (show w.heap.size≠w.heap.size+1 by omega) (.int .i64 0);have be8:=Qef ke7 0 (.int .i64 0);have ba9:=Qef (Qeg ba8 (p:=⟨w3.heap.size,2,none⟩) ha2 (.bool false)) 0 (.int .i64 i);have be9:=Qeg (Qeg be8 (p:=⟨w3.heap.size,2,none⟩) he2 (.bool false)) (p:=⟨w.heap.size,0,none⟩) hea (.int .i64 i);have bl:Below w.heap.size w6 (((((w6.setCell ⟨w.heap.size,0,none⟩ (.int .i64 i)).setCell ⟨w.heap.size+1,0,none⟩ (.int .i64 0)).setCell ⟨w3.heap.size,2,none⟩ (.bool false)).setCell ⟨w.heap.size,0,none⟩ (.int .i64 i))) :=
   Qkq (Qkq (Qkq (Qkq (Below.refl _ _) (Nat.le_refl _)) (Nat.le_succ _)) (by omega)) (Nat.le_refl _)
  have bt:Ty w6 (((((w6.setCell ⟨w.heap.size,0,none⟩ (.int .i64 i)).setCell ⟨w.heap.size+1,0,none⟩ (.int .i64 0)).setCell ⟨w3.heap.size,2,none⟩ (.bool false)).setCell ⟨w.heap.size,0,none⟩ (.int .i64 i))) :=
   ((((Ty.refl w6).set ka6 (.inl rfl) _).set ke7 (.inr (.inl rfl)) _).set g8 (.inr (.inr rfl)) _).set (Qeg ba8 (p:=⟨w3.heap.size,2,none⟩) ha2 (.bool false)) (.inl rfl) _
  refine leaves_cons (f:=218) (args:=#[.pointer (some ⟨w3.heap.size+1,0,none⟩),.pointer (some ⟨w.heap.size,0,none⟩),.pointer (some ⟨w.heap.size+1,0,none⟩)]) (by simp) (by simp[go_sem]) ?_;refine(Qsx w3.heap.size w.heap.size (w.heap.size+1) (w3.heap.size+1) i i v6 _ bc8 g8 ba8).mono ?_;rintro e u' w'' ⟨rfl,rfl,rfl⟩;show Leaves _ _ _ _ [] .returning _;exact⟨_,Qsz _ _ _ _ i 0 rfl rfl ba9 be9,0,i,rfl,HST.out _ _ _ _ hp6 bl bt⟩
 ·have ba9:=Qeg (Qeu (Qef (Qeg ka6 (p:=⟨w3.heap.size,2,none⟩) ha2 (.bool false)) 0 (.int .i64 i)) (.cells #[.pointer (some ⟨w3.heap.size,0,none⟩),.int .i64 er] 302)) (p:=⟨w.heap.size+1,0,none⟩) (show w.heap.size≠w.heap.size+1 by omega) (.int .i64 er);have be9:=Qef (Qeu (Qeg (Qeg ke6 (p:=⟨w3.heap.size,2,none⟩) he2 (.bool false)) (p:=⟨w.heap.size,0,none⟩) hea (.int .i64 i)) (.cells #[.pointer (some ⟨w3.heap.size,0,none⟩),.int .i64 er] 302)) 0 (.int .i64 er);have s6:w.heap.size≤w6.heap.size:=Nat.le_of_lt (Qeh ka6);have b1:Below w.heap.size w6 ((w6.setCell ⟨w3.heap.size,2,none⟩ (.bool false)).setCell ⟨w.heap.size,0,none⟩ (.int .i64 i)):=Qkq (Qkq (Below.refl _ _) (by omega)) (Nat.le_refl _);have bl:Below w.heap.size w6 ((((w6.setCell ⟨w3.heap.size,2,none⟩ (.bool false)).setCell ⟨w.heap.size,0,none⟩ (.int .i64 i)).alloc (.cells #[.pointer (some ⟨w3.heap.size,0,none⟩),.int .i64 er] 302)).setCell ⟨w.heap.size+1,0,none⟩ (.int .i64 er)) :=
   Qkq (b1.trans (Qkr (Qdj (Below.refl _ _) _) (Nat.le_trans s6 b1.size))) (Nat.le_succ _)
  have bt:Ty w6 ((((w6.setCell ⟨w3.heap.size,2,none⟩ (.bool false)).setCell ⟨w.heap.size,0,none⟩ (.int .i64 i)).alloc (.cells #[.pointer (some ⟨w3.heap.size,0,none⟩),.int .i64 er] 302)).setCell ⟨w.heap.size+1,0,none⟩ (.int .i64 er)) :=
   ((((Ty.refl w6).set kg6 (.inr (.inr rfl)) _).set (Qeg ka6 (p:=⟨w3.heap.size,2,none⟩) ha2 (.bool false)) (.inl rfl) _).alloc _).set (Qeu (Qeg (Qeg ke6 (p:=⟨w3.heap.size,2,none⟩) he2 (.bool false)) (p:=⟨w.heap.size,0,none⟩) hea (.int .i64 i)) _) (.inr (.inl rfl)) _
  refine leaves_cons (f:=218) (args:=#[.pointer (some ⟨w3.heap.size+1,0,none⟩),.pointer (some ⟨w.heap.size,0,none⟩),.pointer (some ⟨w.heap.size+1,0,none⟩)]) (by simp) (by simp[go_sem]) ?_;refine(Qsy w3.heap.size w.heap.size (w.heap.size+1) (w3.heap.size+1) i 0 0 er v6 _ kp6 kg6 ka6 ke6).mono ?_;rintro e u' w'' ⟨rfl,rfl,rfl⟩;show Leaves _ _ _ _ [] .returning _;exact⟨_,Qsz _ _ _ _ i er rfl rfl ba9 be9,er,i,rfl,HST.out _ _ _ _ hp6 bl bt⟩
theorem Qtb(F:Nat)(cap:Array Value)(A0:Option Addr)(c0:Nat)(l0:List Int)(w:World)(hr0:Kd.C (Kd.int .u8) w A0 l0.length l0)(hl:l0.length≤140737488355328)
  (hcf:∀(as_:Array Value) (W:World),(callFunc F as_).run Tryz.prog W=.ok (.enter F as_) W)
  (Post:Int→Int→World→Prop) (hst:∀er i W W',Post er i W→Below w.heap.size W W'→Post er i W')
  (hrd:∀(W:World) (g:Nat),w.heap.size≤g→Below w.heap.size w W→IsCur W w.heap.size g l0 0→Calls Tryz.prog F (#[.pointer (some ⟨g,0,none⟩)]++cap) W fun e W'=>∃i,IsCur W' w.heap.size g l0 i∧Tl w.heap.size g W W' ∧
   ((e=.returned (.tuple #[])∧Post 0 i W')∨∃er,e=.panicked [Qop g er]∧Post er i W')) :
  Calls Tryz.prog 169 #[.slice A0 l0.length c0,.func (.func F) #[] cap] w fun e w'=>∃er i,e=.returned (.tuple #[.int .i64 i,.int .i64 er])∧Post er i w' :=
 Qta F cap A0 c0 l0 w hr0 hl hcf Post (fun er i W W' h1 h2 _=>hst er i W W' h1 h2) hrd
def hitE(F T x:Int):Bool:=decide (F≤x) && decide (x<T)
def hitL(F T:Int)(l:List S158):Bool:=l.any (fun e=>hitE F T e.f0)
theorem hit1_calls(x y f t:Int)(fb tb:Nat)(w:World)(hf:w.cell? ⟨fb,0,none⟩=some (.int .i64 f))(ht:w.cell? ⟨tb,0,none⟩=some (.int .i64 t)) :
  Calls Tryz.prog 85 #[.agg #[.int .u64 x,.int .u8 y],.pointer (some ⟨fb,0,none⟩),.pointer (some ⟨tb,0,none⟩)] w fun e w'=>e=.returned (.bool (hitE (IntKind.u64.wrap f) (IntKind.u64.wrap t) x))∧Below w.heap.size w w':=by
 have hu:=Tryz.underlying158;have hb0:Below w.heap.size w (w.alloc (.cells #[.int .u64 x,.int .u8 y] 158)):=Qdj (Below.refl _ _) _;have bn:=Qey w (.cells #[.int .u64 x,.int .u8 y] 158);have c0:(w.alloc (.cells #[.int .u64 x,.int .u8 y] 158)).cell? ⟨w.heap.size,0,none⟩=some (.int .u64 x):=(Qei bn 0).trans rfl;have c1:(w.alloc (.cells #[.int .u64 x,.int .u8 y] 158)).cell? ⟨w.heap.size,1,none⟩=some (.int .u8 y):=(Qei bn 1).trans rfl;have hf':=(hb0.cell (World.block_lt_of_cell? _ _ hf)).trans hf;have ht':=(hb0.cell (World.block_lt_of_cell? _ _ ht)).trans ht;have HB:=QA hb0;clear hf ht hb0 bn;obtain⟨F,hF⟩:∃F,IntKind.u64.wrap f=F:=⟨_,rfl⟩;obtain⟨T,hT⟩:∃T,IntKind.u64.wrap t=T:=⟨_,rfl⟩;rw[hF,hT]
 by_cases h1:F≤x
 ·have c2:decide (F≤x)=true:=decide_eq_true h1
  by_cases h2:x<T
  ·have c3:decide (x<T)=true:=decide_eq_true h2
   go_enter Tryz.func85,Tryz.ntmps85
   go_wp2;go_ret
   exact⟨by simp[hitE,c2,c3],HB.out⟩
  ·have c3:decide (x<T)=false:=decide_eq_false h2
   go_enter Tryz.func85,Tryz.ntmps85
   go_wp2;go_ret
   exact⟨by simp[hitE,c2,c3],HB.out⟩
 ·have c2:decide (F≤x)=false:=decide_eq_false h1
  go_enter Tryz.func85,Tryz.ntmps85
  go_wp2;go_ret
  exact⟨by simp[hitE,c2],HB.out⟩
theorem idxE_of(A:Option Addr)(c:Nat)(l:List S158)(f t:Int)(fb tb:Nat)(w:World)(hr:Kd.C k158 w A l.length l)(hl:l.length≤140737488355328)(hf:w.cell? ⟨fb,0,none⟩=some (.int .i64 f))(ht:w.cell? ⟨tb,0,none⟩=some (.int .i64 t)) :
  Calls Tryz.prog 137 #[.slice A l.length c,.func (.func 85) #[] #[.pointer (some ⟨fb,0,none⟩),.pointer (some ⟨tb,0,none⟩)]] w fun e w'=>∃r,e=.returned (.int .i64 r)∧decide (0≤r)=hitL (IntKind.u64.wrap f) (IntKind.u64.wrap t) l∧Below w.heap.size w w':=by
 have hu:=Tryz.underlying158;have HR:=QA hr;have HF:=QA hf;have HT:=QA ht;have d:=QA (Below.refl w.heap.size w);clear hr hf ht;obtain⟨F,hF⟩:∃F,IntKind.u64.wrap f=F:=⟨_,rfl⟩;obtain⟨T,hT⟩:∃T,IntKind.u64.wrap t=T:=⟨_,rfl⟩;rw[hF,hT];have HFF:=QA hF;have HTT:=QA hT;clear hF hT
 go_enter Tryz.func137,Tryz.ntmps137
 go_wp2
 go_loopw [5,8] (fun v5 v8 wr=>∃(j:Nat) (iv:Int),j≤l.length∧v8=.int .i64 iv∧Aside0 (iv=(j:Int))∧Aside0 (hitL F T (l.take j)=false)∧Aside0 (Below w.heap.size w wr))
  (fun _ v8 _=>l.length-(intOf v8).toNat)
 case atStart=>exact⟨0,0,Nat.zero_le _,rfl,⟨rfl⟩,⟨rfl⟩,d⟩
 case round =>
  clear d;obtain⟨j,iv,hj,rfl,HJ,HA,HB⟩:=hrel
  by_cases hlt:j<l.length
  ·have hlt2:iv<(l.length:Int):=by have:=HJ.out;omega
   have hge:0≤iv:=by have:=HJ.out;omega
   have hwi:IntKind.i64.wrap (iv+1)=iv+1:=IntWalk.i64_in _ (by omega);obtain⟨ad,hA,a,b⟩:=Qko HR.out iv hge hlt2;subst hA;replace a:=(HB.out.cell (World.block_lt_of_cell? _ _ a)).trans a;replace b:=(HB.out.cell (World.block_lt_of_cell? _ _ b)).trans b;obtain⟨q,hq⟩:∃q,q=Qkn l iv:=⟨_,rfl⟩;rw[← hq]at a b;have ht2:l.take (j+1)=l.take j++[q]:=by
    rw[hq,HJ.out,List.take_succ_eq_append_getElem hlt]
    congr 1
    simp[Qkn,List.getD,List.getElem?_eq_getElem hlt]
   have HQ:=QA ht2;clear ht2 hq;obtain⟨b5,hb5⟩:∃b5,b5=hitE F T q.f0:=⟨_,rfl⟩;have HC:∀W,Below w.heap.size w W→Calls Tryz.prog 85 #[.agg #[.int .u64 q.f0,.int .u8 q.f1],.pointer (some ⟨fb,0,none⟩),.pointer (some ⟨tb,0,none⟩)] W fun e w'=>e=.returned (.bool b5)∧Below W.heap.size W w':=fun W hW=>by
    have:=hit1_calls q.f0 q.f1 f t fb tb W ((hW.cell (World.block_lt_of_cell? _ _ HF.out)).trans HF.out) ((hW.cell (World.block_lt_of_cell? _ _ HT.out)).trans HT.out);rw[HFF.out,HTT.out,← hb5]at this;exact this
   have HCC:=QA HC;have g:=QA hb5;clear HC hb5
   cases b5 with
   | false =>
    go_wp2_with (go_at_call 85;refine(HCC.out _ HB.out).mono ?_;rintro ee w1 ⟨rfl,hb1⟩)
    go_roundw
    case rel=>exact⟨j+1,iv+1,hlt,rfl,⟨by have:=HJ.out;omega⟩,⟨by rw[HQ.out];have h9:=HA.out;unfold hitL at h9 ⊢;rw[List.any_append,h9,Bool.false_or];simp[← g.out]⟩,⟨Qdm HB.out HB.out.size hb1⟩⟩
    case measure=>have:=HJ.out;simp[intOf];omega
   | true =>
    go_wp2_with (go_at_call 85;refine(HCC.out _ HB.out).mono ?_;rintro ee w1 ⟨rfl,hb1⟩)
    go_ret
    refine⟨_,rfl,?_,Qdm HB.out HB.out.size hb1⟩;rw[decide_eq_true hge];have hm:q∈l:=by
     have:q∈l.take (j+1):=by rw[HQ.out];simp
     exact List.mem_of_mem_take this
    have:hitL F T l=true:=by
     unfold hitL;rw[List.any_eq_true];exact⟨q,hm,g.out.symm⟩
    rw[this]
  ·obtain rfl:j=l.length:=by omega
   have e1:iv=(l.length:Int):=HJ.out;subst e1;go_wp2;go_ret
   have h:=HA.out;rw[List.take_length]at h;exact⟨_,rfl,by rw[h];rfl,HB.out⟩
theorem hasE_of(A:Option Addr)(c:Nat)(l:List S158)(f t:Int)(fb tb:Nat)(w:World)(hr:Kd.C k158 w A l.length l)(hl:l.length≤140737488355328)(hf:w.cell? ⟨fb,0,none⟩=some (.int .i64 f))(ht:w.cell? ⟨tb,0,none⟩=some (.int .i64 t)) :
  Calls Tryz.prog 84 #[.slice A l.length c,.func (.func 85) #[] #[.pointer (some ⟨fb,0,none⟩),.pointer (some ⟨tb,0,none⟩)]] w fun e w'=>e=.returned (.bool (hitL (IntKind.u64.wrap f) (IntKind.u64.wrap t) l))∧Below w.heap.size w w':=by
 have HI:=QA (idxE_of A c l f t fb tb w hr hl hf ht);clear hr hf ht
 go_enter Tryz.func84,Tryz.ntmps84
 go_wp2_with (go_at_call 137;refine HI.out.mono ?_;rintro ee w1 ⟨r,rfl,hd,hb1⟩)
 go_ret
 exact⟨by rw[← hd];rfl,hb1⟩
end Go.Proofs.YteaocbonofboeaaGreat.C
end
section
namespace Go.Proofs.YteaocbonofboeaaGreat.C
open Go.RowKit Go.Proofs.YteaocbonofboeaaGreatW.PrintWords Go.Proofs.YteaocbonofboeaaGreatW.PrintLast Go.Proofs.YteaocbonofboeaaGreatW.PrintMore
attribute [local go_sem] Qiz Qja Qjb Qjc Qjd Qje Qjf Qjg
def Qbp.f(k:Nat)(a0_0:Bool)(a0_1:Int)(a0_2:ByteArray)(a0_3:ByteArray):Option (ByteArray):=if a0_0=true then((Qbh.f k a0_1).bind fun t156=>(if 1+t156.size≤9223372036854775807 then((Qbi.f k a0_2).bind fun t157=>(if((⟨#[3]⟩:ByteArray)++t156).size+t157.size≤9223372036854775807 then(some (((⟨#[3]⟩:ByteArray)++t156)++t157))else(none)))else(none)))else((Qbh.f k a0_1).bind fun t158=>(if 1+t158.size≤9223372036854775807 then((Qbi.f k a0_2).bind fun t159=>(if((⟨#[2]⟩:ByteArray)++t158).size+t159.size≤9223372036854775807 then((Qbi.f k a0_3).bind fun t160=>(if(((⟨#[2]⟩:ByteArray)++t158)++t159).size+t160.size≤9223372036854775807 then(some ((((⟨#[2]⟩:ByteArray)++t158)++t159)++t160))else(none)))else(none)))else(none)))
def Qbp.T2:Bool × List (List Nat × List Nat):=(true,[([],[]),([0],[0]),([1],[1]),([2],[2]),([],[]),([4],[4]),([5,2],[5]),([3,6],[3,6]),([7,6,0,1,2,3,4,5,6,7],[7])])
def Qbp.B2:List Nat:=[0,1,3,7,0,16,55,127,255]
theorem Qbp.tab2:rtab .any (Qin Tryz.f82 2)=Qbp.T2:=by kernel_rfl
theorem Qbp.bits2:Qih Qbp.T2.2 Qbp.B2=true:=by kernel_rfl
def Qbp.T3:Bool × List (List Nat × List Nat):=(true,[([],[]),([0],[0]),([1],[1]),([2],[2]),([],[]),([4],[4]),([5,2],[5]),([3,6],[3,6]),([],[]),([8],[8]),([9,6],[9]),([7,10],[7,10]),([11,10,0,1,2,3,4,5,6,7,8,9,10,11],[11])])
def Qbp.B3:List Nat:=[0,1,3,7,0,16,55,127,0,256,887,2047,4095]
theorem Qbp.tab3:rtab .any (Qin Tryz.f82 3)=Qbp.T3:=by kernel_rfl
theorem Qbp.bits3:Qih Qbp.T3.2 Qbp.B3=true:=by kernel_rfl
theorem Qbp.calls(k:Nat)(u:Bool)(c:Int)(d:ByteArray)(l:ByteArray)(r:ByteArray)(w:World)(h:Qbp.f k u c d l=some r) :
  Calls Tryz.prog 82 #[.agg #[.bool u,.int .u64 c,.string d,.string l]] w fun e w'=>e=.returned (.string r)∧Below w.heap.size w w':=by
 have hu37:=Tryz.underlying37;have HB:=QA (Below.refl w.heap.size w);have H:(if u=true then((Qbh.f k c).bind fun p=>(if 1+p.size≤9223372036854775807 then((Qbi.f k d).bind fun s=>(if((⟨#[3]⟩:ByteArray)++p).size+s.size≤9223372036854775807 then(some (((⟨#[3]⟩:ByteArray)++p)++s))else(none)))else(none)))else((Qbh.f k c).bind fun m=>(if 1+m.size≤9223372036854775807 then((Qbi.f k d).bind fun q=>(if((⟨#[2]⟩:ByteArray)++m).size+q.size≤9223372036854775807 then((Qbi.f k l).bind fun t=>(if(((⟨#[2]⟩:ByteArray)++m)++q).size+t.size≤9223372036854775807 then(some ((((⟨#[2]⟩:ByteArray)++m)++q)++t))else(none)))else(none)))else(none))))=some r:=h;clear h
 by_cases c2:u=true
 ·subst c2;rw[if_pos rfl]at H;replace H:=Option.bind_eq_some_iff.mp H;obtain⟨p,T,H⟩:=H;have A3:=QA T;clear T
  by_cases c4:1+p.size≤9223372036854775807
  ·rw[if_pos c4]at H;have au:=eq_true c4;have av:=decide_eq_true c4
   try have aw:(9223372036854775807<1+p.size)=False:=eq_false (Nat.not_lt.2 c4)
   replace H:=Option.bind_eq_some_iff.mp H;obtain⟨s,U,H⟩:=H;have A5:=QA U;clear U
   by_cases c6:((⟨#[3]⟩:ByteArray)++p).size+s.size≤9223372036854775807
   ·rw[if_pos c6]at H;have ax:=eq_true c6;have ay:=decide_eq_true c6
    try have B:(9223372036854775807<((⟨#[3]⟩:ByteArray)++p).size+s.size)=False:=eq_false (Nat.not_lt.2 c6)
    try have W:=B
    try simp only[ByteArray.size_append,(show ∀x_:UInt8,(⟨#[x_]⟩:ByteArray).size=1 from fun _=>rfl),(show ∀x_ y_:UInt8,(⟨#[x_,y_]⟩:ByteArray).size=2 from fun _ _=>rfl)]at W
    try have X:=B
    try simp only[ByteArray.size_append,ByteArray.size_extract,(show ∀x_:UInt8,(⟨#[x_]⟩:ByteArray).size=1 from fun _=>rfl),(show ∀x_ y_:UInt8,(⟨#[x_,y_]⟩:ByteArray).size=2 from fun _ _=>rfl)]at X
    obtain rfl:=Option.some.inj H
    go_enter Tryz.func82,Tryz.ntmps82
    try go_wp2_with (first |((with_reducible refine Qgj (N:=1) rfl ?_);refine qq_e 1 #[.bool true,.int .u64 c,.string d,.string l] 37 ?_;intro b hg w7 hbox hb;have n_:=qn4 (Qfy qq_b hb) (hbox) (qq_s hg:w.heap.size≤b) (qq_s hg:w.heap.size≤b);clear HB;obtain⟨HB,a,I,J⟩:=n_;clear hb hbox hg;obtain⟨ac,ad,ae,af⟩:=qc4 a.out;have az:=Qej a.out))
    have n_:=qn2 (Qev a.out) (Qgf HB.out);clear a HB;obtain⟨a,HB⟩:=n_;refine Qgv (n:=9) (S:=fun w'=>w'.cell? ⟨b,0,none⟩=some (.bool true)∧w'.cell? ⟨b,1,none⟩=some (.int .u64 c)∧w'.cell? ⟨b,2,none⟩=some (.string d)∧w'.cell? ⟨b,3,none⟩=some (.string l)) (ds:=[]) (bm 9 0) qq_6 rfl rfl ⟨(Qei a.out 0).trans rfl,(Qei a.out 1).trans rfl,(Qei a.out 2).trans rfl,(Qei a.out 3).trans rfl⟩ (fun j=>?_);refine Qil Qbp.tab2 Qbp.bits2 (fun HT_ HW_=>?_);generalize w7.drew=w9 at a HB j ⊢;refine pz_ (i:=0) (N:=some 5) (bm 9 1) (Qid HT_.out qq_6) ?_;refine pz_ (i:=4) (N:=some 9) (bm 9 17) (Qid HT_.out qq_6) ?_;refine tz_ (i:=1) (N:=some 6) (bm 9 19) (Qik HT_.out HW_.out qq_6) j ?_;refine tz_ (i:=5) (N:=some 10) (bm 9 51) (Qik HT_.out HW_.out qq_6) j ?_;refine one_ (i:=2) (N:=some 7) (bm 9 55) rfl rfl (Qie HT_.out qq_6) (by decide) (fun K hK=>?_);refine Qhe Tryz.func135 qq_6 rfl #[.int .u64 c] (by rfl) rfl rfl qq_1 ?_;with_reducible refine(Qbh.calls k c p _ A3.out).mono ?_
    rintro e aA ⟨rfl,hb⟩;refine⟨_,rfl,?_⟩;have n_:=qn2 (Qex (g:=b) (o:=.cells #[.bool true,.int .u64 c,.string d,.string l] 37 (0,0)) qq_0 hb) (Qfy qq_b hb);clear a HB;obtain⟨a,HB⟩:=n_
    (try clear hb)
    (try clear hb2)
    (try clear hk)
    (try clear hi)
    refine hK.out _ _ ⟨(Qei a.out 0).trans rfl,(Qei a.out 1).trans rfl,(Qei a.out 2).trans rfl,(Qei a.out 3).trans rfl⟩ (fun j=>?_);clear hK K;refine nzp_ 7 ?_;refine pz_ (i:=3) (N:=some 8) (bm 9 63) (Qid HT_.out qq_6) ?_;refine one_ (i:=6) (N:=some 11) (bm 9 127) rfl rfl (Qie HT_.out qq_6) (by decide) (fun K hK=>?_);refine Qhe Tryz.func136 qq_6 rfl #[.string d] (by rfl) rfl rfl qq_1 ?_;with_reducible refine(Qbi.calls k d s _ A5.out).mono ?_
    rintro e aB ⟨rfl,hb⟩;refine⟨_,rfl,?_⟩;have n_:=qn2 (Qex (g:=b) (o:=.cells #[.bool true,.int .u64 c,.string d,.string l] 37 (0,0)) qq_0 hb) (Qfy qq_b hb);clear a HB;obtain⟨a,HB⟩:=n_
    (try clear hb)
    (try clear hb2)
    (try clear hk)
    (try clear hi)
    refine hK.out _ _ ⟨(Qei a.out 0).trans rfl,(Qei a.out 1).trans rfl,(Qei a.out 2).trans rfl,(Qei a.out 3).trans rfl⟩ (fun j=>?_);clear hK K;refine nzp_ 11 ?_;refine pz_ (i:=7) (N:=some 12) (bm 9 255) (Qid HT_.out qq_6) ?_;refine pz_ (i:=8) (N:=some 2) (bm 9 511) (Qid HT_.out qq_6) ?_;refine Qgz (Qig HT_.out qq_6) ?_
    try go_wp2
    go_ret
    exact⟨qq_5,qq_b⟩
   ·rw[if_neg c6]at H;exact absurd H (by simp)
  ·rw[if_neg c4]at H;exact absurd H (by simp)
 ·replace c2:=Bool.eq_false_iff.mpr c2;subst c2;rw[if_neg (show ¬(false=true)by decide)]at H;replace H:=Option.bind_eq_some_iff.mp H;obtain⟨m,D,H⟩:=H;have ag:=QA D;clear D
  by_cases v:1+m.size≤9223372036854775807
  ·rw[if_pos v]at H;have ak:=eq_true v;have al:=decide_eq_true v
   try have am:(9223372036854775807<1+m.size)=False:=eq_false (Nat.not_lt.2 v)
   replace H:=Option.bind_eq_some_iff.mp H;obtain⟨q,E,H⟩:=H;have ah:=QA E;clear E
   by_cases x:((⟨#[2]⟩:ByteArray)++m).size+q.size≤9223372036854775807
   ·rw[if_pos x]at H;have an:=eq_true x;have ao:=decide_eq_true x
    try have z:(9223372036854775807<((⟨#[2]⟩:ByteArray)++m).size+q.size)=False:=eq_false (Nat.not_lt.2 x)
    try have L:=z
    try simp only[ByteArray.size_append,(show ∀x_:UInt8,(⟨#[x_]⟩:ByteArray).size=1 from fun _=>rfl),(show ∀x_ y_:UInt8,(⟨#[x_,y_]⟩:ByteArray).size=2 from fun _ _=>rfl)]at L
    try have M:=z
    try simp only[ByteArray.size_append,ByteArray.size_extract,(show ∀x_:UInt8,(⟨#[x_]⟩:ByteArray).size=1 from fun _=>rfl),(show ∀x_ y_:UInt8,(⟨#[x_,y_]⟩:ByteArray).size=2 from fun _ _=>rfl)]at M
    replace H:=Option.bind_eq_some_iff.mp H;obtain⟨t,G,H⟩:=H;have ai:=QA G;clear G
    by_cases y:(((⟨#[2]⟩:ByteArray)++m)++q).size+t.size≤9223372036854775807
    ·rw[if_pos y]at H;have ap:=eq_true y;have aq:=decide_eq_true y
     try have A:(9223372036854775807<(((⟨#[2]⟩:ByteArray)++m)++q).size+t.size)=False:=eq_false (Nat.not_lt.2 y)
     try have O:=A
     try simp only[ByteArray.size_append,(show ∀x_:UInt8,(⟨#[x_]⟩:ByteArray).size=1 from fun _=>rfl),(show ∀x_ y_:UInt8,(⟨#[x_,y_]⟩:ByteArray).size=2 from fun _ _=>rfl)]at O
     try have P:=A
     try simp only[ByteArray.size_append,ByteArray.size_extract,(show ∀x_:UInt8,(⟨#[x_]⟩:ByteArray).size=1 from fun _=>rfl),(show ∀x_ y_:UInt8,(⟨#[x_,y_]⟩:ByteArray).size=2 from fun _ _=>rfl)]at P
     obtain rfl:=Option.some.inj H
     go_enter Tryz.func82,Tryz.ntmps82
     try go_wp2_with (first |((with_reducible refine Qgj (N:=1) rfl ?_);refine qq_e 1 #[.bool false,.int .u64 c,.string d,.string l] 37 ?_;intro b hg aj hbox hb;have n_:=qn4 (Qfy qq_b hb) (hbox) (qq_s hg:w.heap.size≤b) (qq_s hg:w.heap.size≤b);clear HB;obtain⟨HB,a,I,J⟩:=n_;clear hb hbox hg;obtain⟨Y,Z,aa,ab⟩:=qc4 a.out;have ar:=Qej a.out))
     have n_:=qn2 (Qev a.out) (Qgf HB.out);clear a HB;obtain⟨a,HB⟩:=n_;refine Qgv (n:=13) (S:=fun w'=>w'.cell? ⟨b,0,none⟩=some (.bool false)∧w'.cell? ⟨b,1,none⟩=some (.int .u64 c)∧w'.cell? ⟨b,2,none⟩=some (.string d)∧w'.cell? ⟨b,3,none⟩=some (.string l)) (ds:=[]) (bm 13 0) qq_6 rfl rfl ⟨(Qei a.out 0).trans rfl,(Qei a.out 1).trans rfl,(Qei a.out 2).trans rfl,(Qei a.out 3).trans rfl⟩ (fun j=>?_);refine Qil Qbp.tab3 Qbp.bits3 (fun HT_ HW_=>?_);generalize aj.drew=w20 at a HB j ⊢;refine pz_ (i:=0) (N:=some 13) (bm 13 1) (Qid HT_.out qq_6) ?_;refine pz_ (i:=4) (N:=some 17) (bm 13 17) (Qid HT_.out qq_6) ?_;refine pz_ (i:=8) (N:=some 21) (bm 13 273) (Qid HT_.out qq_6) ?_;refine tz_ (i:=1) (N:=some 14) (bm 13 275) (Qik HT_.out HW_.out qq_6) j ?_;refine tz_ (i:=5) (N:=some 18) (bm 13 307) (Qik HT_.out HW_.out qq_6) j ?_;refine tz_ (i:=9) (N:=some 22) (bm 13 819) (Qik HT_.out HW_.out qq_6) j ?_;refine one_ (i:=2) (N:=some 15) (bm 13 823) rfl rfl (Qie HT_.out qq_6) (by decide) (fun K hK=>?_);refine Qhe Tryz.func135 qq_6 rfl #[.int .u64 c] (by rfl) rfl rfl qq_1 ?_;with_reducible refine(Qbh.calls k c m _ ag.out).mono ?_
     rintro e aC ⟨rfl,hb⟩;refine⟨_,rfl,?_⟩;have n_:=qn2 (Qex (g:=b) (o:=.cells #[.bool false,.int .u64 c,.string d,.string l] 37 (0,0)) qq_0 hb) (Qfy qq_b hb);clear a HB;obtain⟨a,HB⟩:=n_
     (try clear hb)
     (try clear hb2)
     (try clear hk)
     (try clear hi)
     refine hK.out _ _ ⟨(Qei a.out 0).trans rfl,(Qei a.out 1).trans rfl,(Qei a.out 2).trans rfl,(Qei a.out 3).trans rfl⟩ (fun j=>?_);clear hK K;refine nzp_ 15 ?_;refine pz_ (i:=3) (N:=some 16) (bm 13 831) (Qid HT_.out qq_6) ?_;refine one_ (i:=6) (N:=some 19) (bm 13 895) rfl rfl (Qie HT_.out qq_6) (by decide) (fun K hK=>?_);refine Qhe Tryz.func136 qq_6 rfl #[.string d] (by rfl) rfl rfl qq_1 ?_;with_reducible refine(Qbi.calls k d q _ ah.out).mono ?_
     rintro e aD ⟨rfl,hb⟩;refine⟨_,rfl,?_⟩;have n_:=qn2 (Qex (g:=b) (o:=.cells #[.bool false,.int .u64 c,.string d,.string l] 37 (0,0)) qq_0 hb) (Qfy qq_b hb);clear a HB;obtain⟨a,HB⟩:=n_
     (try clear hb)
     (try clear hb2)
     (try clear hk)
     (try clear hi)
     refine hK.out _ _ ⟨(Qei a.out 0).trans rfl,(Qei a.out 1).trans rfl,(Qei a.out 2).trans rfl,(Qei a.out 3).trans rfl⟩ (fun j=>?_);clear hK K;refine nzp_ 19 ?_;refine pz_ (i:=7) (N:=some 20) (bm 13 1023) (Qid HT_.out qq_6) ?_;refine one_ (i:=10) (N:=some 23) (bm 13 2047) rfl rfl (Qie HT_.out qq_6) (by decide) (fun K hK=>?_);refine Qhe Tryz.func136 qq_6 rfl #[.string l] (by rfl) rfl rfl qq_1 ?_;with_reducible refine(Qbi.calls k l t _ ai.out).mono ?_
     rintro e aE ⟨rfl,hb⟩;refine⟨_,rfl,?_⟩;have n_:=qn2 (Qex (g:=b) (o:=.cells #[.bool false,.int .u64 c,.string d,.string l] 37 (0,0)) qq_0 hb) (Qfy qq_b hb);clear a HB;obtain⟨a,HB⟩:=n_
     (try clear hb)
     (try clear hb2)
     (try clear hk)
     (try clear hi)
     refine hK.out _ _ ⟨(Qei a.out 0).trans rfl,(Qei a.out 1).trans rfl,(Qei a.out 2).trans rfl,(Qei a.out 3).trans rfl⟩ (fun j=>?_);clear hK K;refine nzp_ 23 ?_;refine pz_ (i:=11) (N:=some 24) (bm 13 4095) (Qid HT_.out qq_6) ?_;refine pz_ (i:=12) (N:=some 2) (bm 13 8191) (Qid HT_.out qq_6) ?_;refine Qgz (Qig HT_.out qq_6) ?_
     try go_wp2
     go_ret
     exact⟨qq_5,qq_b⟩
    ·rw[if_neg y]at H;exact absurd H (by simp)
   ·rw[if_neg x]at H;exact absurd H (by simp)
  ·rw[if_neg v]at H;exact absurd H (by simp)
mutual
def Qbj.j0:Nat→ByteArray→Int→Int→Option (Int)
 | 0,_,_,_=>none
 | k+1,x1,x5,x6=>Qbj.l0 k x1 (IntKind.u64.wrap (x6+x5))
def Qbj.l0:Nat→ByteArray→Int→Option (Int)
 | 0,_,_=>none
 | k+1,x1,x6=>if(x1.size:Int)≥8 then(if 0≤8 then(if 8≤(x1.size:Int)then((Qbg.f k (x1.extract 0 8)).bind fun t136=>((Qbl.f k 0 t136).bind fun t137=>((Qbn.f k (Go.bits .xor .u64 x6 t137) 27).bind fun t138=>(Qbj.l0 k (x1.extract 8 x1.size) (IntKind.u64.wrap ((IntKind.u64.wrap (t138*11400714785074694791))+9650029242287828579))))))else(none))else(none))else(Qbj.l1 k x1 x6)
def Qbj.l1:Nat→ByteArray→Int→Option (Int)
 | 0,_,_=>none
 | k+1,x1,x6=>if(x1.size:Int)≥4 then(if 0≤4 then(if 4≤(x1.size:Int)then((Qbg.f k (x1.extract 0 4)).bind fun t139=>((Qbn.f k (Go.bits .xor .u64 x6 (IntKind.u64.wrap (t139*11400714785074694791))) 23).bind fun t140=>(Qbj.l1 k (x1.extract 4 x1.size) (IntKind.u64.wrap ((IntKind.u64.wrap (t140*14029467366897019727))+1609587929392839161)))))else(none))else(none))else(Qbj.l2 k x1 x6 0)
def Qbj.l2:Nat→ByteArray→Int→Int→Option (Int)
 | 0,_,_,_=>none
 | k+1,x1,x6,x8=>if x8<(x1.size:Int)then(if 0≤x8 then((Qbn.f k (Go.bits .xor .u64 x6 (IntKind.u64.wrap ((IntKind.u64.wrap (bt x1 x8))*2870177450012600261))) 11).bind fun t141=>(Qbj.l2 k x1 (IntKind.u64.wrap (t141*11400714785074694791)) (wrap64 (x8+1))))else(none))else((Qbm.f k x6 33).bind fun t142=>((Qbm.f k (IntKind.u64.wrap (t142*14029467366897019727)) 29).bind fun t143=>((Qbm.f k (IntKind.u64.wrap (t143*1609587929392839161)) 32).bind fun t144=>(some t144))))
end
def Qbj.f(k:Nat)(a0:Int)(a1:ByteArray):Option (Int):=if(a1.size:Int)≥32 then((Qbk.f a0 a1).bind fun bt134=>(Qbj.j0 k bt134.2 (IntKind.u64.wrap ((a1.size:Int))) bt134.1))else(Qbj.j0 k a1 (IntKind.u64.wrap ((a1.size:Int))) (IntKind.u64.wrap (a0+2870177450012600261)))
theorem Qbj.calls (k:Nat) (a0:Int) (a1:ByteArray) (r:Int) (w:World) (h:Qbj.f k a0 a1=some r) :
  Calls Tryz.prog 134 #[.int .u64 a0,.string a1] w fun e w'=>e=.returned (.int .u64 r)∧Below w.heap.size w w':=by
 have HB:=QA (Below.refl w.heap.size w);have H:(if(a1.size:Int)≥32 then((Qbk.f a0 a1).bind fun bt134=>(Qbj.j0 k bt134.2 (IntKind.u64.wrap ((a1.size:Int))) bt134.1))else(Qbj.j0 k a1 (IntKind.u64.wrap ((a1.size:Int))) (IntKind.u64.wrap (a0+2870177450012600261))))=some r:=h;clear h;have J:=QA H;clear H
 go_enter Tryz.func134,Tryz.ntmps134
 go_upto_if 17 with(fail)
 go_cut [1,6] (fun v1 v6 wc=>∃(kq:Nat) (a:ByteArray) (c:Int),v1=.string a∧v6=.int .u64 c∧Aside0 (Qbj.j0 kq a (IntKind.u64.wrap ((a1.size:Int))) c=some r)∧Aside0 (kq≤k)∧Aside0 (Below w.heap.size w wc))
 case first =>
  have H:=J.out;clear J
  by_cases c4:(a1.size:Int)≥32
  ·rw[if_pos c4]at H;have g:decide (32≤(a1.size:Int))=true:=decide_eq_true c4;have m:decide (32≤a1.size)=true:=decide_eq_true (by omega);clear c4
   (first|rw[g] |(simp only[Qhh,Qhi];rw[g])|skip)
   replace H:=Option.bind_eq_some_iff.mp H;obtain⟨⟨s,t⟩,al,H⟩:=H;replace H:(Qbj.j0 k t (IntKind.u64.wrap ((a1.size:Int))) s)=some r:=H;have A5:=QA al;clear al;have H':=QA H;clear H
   go_wp2_with (first |((with_reducible refine Qjh (f:=190) rfl ?_);refine Qhf (some 21) rfl rfl Tryz.func190 qq_6 rfl #[.int .u64 a0,.string a1] rfl qq_1 ?_;(with_reducible refine(Qbk.calls a0 a1 s t _ A5.out).mono ?_);rintro e w6 ⟨rfl,hb⟩;refine⟨_,rfl,?_⟩;have n_:=qn1 (Qfy qq_b hb);clear HB;have HB:=n_;clear n_;(try clear hb);(try clear hb2);(try clear hk);(try clear hi)))
   go_meet
   case rel=>exact⟨_,(t),(s),qq_7,qq_7,H',⟨by first|omega|exact Nat.le_refl _⟩,⟨qq_b⟩⟩
  ·rw[if_neg c4]at H;have g:decide (32≤(a1.size:Int))=false:=decide_eq_false c4;have m:decide (32≤a1.size)=false:=decide_eq_false (by omega);clear c4
   (first|rw[g] |(simp only[Qhh,Qhi];rw[g])|skip)
   have H':=QA H;clear H;go_wp2
   go_meet
   case rel=>exact⟨_,(a1),(IntKind.u64.wrap (a0+2870177450012600261)),qq_7,qq_7,H',⟨by first|omega|exact Nat.le_refl _⟩,⟨qq_b⟩⟩
 case rest =>
  clear J
  try clear c4
  try clear g
  try clear m
  obtain⟨kq,a,c,rfl,rfl,HA,HJ2,HB⟩:=hcut
  cases kq with
  | zero=>exact absurd HA.out (by simp[Qbj.j0])
  | succ kj2 =>
   have H:=HA.out;clear HA;simp only[Qbj.j0]at H;have H':=QA H;clear H;go_wp2
   go_loopg [1,6] kj2 (fun kq v1 v6 w'=>∃(a:ByteArray) (c:Int),v1=.string a∧v6=.int .u64 c∧Aside0 (Qbj.l0 kq a c=some r)∧Aside0 (kq≤kj2)∧Aside0 (Below w.heap.size w w'))
   case atStart=>exact⟨(a),(IntKind.u64.wrap (c+(IntKind.u64.wrap ((a1.size:Int))))),qq_7,qq_7,H',⟨Nat.le_refl _⟩,⟨qq_b⟩⟩
   case round =>
    clear H'
    try clear c4
    try clear g
    try clear m
    obtain⟨a,c,rfl,rfl,HA,HK2,HB⟩:=hrel
    cases gk with
    | zero=>exact absurd HA.out (by simp[Qbj.l0])
    | succ k2 =>
     have H:=HA.out;clear HA;simp only[Qbj.l0]at H
     by_cases c7:(a.size:Int)≥8
     ·rw[if_pos c7]at H;have u:decide (8≤(a.size:Int))=true:=decide_eq_true c7;have v:decide (8≤a.size)=true:=decide_eq_true (by omega);clear c7
      by_cases c8:0≤8
      ·rw[if_pos c8]at H;have K:=eq_true c8;have L:=decide_eq_true c8;clear c8
       by_cases c9:8≤(a.size:Int)
       ·rw[if_pos c9]at H;have M:=eq_true c9;have O:=decide_eq_true c9;clear c9;replace H:=Option.bind_eq_some_iff.mp H;obtain⟨x,P,H⟩:=H;have ap:=QA P;clear P;replace H:=Option.bind_eq_some_iff.mp H;obtain⟨y,T,H⟩:=H;have aq:=QA T;clear T;replace H:=Option.bind_eq_some_iff.mp H;obtain⟨U,W,H⟩:=H;have ar:=QA W;clear W;have D:=eq_true (of_decide_eq_true qq_3:8≤(a.size:Int));have H':=QA H;clear H
        go_wp2_with (first |((with_reducible refine Qjh (f:=186) rfl ?_);refine Qhf (some 33) rfl rfl Tryz.func186 qq_6 rfl #[.string (a.extract 0 8)] rfl qq_1 ?_;(with_reducible refine(Qbg.calls k2 (a.extract 0 8) x _ ap.out).mono ?_);rintro e w' ⟨rfl,⟨nd,rfl⟩⟩;refine⟨_,rfl,?_⟩) |((with_reducible refine Qjh (f:=191) rfl ?_);refine Qhf (some 34) rfl rfl Tryz.func191 qq_6 rfl #[.int .u64 0,.int .u64 x] rfl qq_1 ?_;(with_reducible refine(Qbl.calls k2 0 x y _ aq.out).mono ?_);rintro e w' ⟨rfl,⟨nd,rfl⟩⟩;refine⟨_,rfl,?_⟩) |((with_reducible refine Qjh (f:=192) rfl ?_);refine Qhf (some 37) rfl rfl Tryz.func192 qq_6 rfl #[.int .u64 (Go.bits .xor .u64 c y),.int .i64 27] rfl qq_1 ?_;(with_reducible refine(Qbn.calls k2 (Go.bits .xor .u64 c y) 27 U _ ar.out).mono ?_);rintro e w' ⟨rfl,⟨nd,rfl⟩⟩;refine⟨_,rfl,?_⟩))
        go_roundg k2
        case measure=>have:=HJ2.out;have:=HK2.out;omega
        case rel=>exact⟨(a.extract 8 a.size),(IntKind.u64.wrap ((IntKind.u64.wrap (U*11400714785074694791))+9650029242287828579)),qq_7,qq_7,H',⟨by have:=HJ2.out;have:=HK2.out;omega⟩,⟨qq_b⟩⟩
       ·rw[if_neg c9]at H;exact absurd H (by simp)
      ·rw[if_neg c8]at H;exact absurd H (by simp)
     ·rw [if_neg c7]at H;have u:decide (8≤(a.size:Int))=false:=decide_eq_false c7;have v:decide (8≤a.size)=false:=decide_eq_false (by omega);clear c7;have H':=QA H;clear H;go_wp2
      go_loopg [1,6] k2 (fun kq v1 v6 w'=>∃(b:ByteArray) (l:Int),v1=.string b∧v6=.int .u64 l∧Aside0 (Qbj.l1 kq b l=some r)∧Aside0 (kq≤k2)∧Aside0 (Below w.heap.size w w'))
      case atStart=>exact⟨(a),(c),qq_7,qq_7,H',⟨Nat.le_refl _⟩,⟨qq_b⟩⟩
      case round =>
       clear H'
       try clear c4
       try clear g
       try clear m
       try clear c7
       try clear u
       try clear v
       try clear c8
       try clear K
       try clear L
       try clear c9
       try clear M
       try clear O
       try clear D
       obtain⟨b,l,rfl,rfl,HA,HK3,HB⟩:=hrel
       cases gk with
       | zero=>exact absurd HA.out (by simp[Qbj.l1])
       | succ k3 =>
        have H:=HA.out;clear HA;simp only[Qbj.l1]at H
        by_cases n:(b.size:Int)≥4
        ·rw[if_pos n]at H;have E:decide (4≤(b.size:Int))=true:=decide_eq_true n;have G:decide (4≤b.size)=true:=decide_eq_true (by omega);clear n
         by_cases o:0≤4
         ·rw[if_pos o]at H;have af:=eq_true o;have ag:=decide_eq_true o;clear o
          by_cases p:4≤(b.size:Int)
          ·rw[if_pos p]at H;have ah:=eq_true p;have ai:=decide_eq_true p;clear p;replace H:=Option.bind_eq_some_iff.mp H;obtain⟨z,X,H⟩:=H;have au:=QA X;clear X;replace H:=Option.bind_eq_some_iff.mp H;obtain⟨Y,Z,H⟩:=H;have av:=QA Z;clear Z;have aj:=eq_true (of_decide_eq_true qq_3:4≤(b.size:Int));have H':=QA H;clear H
           go_wp2_with (first |((with_reducible refine Qjh (f:=186) rfl ?_);refine Qhf (some 47) rfl rfl Tryz.func186 qq_6 rfl #[.string (b.extract 0 4)] rfl qq_1 ?_;(with_reducible refine(Qbg.calls k3 (b.extract 0 4) z _ au.out).mono ?_);rintro e w' ⟨rfl,⟨nd,rfl⟩⟩;refine⟨_,rfl,?_⟩) |((with_reducible refine Qjh (f:=192) rfl ?_);refine Qhf (some 52) rfl rfl Tryz.func192 qq_6 rfl #[.int .u64 (Go.bits .xor .u64 l (IntKind.u64.wrap (z*11400714785074694791))),.int .i64 23] rfl qq_1 ?_;(with_reducible refine(Qbn.calls k3 (Go.bits .xor .u64 l (IntKind.u64.wrap (z*11400714785074694791))) 23 Y _ av.out).mono ?_);rintro e w' ⟨rfl,⟨nd,rfl⟩⟩;refine⟨_,rfl,?_⟩))
           go_roundg k3
           case measure=>have:=HJ2.out;have:=HK2.out;have:=HK3.out;omega
           case rel=>exact⟨(b.extract 4 b.size),(IntKind.u64.wrap ((IntKind.u64.wrap (Y*14029467366897019727))+1609587929392839161)),qq_7,qq_7,H',⟨by have:=HJ2.out;have:=HK2.out;have:=HK3.out;omega⟩,⟨qq_b⟩⟩
          ·rw[if_neg p]at H;exact absurd H (by simp)
         ·rw[if_neg o]at H;exact absurd H (by simp)
        ·rw [if_neg n]at H;have E:decide (4≤(b.size:Int))=false:=decide_eq_false n;have G:decide (4≤b.size)=false:=decide_eq_false (by omega);clear n;have H':=QA H;clear H;go_wp2
         go_loopg [6,8] k3 (fun kq v6 v8 w'=>∃(j:Int) (d:Int),v6=.int .u64 j∧v8=.int .i64 d∧Aside0 (Qbj.l2 kq b j d=some r)∧Aside0 (kq≤k3)∧Aside0 (Below w.heap.size w w'))
         case atStart=>exact⟨(l),(0),qq_7,qq_7,H',⟨Nat.le_refl _⟩,⟨qq_b⟩⟩
         case round =>
          clear H'
          try clear c4
          try clear g
          try clear m
          try clear c7
          try clear u
          try clear v
          try clear c8
          try clear K
          try clear L
          try clear c9
          try clear M
          try clear O
          try clear D
          try clear n
          try clear E
          try clear G
          try clear o
          try clear af
          try clear ag
          try clear p
          try clear ah
          try clear ai
          try clear aj
          obtain⟨j,d,rfl,rfl,HA,HK4,HB⟩:=hrel
          cases gk with
          | zero=>exact absurd HA.out (by simp[Qbj.l2])
          | succ k4 =>
           have H:=HA.out;clear HA;simp only[Qbj.l2]at H
           by_cases q:d<(b.size:Int)
           ·rw[if_pos q]at H;have ak:=decide_eq_true q;clear q
            by_cases I:0≤d
            ·rw[if_pos I]at H;have aA:=decide_eq_true I;clear I;replace H:=Option.bind_eq_some_iff.mp H;obtain⟨aa,ab,H⟩:=H;have aw:=QA ab;clear ab;have H':=QA H;clear H;have am:0≤(d:Int):=of_decide_eq_true qq_3;have an:d<(b.size:Int):=of_decide_eq_true qq_3;have aB:=Qdi b d;replace am:=eq_true am;replace an:=eq_true an
             go_wp2_with (first |((with_reducible refine Qjh (f:=192) rfl ?_);refine Qhf (some 71) rfl rfl Tryz.func192 qq_6 rfl #[.int .u64 (Go.bits .xor .u64 j (IntKind.u64.wrap ((IntKind.u64.wrap (bt b d))*2870177450012600261))),.int .i64 11] rfl qq_1 ?_;(with_reducible refine(Qbn.calls k4 (Go.bits .xor .u64 j (IntKind.u64.wrap ((IntKind.u64.wrap (bt b d))*2870177450012600261))) 11 aa _ aw.out).mono ?_);rintro e w' ⟨rfl,⟨nd,rfl⟩⟩;refine⟨_,rfl,?_⟩))
             go_roundg k4
             case measure=>have:=HJ2.out;have:=HK2.out;have:=HK3.out;have:=HK4.out;omega
             case rel=>exact⟨(IntKind.u64.wrap (aa*11400714785074694791)),(wrap64 (d+1)),qq_7,qq_7,H',⟨by have:=HJ2.out;have:=HK2.out;have:=HK3.out;have:=HK4.out;omega⟩,⟨qq_b⟩⟩
            ·rw[if_neg I]at H;exact absurd H (by simp)
           ·rw[if_neg q]at H;have ak:=decide_eq_false q;clear q;replace H:=Option.bind_eq_some_iff.mp H;obtain⟨A,ac,H⟩:=H;have ax:=QA ac;clear ac;replace H:=Option.bind_eq_some_iff.mp H;obtain⟨B,ad,H⟩:=H;have ay:=QA ad;clear ad;replace H:=Option.bind_eq_some_iff.mp H;obtain⟨ao,ae,H⟩:=H;have az:=QA ae;clear ae;obtain rfl:=Option.some.inj H
            go_wp2_with (first |((with_reducible refine Qjh (f:=193) rfl ?_);refine Qhf (some 74) rfl rfl Tryz.func193 qq_6 rfl #[.int .u64 j,.int .i64 33] rfl qq_1 ?_;(with_reducible refine(Qbm.calls k4 j 33 A _ ax.out).mono ?_);rintro e w' ⟨rfl,⟨nd,rfl⟩⟩;refine⟨_,rfl,?_⟩) |((with_reducible refine Qjh (f:=193) rfl ?_);refine Qhf (some 77) rfl rfl Tryz.func193 qq_6 rfl #[.int .u64 (IntKind.u64.wrap (A*14029467366897019727)),.int .i64 29] rfl qq_1 ?_;(with_reducible refine(Qbm.calls k4 (IntKind.u64.wrap (A*14029467366897019727)) 29 B _ ay.out).mono ?_);rintro e w' ⟨rfl,⟨nd,rfl⟩⟩;refine⟨_,rfl,?_⟩) |((with_reducible refine Qjh (f:=193) rfl ?_);refine Qhf (some 80) rfl rfl Tryz.func193 qq_6 rfl #[.int .u64 (IntKind.u64.wrap (B*1609587929392839161)),.int .i64 32] rfl qq_1 ?_;(with_reducible refine(Qbm.calls k4 (IntKind.u64.wrap (B*1609587929392839161)) 32 ao _ az.out).mono ?_);rintro e w' ⟨rfl,⟨nd,rfl⟩⟩;refine⟨_,rfl,?_⟩))
            go_ret
            exact⟨qq_5,qq_b⟩
def Qbw.f(k:Nat)(a0:ByteArray):Option (ByteArray):=(Qbj.f k 0 a0).bind fun t145=>((Qbf.f k t145 8).bind fun t146=>(if a0.size+t146.size≤9223372036854775807 then((Qbo.f k (a0++t146)).bind fun t147=>(if t147.size+1≤9223372036854775807 then(some (t147++(⟨#[0]⟩:ByteArray)))else(none)))else(none)))
theorem Qbw.calls(k:Nat)(a0:ByteArray)(r:ByteArray)(w:World)(h:Qbw.f k a0=some r) :
  Calls Tryz.prog 81 #[.string a0] w fun e w'=>e=.returned (.string r)∧Below w.heap.size w w':=by
 have HB:=QA (Below.refl w.heap.size w);have H:((Qbj.f k 0 a0).bind fun c=>((Qbf.f k c 8).bind fun a=>(if a0.size+a.size≤9223372036854775807 then((Qbo.f k (a0++a)).bind fun b=>(if b.size+1≤9223372036854775807 then(some (b++(⟨#[0]⟩:ByteArray)))else(none)))else(none))))=some r:=h;clear h;replace H:=Option.bind_eq_some_iff.mp H;obtain⟨c,d,H⟩:=H;have A2:=QA d;clear d;replace H:=Option.bind_eq_some_iff.mp H;obtain⟨a,g,H⟩:=H;have A3:=QA g;clear g
 by_cases c4:a0.size+a.size≤9223372036854775807
 ·rw[if_pos c4]at H;have l:=eq_true c4;have m:=decide_eq_true c4
  try have n:(9223372036854775807<a0.size+a.size)=False:=eq_false (Nat.not_lt.2 c4)
  replace H:=Option.bind_eq_some_iff.mp H;obtain⟨b,j,H⟩:=H;have A5:=QA j;clear j
  by_cases c6:b.size+1≤9223372036854775807
  ·rw[if_pos c6]at H;have o:=eq_true c6;have p:=decide_eq_true c6
   try have q:(9223372036854775807<b.size+1)=False:=eq_false (Nat.not_lt.2 c6)
   obtain rfl:=Option.some.inj H
   go_enter Tryz.func81,Tryz.ntmps81
   go_wp2_with (first |((with_reducible refine Qjh (f:=134) rfl ?_);refine Qhf (some 5) rfl rfl Tryz.func134 qq_6 rfl #[.int .u64 0,.string a0] rfl qq_1 ?_;(with_reducible refine(Qbj.calls k 0 a0 c _ A2.out).mono ?_);rintro e w7 ⟨rfl,hb⟩;refine⟨_,rfl,?_⟩;have n_:=qn1 (Qfy qq_b hb);clear HB;have HB:=n_;clear n_;(try clear hb);(try clear hb2);(try clear hk);(try clear hi)) |((with_reducible refine Qjh (f:=133) rfl ?_);refine Qhf (some 6) rfl rfl Tryz.func133 qq_6 rfl #[.int .u64 c,.int .i64 8] rfl qq_1 ?_;(with_reducible refine(Qbf.calls k c 8 a _ A3.out).mono ?_);rintro e w8 ⟨rfl,hb⟩;refine⟨_,rfl,?_⟩;have n_:=qn1 (Qfy qq_b hb);clear HB;have HB:=n_;clear n_;(try clear hb);(try clear hb2);(try clear hk);(try clear hi)) |((with_reducible refine Qjh (f:=132) rfl ?_);refine Qhf (some 8) rfl rfl Tryz.func132 qq_6 rfl #[.string (a0++a)] rfl qq_1 ?_;(with_reducible refine(Qbo.calls k (a0++a) b _ A5.out).mono ?_);rintro e w9 ⟨rfl,hb⟩;refine⟨_,rfl,?_⟩;have n_:=qn1 (Qfy qq_b hb);clear HB;have HB:=n_;clear n_;(try clear hb);(try clear hb2);(try clear hk);(try clear hi)))
   go_ret
   exact⟨qq_5,qq_b⟩
  ·rw[if_neg c6]at H;exact absurd H (by simp)
 ·rw[if_neg c4]at H;exact absurd H (by simp)
def Qbv.f(k:Nat)(a0_0:Bool)(a0_1:Int)(a0_2:ByteArray)(a0_3:ByteArray):Option (ByteArray):=(Qbp.f k a0_0 a0_1 a0_2 a0_3).bind fun t162=>((Qbw.f k t162).bind fun t163=>(some t163))
theorem Qbv.calls(k:Nat)(a:Bool)(b:Int)(c:ByteArray)(d:ByteArray)(r:ByteArray)(w:World)(h:Qbv.f k a b c d=some r) :
  Calls Tryz.prog 37 #[.agg #[.bool a,.int .u64 b,.string c,.string d]] w fun e w'=>e=.returned (.string r)∧Below w.heap.size w w':=by
 have hu37:=Tryz.underlying37;have HB:=QA (Below.refl w.heap.size w);have H:((Qbp.f k a b c d).bind fun m=>((Qbw.f k m).bind fun n=>(some n)))=some r:=h;clear h;replace H:=Option.bind_eq_some_iff.mp H;obtain⟨m,p,H⟩:=H;have A2:=QA p;clear p;replace H:=Option.bind_eq_some_iff.mp H;obtain⟨n,q,H⟩:=H;have A3:=QA q;clear q;obtain rfl:=Option.some.inj H
 go_enter Tryz.func37,Tryz.ntmps37
 go_wp2_with (first |((with_reducible refine Qgj (N:=1) rfl ?_);refine qq_e 1 #[.bool a,.int .u64 b,.string c,.string d] 37 ?_;intro l hg w4 hbox hb;have n_:=qn4 (Qfy qq_b hb) (hbox) (qq_s hg:w.heap.size≤l) (qq_s hg:w.heap.size≤l);clear HB;obtain⟨HB,j,x,y⟩:=n_;clear hb hbox hg;obtain⟨s,t,u,v⟩:=qc4 j.out;have z:=Qej j.out) |((with_reducible refine Qjh (f:=82) rfl ?_);refine Qhf (some 4) rfl rfl Tryz.func82 qq_6 rfl #[.agg #[.bool a,.int .u64 b,.string c,.string d]] rfl qq_1 ?_;(with_reducible refine(Qbp.calls k a b c d m _ A2.out).mono ?_);rintro e w6 ⟨rfl,hb⟩;refine⟨_,rfl,?_⟩;have n_:=qn2 (Qex (g:=l) (o:=.cells #[.bool a,.int .u64 b,.string c,.string d] 37 (0,0)) qq_0 hb) (Qfy qq_b hb);clear j HB;obtain⟨j,HB⟩:=n_;(try clear hb);(try clear hb2);(try clear hk);(try clear hi)) |((with_reducible refine Qjh (f:=81) rfl ?_);refine Qhf (some 5) rfl rfl Tryz.func81 qq_6 rfl #[.string m] rfl qq_1 ?_;(with_reducible refine(Qbw.calls k m n _ A3.out).mono ?_);rintro e w7 ⟨rfl,hb⟩;refine⟨_,rfl,?_⟩;have n_:=qn2 (Qex (g:=l) (o:=.cells #[.bool a,.int .u64 b,.string c,.string d] 37 (0,0)) qq_0 hb) (Qfy qq_b hb);clear j HB;obtain⟨j,HB⟩:=n_;(try clear hb);(try clear hb2);(try clear hk);(try clear hi)))
 go_ret
 exact⟨qq_5,qq_b⟩
end Go.Proofs.YteaocbonofboeaaGreat.C
end
