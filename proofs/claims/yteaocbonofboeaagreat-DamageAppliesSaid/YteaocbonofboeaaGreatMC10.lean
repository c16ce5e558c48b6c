/- Merged texts. -/
import Derived.Test.YteaocbonofboeaaGreatMC02
import Derived.WalkLawsBesides
import Derived.Recover
import Derived.LaidEqlPtr
import Derived.Test.YteaocbonofboeaaGreatMC09
import Derived.Defers
import Derived.Test.YteaocbonofboeaaGreatMC07
import Derived.Test.YteaocbonofboeaaGreatMC04
import Derived.Lib.MakeNoZero
import Derived.Laws.CopyOwn
import Derived.Laws.MathBits
import Derived.Deep.RegionLaw
import Derived.Test.YteaocbonofboeaaGreatMC05
set_option linter.unusedVariables false
set_option linter.unusedSimpArgs false
set_option maxHeartbeats 8000000
set_option maxRecDepth 100000
section
namespace Go.Proofs.YteaocbonofboeaaGreat.C
open Go.RowKit Go.Proofs.YteaocbonofboeaaGreatW.PrintWords Go.Proofs.YteaocbonofboeaaGreatW.PrintLast Go.Proofs.YteaocbonofboeaaGreatW.PrintMore
theorem Qom{P:Program}{tp te:TypeId}{j:TypeInfo}(a:Addr)(hp:P.underlying tp=some (.pointer te))(hte:P.info? te=some j)(w:World) :
  (binOp .neq tp (.pointer (some a)) (.pointer (some a))).run P w=.ok (.bool false) w:=by
 have h:∀d:Nat,(Op.equalIn (d+1) tp (.pointer (some a)) (.pointer (some a))).run P w=.ok true w:=fun d=>by simp[Op.equalIn,run_underlying hp,sizeOf,typeInfo,hte,run_sameAddr_same]
 simp only[binOp];simp[Op.equal,Op.maxDepth,h 9999]
theorem Qon{P:Program}{Q:Exit→Act→List Frame→World→Prop}{o:Oper}{id:Nat}{a:Act}{cs:List Frame}{w:World}(hw:Region.wanted o (yielded #[o] a.tmps)=true)(hr:(execOp a.eval o).run P w=.ok .recover w)
  (hc:recoverD cs=none) (h:Q .normal (a.put o.dst .nilIface) cs w):(Code.region id #[o] false).wpS P Q a cs w:=by
 apply wpS_region;show wpOpsS P #[o] Q [0] a cs w;simp only[wpOpsS];show(if Region.wanted o (yielded #[o] a.tmps)=true then _ else _);rw[if_pos hw];simp only[List.getElem_toArray,List.getElem_cons_zero,hr,hc];exact h
theorem Qoo{P:Program}{Q:Exit→Act→List Frame→World→Prop}{o:Oper}{id:Nat}{a:Act}{cs cs':List Frame}{v:Value}{w:World}(hw:Region.wanted o (yielded #[o] a.tmps)=true)(hr:(execOp a.eval o).run P w=.ok .recover w)
  (hc:recoverD cs=some (v,cs')) (h:Q .normal (a.put o.dst v) cs' w):(Code.region id #[o] false).wpS P Q a cs w:=by
 apply wpS_region;show wpOpsS P #[o] Q [0] a cs w;simp only[wpOpsS];show(if Region.wanted o (yielded #[o] a.tmps)=true then _ else _);rw[if_pos hw];simp only[List.getElem_toArray,List.getElem_cons_zero,hr,hc];exact h
theorem Qop(g ba be bc:Nat)(i x:Int)(v:Value)(w:World)(h0:w.heap[bc]? = some (.cells #[.pointer (some ⟨g,0,none⟩)] 255 (0,0)))
  (h1:w.heap[g]? = some (.cells #[v,.int .i64 i,.bool true] 300 (0,0))) (h2:w.heap[ba]? = some (.cells #[.int .i64 x] 3 (0,0))) :
  CallsD Tryz.prog 218 #[.pointer (some ⟨bc,0,none⟩),.pointer (some ⟨ba,0,none⟩),.pointer (some ⟨be,0,none⟩)] .returning w fun e u' w' =>
   e=.returned (.tuple #[])∧u'=.returning∧w'=(w.setCell ⟨g,2,none⟩ (.bool false)).setCell ⟨ba,0,none⟩ (.int .i64 i):=by
 have hu:=Tryz.underlying300;have n1:bc≠g:=Qdr h0 h1 (by decide);have n2:ba≠g:=Qdr h2 h1 (by decide);have c0:w.cell? ⟨bc,0,none⟩=some (.pointer (some ⟨g,0,none⟩)):=(Qdo h0 0).trans rfl;have c1:w.frozen? ⟨g,2,none⟩=false:=Qdp h1 2;have c2:w.cell? ⟨g,2,none⟩=some (.bool true):=(Qdo h1 2).trans rfl;have k0:=Qdm h0 (p:=⟨g,2,none⟩) n1 (.bool false);have k1:=Qdl h1 2 (.bool false);have k2:=Qdm h2 (p:=⟨g,2,none⟩) n2 (.bool false);obtain⟨W1,hW1⟩:∃W1,W1=w.setCell ⟨g,2,none⟩ (.bool false):=⟨_,rfl⟩;rw[← hW1]at k0 k1 k2 ⊢;refine callsD_of_wpS Tryz.func218 rfl fun c₀ cs hm=>?_
 simp only[Tryz.ntmps218,List.size_toArray,List.length_cons,List.length_nil,Nat.reduceAdd,Nat.reduceSub,Array.replicate_succ,Array.replicate_zero,List.push_toArray,List.append_toArray,List.nil_append,List.cons_append];apply wpS_seq;refine wpS_of_wp ?_;go_wp2;simp only[Exit.thenS];rw[← hW1];have d0:W1.cell? ⟨bc,0,none⟩=some (.pointer (some ⟨g,0,none⟩)):=(Qdo k0 0).trans rfl;have d1:W1.cell? ⟨g,1,none⟩=some (.int .i64 i):=(Qdo k1 1).trans rfl;have d2:W1.frozen? ⟨ba,0,none⟩=false:=Qdp k2 0;have d3:W1.cell? ⟨ba,0,none⟩=some (.int .i64 x):=(Qdo k2 0).trans rfl;clear c0 c1 c2 hW1 h0 h1 h2;apply wpS_seq;refine wpS_of_wp ?_;go_wp2;simp only[Exit.thenS];apply wpS_seq;refine Qon rfl ?_ ?_ ?_
 ·go_simp
 ·simp[recoverD,hm]
 simp only[Exit.thenS,Act.put,List.setIfInBounds_toArray,List.set_cons_zero,List.set_cons_succ];refine wpS_of_wp ?_;go_wp2;refine⟨rfl,.returning,?_,_,results_none rfl _ _ _,rfl,rfl,rfl⟩
 cases c₀
 simp_all
theorem Qoq(g ba be bc:Nat)(i x y er:Int)(v:Value)(w:World)(h0:w.heap[bc]? = some (.cells #[.pointer (some ⟨g,0,none⟩)] 255 (0,0)))
  (h1:w.heap[g]? = some (.cells #[v,.int .i64 i,.bool true] 300 (0,0))) (h2:w.heap[ba]? = some (.cells #[.int .i64 x] 3 (0,0))) (h3:w.heap[be]? = some (.cells #[.int .i64 y] 31 (0,0))) :
  CallsD Tryz.prog 218 #[.pointer (some ⟨bc,0,none⟩),.pointer (some ⟨ba,0,none⟩),.pointer (some ⟨be,0,none⟩)] (.panicking [Qnv g er]) w fun e u' w' =>
   e=.returned (.tuple #[])∧u'=.panicking [{ Qnv g er with recovered:=true }]∧w'=((((w.setCell ⟨g,2,none⟩ (.bool false)).setCell ⟨ba,0,none⟩ (.int .i64 i)).alloc (.cells #[.pointer (some ⟨g,0,none⟩),.int .i64 er] 302)).setCell ⟨be,0,none⟩ (.int .i64 er)):=by
 have hu:=Tryz.underlying300;have hu2:=Tryz.underlying302;have hu3:=Tryz.underlying255;have n1:bc≠g:=Qdr h0 h1 (by decide);have n2:ba≠g:=Qdr h2 h1 (by decide);have n3:be≠g:=Qdr h3 h1 (by decide);have n4:bc≠ba:=Qdr h0 h2 (by decide);have n5:be≠ba:=Qdr h3 h2 (by decide);have c0:w.cell? ⟨bc,0,none⟩=some (.pointer (some ⟨g,0,none⟩)):=(Qdo h0 0).trans rfl;have c1:w.frozen? ⟨g,2,none⟩=false:=Qdp h1 2;have c2:w.cell? ⟨g,2,none⟩=some (.bool true):=(Qdo h1 2).trans rfl;have k0:=Qdm h0 (p:=⟨g,2,none⟩) n1 (.bool false);have k1:=Qdl h1 2 (.bool false);have k2:=Qdm h2 (p:=⟨g,2,none⟩) n2 (.bool false);have k3:=Qdm h3 (p:=⟨g,2,none⟩) n3 (.bool false);obtain⟨W1,hW1⟩:∃W1,W1=w.setCell ⟨g,2,none⟩ (.bool false):=⟨_,rfl⟩;rw[← hW1]at k0 k1 k2 k3 ⊢;have m0:=Qdm k0 (p:=⟨ba,0,none⟩) n4 (.int .i64 i);have m3:=Qdm k3 (p:=⟨ba,0,none⟩) n5 (.int .i64 i);obtain⟨W2,hW2⟩:∃W2,W2=W1.setCell ⟨ba,0,none⟩ (.int .i64 i):=⟨_,rfl⟩;rw[← hW2]at m0 m3 ⊢;obtain⟨j9,hj9⟩:∃j,Tryz.prog.info? 300=some j:=Option.isSome_iff_exists.1 qq_2;have hnp:∀W:World,(binOp .neq 255 (.pointer (some ⟨g,0,none⟩)) (.pointer (some ⟨g,0,none⟩))).run Tryz.prog W=.ok (.bool false) W:=fun W=>Qom ⟨g,0,none⟩ hu3 hj9 W
 clear hj9;have hta:∀W:World,(Instr.typeAssert (.iface 302 (.agg #[.pointer (some ⟨g,0,none⟩),.int .i64 er])) 20 302 true).run Tryz.prog W=.ok (.tuple #[.agg #[.pointer (some ⟨g,0,none⟩),.int .i64 er],.bool true]) W:=fun W=>by kernel_rfl
 refine callsD_of_wpS Tryz.func218 rfl fun c₀ cs hm=>?_
 simp only[Tryz.ntmps218,List.size_toArray,List.length_cons,List.length_nil,Nat.reduceAdd,Nat.reduceSub,Array.replicate_succ,Array.replicate_zero,List.push_toArray,List.append_toArray,List.nil_append,List.cons_append];apply wpS_seq;refine wpS_of_wp ?_;go_wp2;simp only[Exit.thenS];rw[← hW1];have d0:W1.cell? ⟨bc,0,none⟩=some (.pointer (some ⟨g,0,none⟩)):=(Qdo k0 0).trans rfl;have d1:W1.cell? ⟨g,1,none⟩=some (.int .i64 i):=(Qdo k1 1).trans rfl;have d2:W1.frozen? ⟨ba,0,none⟩=false:=Qdp k2 0;have d3:W1.cell? ⟨ba,0,none⟩=some (.int .i64 x):=(Qdo k2 0).trans rfl;clear c0 c1 c2 hW1 h0 h1 h2 h3;apply wpS_seq;refine wpS_of_wp ?_;go_wp2;simp only[Exit.thenS];rw[← hW2];have o0:W2.cell? ⟨bc,0,none⟩=some (.pointer (some ⟨g,0,none⟩)):=(Qdo m0 0).trans rfl;have s0:=Qea m0 (.cells #[.pointer (some ⟨g,0,none⟩),.int .i64 er] 302);have s3:=Qea m3 (.cells #[.pointer (some ⟨g,0,none⟩),.int .i64 er] 302);have s4:=Qee W2 (.cells #[.pointer (some ⟨g,0,none⟩),.int .i64 er] 302);have p0:(W2.alloc (.cells #[.pointer (some ⟨g,0,none⟩),.int .i64 er] 302)).cell? ⟨bc,0,none⟩=some (.pointer (some ⟨g,0,none⟩)):=(Qdo s0 0).trans rfl;have p1:(W2.alloc (.cells #[.pointer (some ⟨g,0,none⟩),.int .i64 er] 302)).cell? ⟨be,0,none⟩=some (.int .i64 y):=(Qdo s3 0).trans rfl;have p2:(W2.alloc (.cells #[.pointer (some ⟨g,0,none⟩),.int .i64 er] 302)).frozen? ⟨be,0,none⟩=false:=Qdp s3 0;have p3:(W2.alloc (.cells #[.pointer (some ⟨g,0,none⟩),.int .i64 er] 302)).cell? ⟨W2.heap.size,0,none⟩=some (.pointer (some ⟨g,0,none⟩)):=(Qdo s4 0).trans rfl;have p4:(W2.alloc (.cells #[.pointer (some ⟨g,0,none⟩),.int .i64 er] 302)).cell? ⟨W2.heap.size,1,none⟩=some (.int .i64 er):=(Qdo s4 1).trans rfl;clear d0 d1 d2 d3 hW2 s0 s3 s4;apply wpS_seq;refine Qoo (v:=.iface 302 (.agg #[.pointer (some ⟨g,0,none⟩),.int .i64 er])) (cs':={ c₀ with mode:=.panicking [{ Qnv g er with recovered:=true }] } :: cs) rfl ?_ ?_ ?_
 ·go_simp
 ·simp[recoverD,hm,Qnv]
 simp only[Exit.thenS,Act.put,List.setIfInBounds_toArray,List.set_cons_zero,List.set_cons_succ];refine wpS_of_wp ?_;go_wp2;refine⟨rfl,_,rfl,_,results_none rfl _ _ _,rfl,rfl,rfl⟩
def Tl(lo g:Nat)(w w':World):Prop:=∀k cs t,lo≤k→w.heap[k]? = some (.cells cs t (0,0))→t≠5→k≠g→w'.heap[k]? = some (.cells cs t (0,0))
def Ty(W W':World):Prop:=∀(k:Nat) (cs:Array Value) (t:TypeId),W.heap[k]? = some (.cells cs t (0,0))→t≠3→t≠31→t≠300→W'.heap[k]? = some (.cells cs t (0,0))
theorem Ty.set{W W1:World}(h:Ty W W1){p:Addr}{cs:Array Value}{t:TypeId}(hp:W1.heap[p.block]? = some (.cells cs t (0,0)))(ht:t=3∨t=31∨t=300)(u:Value):Ty W (W1.setCell p u):=fun k cs' t' h1 h2 h3 h4 =>
 Qdm (h k cs' t' h1 h2 h3 h4) (p:=p) (Qdr (h k cs' t' h1 h2 h3 h4) hp (by rcases ht with rfl|rfl|rfl;exact h2;exact h3;exact h4)) u
theorem Ty.refl(W:World):Ty W W:=fun _ _ _ h _ _ _=>h
theorem Ty.alloc{W W1:World}(h:Ty W W1)(o:Obj):Ty W (W1.alloc o):=fun k cs t h1 h2 h3 h4=>Qea (h k cs t h1 h2 h3 h4) o
theorem Qor(tmps:Array Value)(W:World)(ba be:Nat)(i er:Int)(h4:tmps[4]? = some (.pointer (some ⟨ba,0,none⟩)))(h5:tmps[5]? = some (.pointer (some ⟨be,0,none⟩)))
  (c4:W.heap[ba]? = some (.cells #[.int .i64 i] 3 (0,0))) (c5:W.heap[be]? = some (.cells #[.int .i64 er] 31 (0,0))) :
  (results Tryz.f169 tmps).run Tryz.prog W=.ok (.tuple #[.int .i64 i,.int .i64 er]) W:=by
 have hr:Tryz.f169.results=#[.cell 4 3,.cell 5 31]:=rfl;have d4:W.cell? ⟨ba,0,none⟩=some (.int .i64 i):=(Qdo c4 0).trans rfl;have d5:W.cell? ⟨be,0,none⟩=some (.int .i64 er):=(Qdo c5 0).trans rfl;have hu1:=Tryz.underlying3;have hu2:=Tryz.underlying31;simp[results,hr,h4,h5,go_sem,loadVar,d4,d5,c4,c5]
theorem Qos(F:Nat)(cap:Array Value)(A0:Option Addr)(c0:Nat)(l0:List Int)(w:World)(hr0:Kd.C (Kd.int .u8) w A0 l0.length l0)(hl:l0.length≤140737488355328)
  (hcf:∀(as_:Array Value) (W:World),(callFunc F as_).run Tryz.prog W=.ok (.enter F as_) W)
  (Post:Int→Int→World→Prop) (hst:∀er i W W',Post er i W→Below w.heap.size W W'→Ty W W'→Post er i W')
  (hrd:∀(W:World) (g:Nat),w.heap.size≤g→Below w.heap.size w W→IsCur W w.heap.size g l0 0→Calls Tryz.prog F (#[.pointer (some ⟨g,0,none⟩)]++cap) W fun e W'=>∃i,IsCur W' w.heap.size g l0 i∧Tl w.heap.size g W W' ∧
   ((e=.returned (.tuple #[])∧Post 0 i W')∨∃er,e=.panicked [Qnv g er]∧Post er i W')) :
  Calls Tryz.prog 169 #[.slice A0 l0.length c0,.func (.func F) #[] cap] w fun e w'=>∃er i,e=.returned (.tuple #[.int .i64 i,.int .i64 er])∧Post er i w':=by
 have hu:=Tryz.underlying300;have a:=QA hr0;have HRD:=QA @hrd;have HST:=QA @hst;have hmf:∀(fn:Fn) (first cap:Array Value) (w:World),(Instr.makeFunc fn first cap).run Tryz.prog w=.ok (.func fn first cap) w:=fun _ _ _ _=>rfl
 have hnil:∀W:World,(binOp .eql 256 (.func (.func F) #[] cap) .nilFunc).run Tryz.prog W=.ok (.bool false) W:=fun W=>by kernel_rfl
 clear hr0 hrd hst
 go_enter_defers Tryz.func169,Tryz.ntmps169
 go_upto_region 5 with(go_at_call 72;refine(Qjm A0 c0 l0 _ (Kd.C_below a.out (Qcp (Qcp (Below.refl _ _) _) _)) hl).mono ?_;rintro ee w3 ⟨vb,rfl,hR,hb⟩;obtain⟨A,c,hv⟩:=Kd.R_slice hR;subst hv)
 have b0:Below w.heap.size w ((w.alloc (.cells #[.int .i64 0] 3)).alloc (.cells #[.int .i64 0] 31)):=Qcp (Qcp (Below.refl _ _) _) _;have e0:((w.alloc (.cells #[.int .i64 0] 3)).alloc (.cells #[.int .i64 0] 31)).heap.size=w.heap.size+2:=by simp[World.size_alloc]
 have ka:=Qed (Qea (Qee w (.cells #[.int .i64 0] 3)) (.cells #[.int .i64 0] 31)) hb;have ke:=Qed (Qee (w.alloc (.cells #[.int .i64 0] 3)) (.cells #[.int .i64 0] 31)) hb;rw[World.size_alloc]at ke;have b3:Below w.heap.size w w3:=b0.trans (Qjl hb b0.size);have hs3:w.heap.size+2≤w3.heap.size:=by have:=hb.size;omega
 have kc:=Qea (Qee w3 (.cells #[.slice A l0.length c,.int .i64 0,.bool true] 300)) (.cells #[.pointer (some ⟨w3.heap.size,0,none⟩)] 255);have kp:=Qee (w3.alloc (.cells #[.slice A l0.length c,.int .i64 0,.bool true] 300)) (.cells #[.pointer (some ⟨w3.heap.size,0,none⟩)] 255);rw[World.size_alloc]at kp;have ka5:=Qea (Qea ka (.cells #[.slice A l0.length c,.int .i64 0,.bool true] 300)) (.cells #[.pointer (some ⟨w3.heap.size,0,none⟩)] 255);have ke5:=Qea (Qea ke (.cells #[.slice A l0.length c,.int .i64 0,.bool true] 300)) (.cells #[.pointer (some ⟨w3.heap.size,0,none⟩)] 255);have b5:Below w.heap.size w ((w3.alloc (.cells #[.slice A l0.length c,.int .i64 0,.bool true] 300)).alloc (.cells #[.pointer (some ⟨w3.heap.size,0,none⟩)] 255)):=b3.trans (Qjl (Qcp (Qcp (Below.refl _ _) _) _) b3.size);have hI5:IsCur ((w3.alloc (.cells #[.slice A l0.length c,.int .i64 0,.bool true] 300)).alloc (.cells #[.pointer (some ⟨w3.heap.size,0,none⟩)] 255)) w.heap.size w3.heap.size l0 0:=⟨_,kc,R8.low (R8.kept (R8.kept hR (Qcp (Below.refl _ _) _)) (Qcp (Below.refl _ _) _)) (by rw[e0];omega)⟩;generalize hW5:((w3.alloc (.cells #[.slice A l0.length c,.int .i64 0,.bool true] 300)).alloc (.cells #[.pointer (some ⟨w3.heap.size,0,none⟩)] 255))=W5 at *;have HI5:=QA hI5;have b:=QA b5;have p0:W5.cell? ⟨w3.heap.size+1,0,none⟩=some (.pointer (some ⟨w3.heap.size,0,none⟩)):=(Qdo kp 0).trans rfl;clear hI5 b5 hW5 ka ke b0 e0 hb hR;have ha2:w.heap.size≠w3.heap.size:=by omega
 have he2:w.heap.size+1≠w3.heap.size:=by omega
 have hea:w.heap.size+1≠w.heap.size:=by omega
 have hcg:w3.heap.size+1≠w3.heap.size:=by omega
 go_wp2_with (refine(HRD.out W5 w3.heap.size (by omega) b.out HI5.out).mono ?_;rintro ee w6 ⟨i,hI6,hT6,⟨rfl,hp6⟩ |⟨er,rfl,hp6⟩⟩<;>(obtain⟨v6,kg6,hR6⟩:=hI6;have ka6:=hT6 _ _ _ (by omega) ka5 (by decide) ha2;have ke6:=hT6 _ _ _ (by omega) ke5 (by decide) he2;have kp6:=hT6 _ _ _ (by omega) kp (by decide) hcg;have q0:w6.cell? ⟨w3.heap.size+1,0,none⟩=some (.pointer (some ⟨w3.heap.size,0,none⟩)):=(Qdo kp6 0).trans rfl;have q1:w6.cell? ⟨w3.heap.size,1,none⟩=some (.int .i64 i):=(Qdo kg6 1).trans rfl;have q2:w6.frozen? ⟨w.heap.size,0,none⟩=false:=Qdp ka6 0;have q3:w6.cell? ⟨w.heap.size,0,none⟩=some (.int .i64 0):=(Qdo ka6 0).trans rfl;have ke7:=Qdm ke6 (p:=⟨w.heap.size,0,none⟩) hea (.int .i64 i);have q4:(w6.setCell ⟨w.heap.size,0,none⟩ (.int .i64 i)).frozen? ⟨w.heap.size+1,0,none⟩=false:=Qdp ke7 0;have q5:(w6.setCell ⟨w.heap.size,0,none⟩ (.int .i64 i)).cell? ⟨w.heap.size+1,0,none⟩=some (.int .i64 0):=(Qdo ke7 0).trans rfl))
 ·have bc8:=Qdm (Qdm kp6 (p:=⟨w.heap.size,0,none⟩) (show w3.heap.size+1≠w.heap.size by omega) (.int .i64 i)) (p:=⟨w.heap.size+1,0,none⟩) (show w3.heap.size+1≠w.heap.size+1 by omega) (.int .i64 0);have g8:=Qdm (Qdm kg6 (p:=⟨w.heap.size,0,none⟩) (show w3.heap.size≠w.heap.size by omega) (.int .i64 i)) (p:=⟨w.heap.size+1,0,none⟩) (show w3.heap.size≠w.heap.size+1 by omega) (.int .i64 0);have ba8:=Qdm (Qdl ka6 0 (.int .i64 i)) (p:=⟨w.heap.size+1,0,none⟩) (show w.heap.size≠w.heap.size+1 by omega) (.int .i64 0);have be8:=Qdl ke7 0 (.int .i64 0);have ba9:=Qdl (Qdm ba8 (p:=⟨w3.heap.size,2,none⟩) ha2 (.bool false)) 0 (.int .i64 i);have be9:=Qdm (Qdm be8 (p:=⟨w3.heap.size,2,none⟩) he2 (.bool false)) (p:=⟨w.heap.size,0,none⟩) hea (.int .i64 i);have bl:Below w.heap.size w6 (((((w6.setCell ⟨w.heap.size,0,none⟩ (.int .i64 i)).setCell ⟨w.heap.size+1,0,none⟩ (.int .i64 0)).setCell ⟨w3.heap.size,2,none⟩ (.bool false)).setCell ⟨w.heap.size,0,none⟩ (.int .i64 i))) :=
   Qjk (Qjk (Qjk (Qjk (Below.refl _ _) (Nat.le_refl _)) (Nat.le_succ _)) (by omega)) (Nat.le_refl _)
  have bt:Ty w6 (((((w6.setCell ⟨w.heap.size,0,none⟩ (.int .i64 i)).setCell ⟨w.heap.size+1,0,none⟩ (.int .i64 0)).setCell ⟨w3.heap.size,2,none⟩ (.bool false)).setCell ⟨w.heap.size,0,none⟩ (.int .i64 i))) :=
   ((((Ty.refl w6).set ka6 (.inl rfl) _).set ke7 (.inr (.inl rfl)) _).set g8 (.inr (.inr rfl)) _).set (Qdm ba8 (p:=⟨w3.heap.size,2,none⟩) ha2 (.bool false)) (.inl rfl) _
  refine leaves_cons (f:=218) (args:=#[.pointer (some ⟨w3.heap.size+1,0,none⟩),.pointer (some ⟨w.heap.size,0,none⟩),.pointer (some ⟨w.heap.size+1,0,none⟩)]) (by simp) (by simp[go_sem]) ?_;refine(Qop w3.heap.size w.heap.size (w.heap.size+1) (w3.heap.size+1) i i v6 _ bc8 g8 ba8).mono ?_;rintro e u' w'' ⟨rfl,rfl,rfl⟩;show Leaves _ _ _ _ [] .returning _;exact⟨_,Qor _ _ _ _ i 0 rfl rfl ba9 be9,0,i,rfl,HST.out _ _ _ _ hp6 bl bt⟩
 ·have ba9:=Qdm (Qea (Qdl (Qdm ka6 (p:=⟨w3.heap.size,2,none⟩) ha2 (.bool false)) 0 (.int .i64 i)) (.cells #[.pointer (some ⟨w3.heap.size,0,none⟩),.int .i64 er] 302)) (p:=⟨w.heap.size+1,0,none⟩) (show w.heap.size≠w.heap.size+1 by omega) (.int .i64 er);have be9:=Qdl (Qea (Qdm (Qdm ke6 (p:=⟨w3.heap.size,2,none⟩) he2 (.bool false)) (p:=⟨w.heap.size,0,none⟩) hea (.int .i64 i)) (.cells #[.pointer (some ⟨w3.heap.size,0,none⟩),.int .i64 er] 302)) 0 (.int .i64 er);have s6:w.heap.size≤w6.heap.size:=Nat.le_of_lt (Qdn ka6);have b1:Below w.heap.size w6 ((w6.setCell ⟨w3.heap.size,2,none⟩ (.bool false)).setCell ⟨w.heap.size,0,none⟩ (.int .i64 i)):=Qjk (Qjk (Below.refl _ _) (by omega)) (Nat.le_refl _);have bl:Below w.heap.size w6 ((((w6.setCell ⟨w3.heap.size,2,none⟩ (.bool false)).setCell ⟨w.heap.size,0,none⟩ (.int .i64 i)).alloc (.cells #[.pointer (some ⟨w3.heap.size,0,none⟩),.int .i64 er] 302)).setCell ⟨w.heap.size+1,0,none⟩ (.int .i64 er)) :=
   Qjk (b1.trans (Qjl (Qcp (Below.refl _ _) _) (Nat.le_trans s6 b1.size))) (Nat.le_succ _)
  have bt:Ty w6 ((((w6.setCell ⟨w3.heap.size,2,none⟩ (.bool false)).setCell ⟨w.heap.size,0,none⟩ (.int .i64 i)).alloc (.cells #[.pointer (some ⟨w3.heap.size,0,none⟩),.int .i64 er] 302)).setCell ⟨w.heap.size+1,0,none⟩ (.int .i64 er)) :=
   ((((Ty.refl w6).set kg6 (.inr (.inr rfl)) _).set (Qdm ka6 (p:=⟨w3.heap.size,2,none⟩) ha2 (.bool false)) (.inl rfl) _).alloc _).set (Qea (Qdm (Qdm ke6 (p:=⟨w3.heap.size,2,none⟩) he2 (.bool false)) (p:=⟨w.heap.size,0,none⟩) hea (.int .i64 i)) _) (.inr (.inl rfl)) _
  refine leaves_cons (f:=218) (args:=#[.pointer (some ⟨w3.heap.size+1,0,none⟩),.pointer (some ⟨w.heap.size,0,none⟩),.pointer (some ⟨w.heap.size+1,0,none⟩)]) (by simp) (by simp[go_sem]) ?_;refine(Qoq w3.heap.size w.heap.size (w.heap.size+1) (w3.heap.size+1) i 0 0 er v6 _ kp6 kg6 ka6 ke6).mono ?_;rintro e u' w'' ⟨rfl,rfl,rfl⟩;show Leaves _ _ _ _ [] .returning _;exact⟨_,Qor _ _ _ _ i er rfl rfl ba9 be9,er,i,rfl,HST.out _ _ _ _ hp6 bl bt⟩
theorem Qot(F:Nat)(cap:Array Value)(A0:Option Addr)(c0:Nat)(l0:List Int)(w:World)(hr0:Kd.C (Kd.int .u8) w A0 l0.length l0)(hl:l0.length≤140737488355328)
  (hcf:∀(as_:Array Value) (W:World),(callFunc F as_).run Tryz.prog W=.ok (.enter F as_) W)
  (Post:Int→Int→World→Prop) (hst:∀er i W W',Post er i W→Below w.heap.size W W'→Post er i W')
  (hrd:∀(W:World) (g:Nat),w.heap.size≤g→Below w.heap.size w W→IsCur W w.heap.size g l0 0→Calls Tryz.prog F (#[.pointer (some ⟨g,0,none⟩)]++cap) W fun e W'=>∃i,IsCur W' w.heap.size g l0 i∧Tl w.heap.size g W W' ∧
   ((e=.returned (.tuple #[])∧Post 0 i W')∨∃er,e=.panicked [Qnv g er]∧Post er i W')) :
  Calls Tryz.prog 169 #[.slice A0 l0.length c0,.func (.func F) #[] cap] w fun e w'=>∃er i,e=.returned (.tuple #[.int .i64 i,.int .i64 er])∧Post er i w' :=
 Qos F cap A0 c0 l0 w hr0 hl hcf Post (fun er i W W' h1 h2 _=>hst er i W W' h1 h2) hrd
def Qbc.f(k:Nat)(a0:ByteArray):Option ByteArray:=if a0.size≤70368744177664 then(Qbb.f k (a0.size:Int)).bind fun t=>if t.size≤1000 then some (t++a0)else none else none
theorem Qbc.calls(k:Nat)(a0:ByteArray)(r:ByteArray)(w:World)(h:Qbc.f k a0=some r) :
  Calls Tryz.prog 136 #[.string a0] w fun e w'=>e=.returned (.string r)∧Below w.heap.size w w':=by
 unfold Qbc.f at h
 by_cases hs:a0.size≤70368744177664
 ·rw[if_pos hs]at h;obtain⟨t,ht,h⟩:=Option.bind_eq_some_iff.mp h
  by_cases h1:t.size≤1000
  ·rw[if_pos h1]at h;obtain rfl:=Option.some.inj h;have HT:=QA ht;clear ht h;have hc:t.size+a0.size≤9223372036854775807:=by omega
   go_enter Tryz.func136,Tryz.ntmps136
   go_wp2_with (go_at_call 135;refine(Qbb.calls k _ _ _ HT.out).mono ?_;rintro e w1 ⟨rfl,hb1⟩)
   go_ret
   exact⟨rfl,hb1⟩
  ·rw[if_neg h1]at h;cases h
 ·rw[if_neg hs]at h;cases h
theorem Qrp(n:Int)(h0:0≤n)(h1:n≤140737488355328):Qaa.f 1 n=some (0,n):=by
 have e1:Go.bits .and .u64 1 4294967295=1:=by rw[and_low32 _ (by omega) (by omega)];rfl
 have e2:Go.bits .and .u64 n 4294967295=n%4294967296:=and_low32 _ (by omega) (by omega);have e3:∀x:Int,0≤x→x≤18446744073709551615→IntKind.u64.wrap x=x:=fun x a b=>IntWalk.u64_in x ⟨a,b⟩
 unfold Qaa.f Qab.f;rw[e1,e2];have d1:(1:Int)/4294967296=0:=by decide
 have m0:0≤n%4294967296:=by omega
 have m1:n%4294967296<4294967296:=by omega
 have q0:0≤n/4294967296:=by omega
 have q1:n/4294967296<4294967296:=by omega
 have d2:(n%4294967296)/4294967296=0:=by omega
 have d3:(n/4294967296)/4294967296=0:=by omega
 have z3:IntKind.u64.wrap 0=0:=e3 0 (by omega) (by omega);have zb:Go.bits .and .u64 0 4294967295=0:=by rw[and_low32 _ (by omega) (by omega)];rfl
 simp only[d1,Int.zero_mul,Int.one_mul,z3,e3 _ m0 (by omega),d2,Int.add_zero,Int.zero_add,Int.zero_ediv,zb,e3 _ q0 (by omega),d3,e3 _ h0 (by omega),Option.bind_some]
attribute [local go_sem] Qhx Qhy Qhz Qia
def Fill(w wr:World)(g n bp:Nat)(x:Int):Prop :=
 ∃cur:List Value,wr.heap[g]? = some (.cells cur.toArray 5 (0,0))∧n≤cur.length∧(∀j,j<bp→cur[j]? = some (.int .u8 x))∧Below w.heap.size w wr∧w.heap.size≤g
theorem Fill.splice{w w1:World}{g n bp k:Nat}{x:Int}{cur:List Value}(hc:∀j,j<bp→cur[j]? = some (.int .u8 x))(hl:n≤cur.length)(hbk:bp+k≤n)(hg:w1.heap[g]? = some (.cells (splice cur bp (List.replicate k (.int .u8 x))).toArray 5 (0,0)))(hB:Below w.heap.size w w1)(hle:w.heap.size≤g):Fill w w1 g n (bp+k) x:=by
 refine⟨_,hg,?_,?_,hB,hle⟩
 ·rw[length_splice _ _ _ qq_21];exact hl
 ·intro j hj;unfold Go.splice
  by_cases h1:j<bp
  ·rw[List.getElem?_append_left qq_21,List.getElem?_take_of_lt h1];exact hc j h1
  ·rw[List.getElem?_append_right qq_21,List.length_take,Nat.min_eq_left (by omega),List.getElem?_append_left qq_21];simp[List.getElem?_replicate];omega
theorem Qrq (A0:Option Addr) (c0:Nat) (x:Int) (n:Nat) (w:World) (p:0<n) (hn:n≤140737488355328) (hr0:Kd.C (Kd.int .u8) w A0 1 [x]) :
    Calls Tryz.prog 108 #[.slice A0 1 c0,.int .i64 n] w fun e w'=>∃g,e=.returned (.slice (some ⟨g,0,none⟩) n n)∧Fill w w' g n n x:=by
  have hmul:=Qrp n (by omega) (by omega);obtain⟨ad,c,rfl,_,hK,hcell0⟩:=Kd.C_get hr0 0 0 (by omega) (by omega);have hK':c=[.int .u8 x]:=hK;subst hK';have hcell:=hcell0 0 _ rfl;clear hcell0 hK;have n0:(0:Int)<(n:Int):=by omega
  have n1:(n:Int)≤140737488355328:=by omega
  go_enter Tryz.func108,Tryz.ntmps108
  have hsz1:(Tryz.prog.info? 5).map (·.size)=some 1:=by kernel_rfl
  obtain⟨g,hg⟩:∃g,g=w.heap.size:=⟨_,rfl⟩
  go_wp2_with (go_at_call 157;refine(Qaa.calls 1 n 0 n w hmul).mono ?_;rintro e w' ⟨rfl,hd⟩;obtain⟨q,rfl⟩:=hd.out;clear hd;fail)
  go_at_call 157
  refine(Qaa.calls 1 n 0 n w hmul).mono ?_;rintro e w' ⟨rfl,hd⟩;obtain⟨q,rfl⟩:=hd.out;clear hd;obtain⟨cs,hrunM,hle,hmx⟩:=Lib.run_makeNoZero (P:=Tryz.prog) (w.drewN q) #[3] 40 5 Tryz.underlying40 n (by omega);have hcall:(callFunc 158 #[.int .i64 (n:Int)]).run Tryz.prog (w.drewN q)=.ok (.value (.slice (some ⟨w.heap.size,0,none⟩) n cs.size)) ((w.alloc (.cells cs 5)).drewN (q+2)):=by
    rw[run_callFunc_extern Tryz.func158 qq_2 qq_2 qq_2 (e:=Extern.BytealgMakeNoZero.makeNoZero #[3] #[40]) qq_2,hrunM];rfl
  clear hrunM hmx;have i1:(n:Int)≤(cs.size:Int):=by omega
  have hcell':((w.alloc (.cells cs 5)).drewN (q+2)).cell? (ad.add 0)=some (.int .u8 x):=by
    rw[World.cell?_drewN];exact(((Below.refl _ w).alloc (Nat.le_refl _) _).cell (World.block_lt_of_cell? w _ hcell)).trans hcell
  obtain⟨W0,hW0⟩:∃W0,((w.alloc (.cells cs 5)).drewN (q+2))=W0:=⟨_,rfl⟩;have hh0:W0.heap[g]? = some (.cells cs.toList.toArray 5 (0,0)):=by rw[← hW0,hg];simpa using heap_alloc_new w (.cells cs 5)
  have hb0:Below w.heap.size w W0:=by rw[← hW0];exact Qcr ((Below.refl _ w).alloc (Nat.le_refl _) _) _
  rw[hW0]at hcall hcell';clear hW0;have HG:=QA hg;rw[← hg]at hcall;clear hg
  by_cases hbig:8192<(n:Int)
  all_goals
    go_wp2_with (refine wpList_copy_splice rfl (.tmp 58) (.tmp 59) 40 40 ?ho 5 Tryz.underlying40 hsz1 (some ⟨g,0,none⟩) (some ad) n n 1 c0 ?hd ?hs g 0 cs.toList 5 hh0 [.int .u8 x] ?hn ?hpos ?hfit ?h1 w.heap.size w hb0 ?hBg ?_;(case ho=>rfl);(case hd=>rfl);(case hs=>rfl);(case hn=>simp[Nat.min_def];omega);(case hpos=>intro _;refine⟨rfl,ad,rfl,fun j v hj=>?_⟩;cases j with|zero=>(simp at hj;subst hj;exact hcell')|succ j=>(simp at hj));(case hfit=>simp;omega);(case h1=>intro v hv;simp at hv;subst hv;rfl);(case hBg=>rw[HG.out];exact Nat.le_refl _);intro w1 HG1 hb1)
    have b:Fill w w1 g n (0+1) x:=Fill.splice (cur:=cs.toList) (bp:=0) (k:=1) (by intro j hj;omega) (by simpa using hle) (by omega) HG1.out hb1 (by rw[HG.out];exact Nat.le_refl _);clear HG1 hb1
    go_loopw [10] (fun a wr=>∃(bp:Nat),1≤bp∧bp≤n∧a=.int .i64 (bp:Int)∧Aside0 (Fill w wr g n bp x)) (fun a _=>n-(intOf a).toNat)
    case atStart=>exact⟨1,Nat.le_refl _,by omega,rfl,⟨b⟩⟩
    case round =>
      clear b;obtain⟨bp,hb1,hb2,rfl,HF⟩:=hrel
      by_cases hlt:bp<n
      · by_cases c8:8192<(bp:Int)
        all_goals first |(exfalso;omega)|skip
        all_goals
         obtain⟨ch,hch1,hch2,hcb⟩:∃ch:Nat,1≤ch∧ch≤bp∧((8192<(n:Int)→8192<(bp:Int)→ch=8192)∧(¬8192<(bp:Int)→ch=bp)∧(¬8192<(n:Int)→ch=bp)):=by
          by_cases c:8192<(n:Int)∧8192<(bp:Int)
          · exact⟨8192,by omega,by omega,fun _ _=>rfl,by omega,by omega⟩
          · exact⟨bp,by omega,by omega,by omega,by omega,by omega⟩
         have e3:(if 8192<(bp:Int)then(8192:Int)else(bp:Int))≤(n:Int):=by split<;>omega
         first|rw[if_pos c8]at e3|rw[if_neg c8]at e3
         have HCB:=QA hcb;clear hcb;obtain⟨cur,hcur,hcl,hcx,hB,hle2⟩:=HF.out;obtain⟨kk,hkk⟩:∃kk,kk=Nat.min ch (n-bp):=⟨_,rfl⟩;have hk1:1≤kk∧kk≤ch∧kk≤n-bp:=by
           have h1:kk≤ch:=by rw[hkk];exact Nat.min_le_left _ _
           have h2:kk≤n-bp:=by rw[hkk];exact Nat.min_le_right _ _
           have h3:1≤kk:=by rw[hkk];exact Nat.le_min.2 ⟨hch1,by omega⟩
           exact⟨h3,h1,h2⟩
         have HKK:=QA hkk;clear hkk;have hcells:∀j,j<ch→wr.cell? ⟨g,j,none⟩=some (.int .u8 x):=by
           intro j hj;have:=hcx j (by omega);simp[World.cell?,hcur,this]
         have HCELLS:=QA hcells;have HCUR:=QA hcur;have HCX:=QA hcx;have HCL:=QA hcl;have HB:=QA hB;have HLE:=QA hle2;clear hcells hcur hcx hcl hB hle2 HF;have e1:(bp:Int)<(n:Int):=by omega
         have e2:(ch:Int)≤(n:Int):=by omega
         have d:=QA (show(List.replicate kk (Value.int .u8 x)).length=Nat.min ch (n-bp)by rw[List.length_replicate];exact HKK.out);have h:=QA (show ∀j v,(List.replicate kk (Value.int .u8 x))[j]? = some v→wr.cell? ((⟨g,0,none⟩:Addr).add j)=some v by
           intro j v hj;rw[List.getElem?_replicate]at hj;split at hj
           · injection hj with hj
             subst hj;rw[Qcu];exact HCELLS.out j (by omega)
           · cases hj)
         have l:=QA (show bp+(List.replicate kk (Value.int .u8 x)).length≤cur.length by rw[List.length_replicate];have:=HCL.out;omega);have m:=QA (show ∀v∈List.replicate kk (Value.int .u8 x),v.oneCell'=true by intro v hv;rw[(List.mem_replicate.1 hv).2];rfl)
         go_wp2_with fail
         go_region_law (refine step_copy_splice rfl (.tmp 70) (.tmp 73) 40 40 rfl 5 Tryz.underlying40 hsz1 (some ⟨g,bp,none⟩) (some ⟨g,0,none⟩) (n-bp) (n-bp) ch n (by(try simp[Act.eval,Act.put])<;>omega) (by(try simp[Act.eval,Act.put])<;>(have:=HCB.out;omega)) g bp cur 5 HCUR.out (List.replicate kk (.int .u8 x)) d.out (fun _=>⟨rfl,_,rfl,h.out⟩) l.out m.out w.heap.size w (by first|exact HB.out|exact Qcq HB.out) HLE.out ?_;intro w4 HG4 hb4)
         have o:Fill w w4 g n (bp+kk) x:=Fill.splice HCX.out HCL.out (by omega) HG4.out hb4 HLE.out;clear HG4 hb4;go_wp2
         go_roundw
         case rel=>exact⟨bp+kk,by omega,by omega,by rw[IntWalk.i64_in _ (by omega)];go_num,⟨o⟩⟩
         case measure=>simp[intOf,IntWalk.i64_in ((bp:Int)+(kk:Int)) (by omega)];omega
      · obtain rfl:bp=n:=by omega
        go_wp2;go_ret
        exact⟨g,rfl,HF.out⟩
theorem Qrr{w w':World}{g n:Nat}{x:Int}(h:Fill w w' g n n x)(hn:n≤9223372036854775807):Kd.C (Kd.int .u8) w' (some ⟨g,0,none⟩) n (List.replicate n x):=by
 obtain⟨cur,h1,h2,h3,h4,h5⟩:=h;refine Kd.C_of_reads (d:=(0:Int)) ⟨List.length_replicate,hn,fun _=>⟨_,rfl,fun j hj=>?_⟩⟩;rw[Qcu,Qdo h1];simp[h3 j hj,List.getD_eq_getElem?_getD,List.getElem?_replicate,hj]
theorem Qrs(A0:Option Addr)(c0:Nat)(x:Int)(n:Nat)(w:World)(hn:n≤140737488355328)(hr0:Kd.C (Kd.int .u8) w A0 1 [x]) :
  Calls Tryz.prog 108 #[.slice A0 1 c0,.int .i64 n] w fun e w'=>∃A c,e=.returned (.slice A n c)∧n≤c∧Kd.C (Kd.int .u8) w' A n (List.replicate n x)∧Below w.heap.size w w':=by
 rcases Nat.eq_zero_or_pos n with rfl|hp
 ·go_enter Tryz.func108,Tryz.ntmps108
  go_wp2;go_ret
  exact⟨_,_,rfl,Nat.le_refl _,⟨rfl,by omega,fun h=>absurd h (by omega)⟩,Qcp (Below.refl _ _) _⟩
 ·refine(Qrq A0 c0 x n w hp hn hr0).mono ?_;rintro e w' ⟨g,rfl,hF⟩;refine⟨_,_,rfl,Nat.le_refl _,Qrr hF (by omega),?_⟩;obtain⟨cur,h1,h2,h3,h4,h5⟩:=hF;exact h4
def hitE(F T x:Int):Bool:=decide (F≤x) && decide (x<T)
def hitL(F T:Int)(l:List S158):Bool:=l.any (fun e=>hitE F T e.f0)
theorem Qvs(x y f t:Int)(fb tb:Nat)(w:World)(hf:w.cell? ⟨fb,0,none⟩=some (.int .i64 f))(ht:w.cell? ⟨tb,0,none⟩=some (.int .i64 t)) :
  Calls Tryz.prog 85 #[.agg #[.int .u64 x,.int .u8 y],.pointer (some ⟨fb,0,none⟩),.pointer (some ⟨tb,0,none⟩)] w fun e w'=>e=.returned (.bool (hitE (IntKind.u64.wrap f) (IntKind.u64.wrap t) x))∧Below w.heap.size w w':=by
 have hu:=Tryz.underlying158;have hb0:Below w.heap.size w (w.alloc (.cells #[.int .u64 x,.int .u8 y] 158)):=Qcp (Below.refl _ _) _;have bn:=Qee w (.cells #[.int .u64 x,.int .u8 y] 158);have c0:(w.alloc (.cells #[.int .u64 x,.int .u8 y] 158)).cell? ⟨w.heap.size,0,none⟩=some (.int .u64 x):=(Qdo bn 0).trans rfl;have c1:(w.alloc (.cells #[.int .u64 x,.int .u8 y] 158)).cell? ⟨w.heap.size,1,none⟩=some (.int .u8 y):=(Qdo bn 1).trans rfl;have hf':=(hb0.cell (World.block_lt_of_cell? _ _ hf)).trans hf;have ht':=(hb0.cell (World.block_lt_of_cell? _ _ ht)).trans ht;have HB:=QA hb0;clear hf ht hb0 bn;obtain⟨F,hF⟩:∃F,IntKind.u64.wrap f=F:=⟨_,rfl⟩;obtain⟨T,hT⟩:∃T,IntKind.u64.wrap t=T:=⟨_,rfl⟩;rw[hF,hT]
 by_cases h1:F≤x
 ·have c2:decide (F≤x)=true:=decide_eq_true h1
  by_cases h2:x<T
  ·have c3:decide (x<T)=true:=decide_eq_true h2
   go_enter Tryz.func85,Tryz.ntmps85
   go_wp2;go_ret
   exact⟨by simp[hitE,c2,c3],HB.out⟩
  ·have c3:decide (x<T)=false:=decide_eq_false h2
   go_enter Tryz.func85,Tryz.ntmps85
   go_wp2;go_ret
   exact⟨by simp[hitE,c2,c3],HB.out⟩
 ·have c2:decide (F≤x)=false:=decide_eq_false h1
  go_enter Tryz.func85,Tryz.ntmps85
  go_wp2;go_ret
  exact⟨by simp[hitE,c2],HB.out⟩
theorem idxE_of(A:Option Addr)(c:Nat)(l:List S158)(f t:Int)(fb tb:Nat)(w:World)(hr:Kd.C k158 w A l.length l)(hl:l.length≤140737488355328)(hf:w.cell? ⟨fb,0,none⟩=some (.int .i64 f))(ht:w.cell? ⟨tb,0,none⟩=some (.int .i64 t)) :
  Calls Tryz.prog 137 #[.slice A l.length c,.func (.func 85) #[] #[.pointer (some ⟨fb,0,none⟩),.pointer (some ⟨tb,0,none⟩)]] w fun e w'=>∃r,e=.returned (.int .i64 r)∧decide (0≤r)=hitL (IntKind.u64.wrap f) (IntKind.u64.wrap t) l∧Below w.heap.size w w':=by
 have hu:=Tryz.underlying158;have HR:=QA hr;have HF:=QA hf;have HT:=QA ht;have d:=QA (Below.refl w.heap.size w);clear hr hf ht;obtain⟨F,hF⟩:∃F,IntKind.u64.wrap f=F:=⟨_,rfl⟩;obtain⟨T,hT⟩:∃T,IntKind.u64.wrap t=T:=⟨_,rfl⟩;rw[hF,hT];have HFF:=QA hF;have HTT:=QA hT;clear hF hT
 go_enter Tryz.func137,Tryz.ntmps137
 go_wp2
 go_loopw [5,8] (fun v5 v8 wr=>∃(j:Nat) (iv:Int),j≤l.length∧v8=.int .i64 iv∧Aside0 (iv=(j:Int))∧Aside0 (hitL F T (l.take j)=false)∧Aside0 (Below w.heap.size w wr))
  (fun _ v8 _=>l.length-(intOf v8).toNat)
 case atStart=>exact⟨0,0,Nat.zero_le _,rfl,⟨rfl⟩,⟨rfl⟩,d⟩
 case round =>
  clear d;obtain⟨j,iv,hj,rfl,HJ,HA,HB⟩:=hrel
  by_cases hlt:j<l.length
  ·have hlt2:iv<(l.length:Int):=by have:=HJ.out;omega
   have hge:0≤iv:=by have:=HJ.out;omega
   have hwi:IntKind.i64.wrap (iv+1)=iv+1:=IntWalk.i64_in _ (by omega);obtain⟨ad,hA,a,b⟩:=Qjd HR.out iv hge hlt2;subst hA;replace a:=(HB.out.cell (World.block_lt_of_cell? _ _ a)).trans a;replace b:=(HB.out.cell (World.block_lt_of_cell? _ _ b)).trans b;obtain⟨q,hq⟩:∃q,q=Qjc l iv:=⟨_,rfl⟩;rw[← hq]at a b;have ht2:l.take (j+1)=l.take j++[q]:=by
    rw[hq,HJ.out,List.take_succ_eq_append_getElem hlt]
    congr 1
    simp[Qjc,List.getD,List.getElem?_eq_getElem hlt]
   have HQ:=QA ht2;clear ht2 hq;obtain⟨b5,hb5⟩:∃b5,b5=hitE F T q.f0:=⟨_,rfl⟩;have HC:∀W,Below w.heap.size w W→Calls Tryz.prog 85 #[.agg #[.int .u64 q.f0,.int .u8 q.f1],.pointer (some ⟨fb,0,none⟩),.pointer (some ⟨tb,0,none⟩)] W fun e w'=>e=.returned (.bool b5)∧Below W.heap.size W w':=fun W hW=>by
    have:=Qvs q.f0 q.f1 f t fb tb W ((hW.cell (World.block_lt_of_cell? _ _ HF.out)).trans HF.out) ((hW.cell (World.block_lt_of_cell? _ _ HT.out)).trans HT.out);rw[HFF.out,HTT.out,← hb5]at this;exact this
   have HCC:=QA HC;have g:=QA hb5;clear HC hb5
   cases b5 with
   | false =>
    go_wp2_with (go_at_call 85;refine(HCC.out _ HB.out).mono ?_;rintro ee w1 ⟨rfl,hb1⟩)
    go_roundw
    case rel=>exact⟨j+1,iv+1,hlt,rfl,⟨by have:=HJ.out;omega⟩,⟨by rw[HQ.out];have h9:=HA.out;unfold hitL at h9 ⊢;rw[List.any_append,h9,Bool.false_or];simp[← g.out]⟩,⟨Qcs HB.out HB.out.size hb1⟩⟩
    case measure=>have:=HJ.out;simp[intOf];omega
   | true =>
    go_wp2_with (go_at_call 85;refine(HCC.out _ HB.out).mono ?_;rintro ee w1 ⟨rfl,hb1⟩)
    go_ret
    refine⟨_,rfl,?_,Qcs HB.out HB.out.size hb1⟩;rw[decide_eq_true hge];have hm:q∈l:=by
     have:q∈l.take (j+1):=by rw[HQ.out];simp
     exact List.mem_of_mem_take this
    have:hitL F T l=true:=by
     unfold hitL;rw[List.any_eq_true];exact⟨q,hm,g.out.symm⟩
    rw[this]
  ·obtain rfl:j=l.length:=by omega
   have e1:iv=(l.length:Int):=HJ.out;subst e1;go_wp2;go_ret
   have h:=HA.out;rw[List.take_length]at h;exact⟨_,rfl,by rw[h];rfl,HB.out⟩
theorem hasE_of(A:Option Addr)(c:Nat)(l:List S158)(f t:Int)(fb tb:Nat)(w:World)(hr:Kd.C k158 w A l.length l)(hl:l.length≤140737488355328)(hf:w.cell? ⟨fb,0,none⟩=some (.int .i64 f))(ht:w.cell? ⟨tb,0,none⟩=some (.int .i64 t)) :
  Calls Tryz.prog 84 #[.slice A l.length c,.func (.func 85) #[] #[.pointer (some ⟨fb,0,none⟩),.pointer (some ⟨tb,0,none⟩)]] w fun e w'=>e=.returned (.bool (hitL (IntKind.u64.wrap f) (IntKind.u64.wrap t) l))∧Below w.heap.size w w':=by
 have HI:=QA (idxE_of A c l f t fb tb w hr hl hf ht);clear hr hf ht
 go_enter Tryz.func84,Tryz.ntmps84
 go_wp2_with (go_at_call 137;refine HI.out.mono ?_;rintro ee w1 ⟨r,rfl,hd,hb1⟩)
 go_ret
 exact⟨by rw[← hd];rfl,hb1⟩
end Go.Proofs.YteaocbonofboeaaGreat.C
end
