/- Merged texts. -/
import Derived.Test.YteaocbonofboeaaGreatME02
import Derived.WalkLawsBesides
import Derived.Recover
import Derived.LaidEqlPtr
import Derived.Test.YteaocbonofboeaaGreatME08
import Derived.Defers
import Derived.Test.YteaocbonofboeaaGreatME07
set_option linter.unusedVariables false
set_option linter.unusedSimpArgs false
set_option maxHeartbeats 8000000
set_option maxRecDepth 100000
section
namespace Go.Proofs.YteaocbonofboeaaGreat.C
open Go.RowKit Go.Proofs.YteaocbonofboeaaGreatW.PrintWords Go.Proofs.YteaocbonofboeaaGreatW.PrintLast Go.Proofs.YteaocbonofboeaaGreatW.PrintMore
theorem Qrx{P:Program}{tp te:TypeId}{j:TypeInfo}(a:Addr)(hp:P.underlying tp=some (.pointer te))(hte:P.info? te=some j)(w:World) :
  (binOp .neq tp (.pointer (some a)) (.pointer (some a))).run P w=.ok (.bool false) w:=by
 have h:∀d:Nat,(Op.equalIn (d+1) tp (.pointer (some a)) (.pointer (some a))).run P w=.ok true w:=fun d=>by simp[Op.equalIn,run_underlying hp,sizeOf,typeInfo,hte,run_sameAddr_same]
 simp only[binOp];simp[Op.equal,Op.maxDepth,h 9999]
theorem Qry{P:Program}{Q:Exit→Act→List Frame→World→Prop}{o:Oper}{id:Nat}{a:Act}{cs:List Frame}{w:World}(hw:Region.wanted o (yielded #[o] a.tmps)=true)(hr:(execOp a.eval o).run P w=.ok .recover w)
  (hc:recoverD cs=none) (h:Q .normal (a.put o.dst .nilIface) cs w):(Code.region id #[o] false).wpS P Q a cs w:=by
 apply wpS_region;show wpOpsS P #[o] Q [0] a cs w;simp only[wpOpsS];show(if Region.wanted o (yielded #[o] a.tmps)=true then _ else _);rw[if_pos hw];simp only[List.getElem_toArray,List.getElem_cons_zero,hr,hc];exact h
theorem Qrz{P:Program}{Q:Exit→Act→List Frame→World→Prop}{o:Oper}{id:Nat}{a:Act}{cs cs':List Frame}{v:Value}{w:World}(hw:Region.wanted o (yielded #[o] a.tmps)=true)(hr:(execOp a.eval o).run P w=.ok .recover w)
  (hc:recoverD cs=some (v,cs')) (h:Q .normal (a.put o.dst v) cs' w):(Code.region id #[o] false).wpS P Q a cs w:=by
 apply wpS_region;show wpOpsS P #[o] Q [0] a cs w;simp only[wpOpsS];show(if Region.wanted o (yielded #[o] a.tmps)=true then _ else _);rw[if_pos hw];simp only[List.getElem_toArray,List.getElem_cons_zero,hr,hc];exact h
theorem Qsa(g ba be bc:Nat)(i x:Int)(v:Value)(w:World)(h0:w.heap[bc]? = some (.cells #[.pointer (some ⟨g,0,none⟩)] 255 (0,0)))
  (h1:w.heap[g]? = some (.cells #[v,.int .i64 i,.bool true] 300 (0,0))) (h2:w.heap[ba]? = some (.cells #[.int .i64 x] 3 (0,0))) :
  CallsD Tryz.prog 218 #[.pointer (some ⟨bc,0,none⟩),.pointer (some ⟨ba,0,none⟩),.pointer (some ⟨be,0,none⟩)] .returning w fun e u' w' =>
   e=.returned (.tuple #[])∧u'=.returning∧w'=(w.setCell ⟨g,2,none⟩ (.bool false)).setCell ⟨ba,0,none⟩ (.int .i64 i):=by
 have hu:=Tryz.underlying300;have n1:bc≠g:=Qdu h0 h1 (by decide);have n2:ba≠g:=Qdu h2 h1 (by decide);have c0:w.cell? ⟨bc,0,none⟩=some (.pointer (some ⟨g,0,none⟩)):=(Qdr h0 0).trans rfl;have c1:w.frozen? ⟨g,2,none⟩=false:=Qds h1 2;have c2:w.cell? ⟨g,2,none⟩=some (.bool true):=(Qdr h1 2).trans rfl;have k0:=Qdp h0 (p:=⟨g,2,none⟩) n1 (.bool false);have k1:=Qdo h1 2 (.bool false);have k2:=Qdp h2 (p:=⟨g,2,none⟩) n2 (.bool false);obtain⟨W1,hW1⟩:∃W1,W1=w.setCell ⟨g,2,none⟩ (.bool false):=⟨_,rfl⟩;rw[← hW1]at k0 k1 k2 ⊢;refine callsD_of_wpS Tryz.func218 rfl fun c₀ cs hm=>?_
 simp only[Tryz.ntmps218,List.size_toArray,List.length_cons,List.length_nil,Nat.reduceAdd,Nat.reduceSub,Array.replicate_succ,Array.replicate_zero,List.push_toArray,List.append_toArray,List.nil_append,List.cons_append];apply wpS_seq;refine wpS_of_wp ?_;go_wp2;simp only[Exit.thenS];rw[← hW1];have d0:W1.cell? ⟨bc,0,none⟩=some (.pointer (some ⟨g,0,none⟩)):=(Qdr k0 0).trans rfl;have d1:W1.cell? ⟨g,1,none⟩=some (.int .i64 i):=(Qdr k1 1).trans rfl;have d2:W1.frozen? ⟨ba,0,none⟩=false:=Qds k2 0;have d3:W1.cell? ⟨ba,0,none⟩=some (.int .i64 x):=(Qdr k2 0).trans rfl;clear c0 c1 c2 hW1 h0 h1 h2;apply wpS_seq;refine wpS_of_wp ?_;go_wp2;simp only[Exit.thenS];apply wpS_seq;refine Qry rfl ?_ ?_ ?_
 ·go_simp
 ·simp[recoverD,hm]
 simp only[Exit.thenS,Act.put,List.setIfInBounds_toArray,List.set_cons_zero,List.set_cons_succ];refine wpS_of_wp ?_;go_wp2;refine⟨rfl,.returning,?_,_,results_none rfl _ _ _,rfl,rfl,rfl⟩
 cases c₀
 simp_all
theorem Qsb(g ba be bc:Nat)(i x y er:Int)(v:Value)(w:World)(h0:w.heap[bc]? = some (.cells #[.pointer (some ⟨g,0,none⟩)] 255 (0,0)))
  (h1:w.heap[g]? = some (.cells #[v,.int .i64 i,.bool true] 300 (0,0))) (h2:w.heap[ba]? = some (.cells #[.int .i64 x] 3 (0,0))) (h3:w.heap[be]? = some (.cells #[.int .i64 y] 31 (0,0))) :
  CallsD Tryz.prog 218 #[.pointer (some ⟨bc,0,none⟩),.pointer (some ⟨ba,0,none⟩),.pointer (some ⟨be,0,none⟩)] (.panicking [Qnb g er]) w fun e u' w' =>
   e=.returned (.tuple #[])∧u'=.panicking [{ Qnb g er with recovered:=true }]∧w'=((((w.setCell ⟨g,2,none⟩ (.bool false)).setCell ⟨ba,0,none⟩ (.int .i64 i)).alloc (.cells #[.pointer (some ⟨g,0,none⟩),.int .i64 er] 302)).setCell ⟨be,0,none⟩ (.int .i64 er)):=by
 have hu:=Tryz.underlying300;have hu2:=Tryz.underlying302;have hu3:=Tryz.underlying255;have n1:bc≠g:=Qdu h0 h1 (by decide);have n2:ba≠g:=Qdu h2 h1 (by decide);have n3:be≠g:=Qdu h3 h1 (by decide);have n4:bc≠ba:=Qdu h0 h2 (by decide);have n5:be≠ba:=Qdu h3 h2 (by decide);have c0:w.cell? ⟨bc,0,none⟩=some (.pointer (some ⟨g,0,none⟩)):=(Qdr h0 0).trans rfl;have c1:w.frozen? ⟨g,2,none⟩=false:=Qds h1 2;have c2:w.cell? ⟨g,2,none⟩=some (.bool true):=(Qdr h1 2).trans rfl;have k0:=Qdp h0 (p:=⟨g,2,none⟩) n1 (.bool false);have k1:=Qdo h1 2 (.bool false);have k2:=Qdp h2 (p:=⟨g,2,none⟩) n2 (.bool false);have k3:=Qdp h3 (p:=⟨g,2,none⟩) n3 (.bool false);obtain⟨W1,hW1⟩:∃W1,W1=w.setCell ⟨g,2,none⟩ (.bool false):=⟨_,rfl⟩;rw[← hW1]at k0 k1 k2 k3 ⊢;have m0:=Qdp k0 (p:=⟨ba,0,none⟩) n4 (.int .i64 i);have m3:=Qdp k3 (p:=⟨ba,0,none⟩) n5 (.int .i64 i);obtain⟨W2,hW2⟩:∃W2,W2=W1.setCell ⟨ba,0,none⟩ (.int .i64 i):=⟨_,rfl⟩;rw[← hW2]at m0 m3 ⊢;obtain⟨j9,hj9⟩:∃j,Tryz.prog.info? 300=some j:=Option.isSome_iff_exists.1 qq_4;have hnp:∀W:World,(binOp .neq 255 (.pointer (some ⟨g,0,none⟩)) (.pointer (some ⟨g,0,none⟩))).run Tryz.prog W=.ok (.bool false) W:=fun W=>Qrx ⟨g,0,none⟩ hu3 hj9 W
 clear hj9;have hta:∀W:World,(Instr.typeAssert (.iface 302 (.agg #[.pointer (some ⟨g,0,none⟩),.int .i64 er])) 20 302 true).run Tryz.prog W=.ok (.tuple #[.agg #[.pointer (some ⟨g,0,none⟩),.int .i64 er],.bool true]) W:=fun W=>by kernel_rfl
 refine callsD_of_wpS Tryz.func218 rfl fun c₀ cs hm=>?_
 simp only[Tryz.ntmps218,List.size_toArray,List.length_cons,List.length_nil,Nat.reduceAdd,Nat.reduceSub,Array.replicate_succ,Array.replicate_zero,List.push_toArray,List.append_toArray,List.nil_append,List.cons_append];apply wpS_seq;refine wpS_of_wp ?_;go_wp2;simp only[Exit.thenS];rw[← hW1];have d0:W1.cell? ⟨bc,0,none⟩=some (.pointer (some ⟨g,0,none⟩)):=(Qdr k0 0).trans rfl;have d1:W1.cell? ⟨g,1,none⟩=some (.int .i64 i):=(Qdr k1 1).trans rfl;have d2:W1.frozen? ⟨ba,0,none⟩=false:=Qds k2 0;have d3:W1.cell? ⟨ba,0,none⟩=some (.int .i64 x):=(Qdr k2 0).trans rfl;clear c0 c1 c2 hW1 h0 h1 h2 h3;apply wpS_seq;refine wpS_of_wp ?_;go_wp2;simp only[Exit.thenS];rw[← hW2];have o0:W2.cell? ⟨bc,0,none⟩=some (.pointer (some ⟨g,0,none⟩)):=(Qdr m0 0).trans rfl;have s0:=Qed m0 (.cells #[.pointer (some ⟨g,0,none⟩),.int .i64 er] 302);have s3:=Qed m3 (.cells #[.pointer (some ⟨g,0,none⟩),.int .i64 er] 302);have s4:=Qeh W2 (.cells #[.pointer (some ⟨g,0,none⟩),.int .i64 er] 302);have p0:(W2.alloc (.cells #[.pointer (some ⟨g,0,none⟩),.int .i64 er] 302)).cell? ⟨bc,0,none⟩=some (.pointer (some ⟨g,0,none⟩)):=(Qdr s0 0).trans rfl;have p1:(W2.alloc (.cells #[.pointer (some ⟨g,0,none⟩),.int .i64 er] 302)).cell? ⟨be,0,none⟩=some (.int .i64 y):=(Qdr s3 0).trans rfl;have p2:(W2.alloc (.cells #[.pointer (some ⟨g,0,none⟩),.int .i64 er] 302)).frozen? ⟨be,0,none⟩=false:=Qds s3 0;have p3:(W2.alloc (.cells #[.pointer (some ⟨g,0,none⟩),.int .i64 er] 302)).cell? ⟨W2.heap.size,0,none⟩=some (.pointer (some ⟨g,0,none⟩)):=(Qdr s4 0).trans rfl;have p4:(W2.alloc (.cells #[.pointer (some ⟨g,0,none⟩),.int .i64 er] 302)).cell? ⟨W2.heap.size,1,none⟩=some (.int .i64 er):=(Qdr s4 1).trans rfl;clear d0 d1 d2 d3 hW2 s0 s3 s4;apply wpS_seq;refine Qrz (v:=.iface 302 (.agg #[.pointer (some ⟨g,0,none⟩),.int .i64 er])) (cs':={ c₀ with mode:=.panicking [{ Qnb g er with recovered:=true }] } :: cs) rfl ?_ ?_ ?_
 ·go_simp
 ·simp[recoverD,hm,Qnb]
 simp only[Exit.thenS,Act.put,List.setIfInBounds_toArray,List.set_cons_zero,List.set_cons_succ];refine wpS_of_wp ?_;go_wp2;refine⟨rfl,_,rfl,_,results_none rfl _ _ _,rfl,rfl,rfl⟩
def Tl(lo g:Nat)(w w':World):Prop:=∀k cs t,lo≤k→w.heap[k]? = some (.cells cs t (0,0))→t≠5→k≠g→w'.heap[k]? = some (.cells cs t (0,0))
def Ty(W W':World):Prop:=∀(k:Nat) (cs:Array Value) (t:TypeId),W.heap[k]? = some (.cells cs t (0,0))→t≠3→t≠31→t≠300→W'.heap[k]? = some (.cells cs t (0,0))
theorem Ty.set{W W1:World}(h:Ty W W1){p:Addr}{cs:Array Value}{t:TypeId}(hp:W1.heap[p.block]? = some (.cells cs t (0,0)))(ht:t=3∨t=31∨t=300)(u:Value):Ty W (W1.setCell p u):=fun k cs' t' h1 h2 h3 h4 =>
 Qdp (h k cs' t' h1 h2 h3 h4) (p:=p) (Qdu (h k cs' t' h1 h2 h3 h4) hp (by rcases ht with rfl|rfl|rfl;exact h2;exact h3;exact h4)) u
theorem Ty.refl(W:World):Ty W W:=fun _ _ _ h _ _ _=>h
theorem Ty.alloc{W W1:World}(h:Ty W W1)(o:Obj):Ty W (W1.alloc o):=fun k cs t h1 h2 h3 h4=>Qed (h k cs t h1 h2 h3 h4) o
theorem Qsc(tmps:Array Value)(W:World)(ba be:Nat)(i er:Int)(h4:tmps[4]? = some (.pointer (some ⟨ba,0,none⟩)))(h5:tmps[5]? = some (.pointer (some ⟨be,0,none⟩)))
  (c4:W.heap[ba]? = some (.cells #[.int .i64 i] 3 (0,0))) (c5:W.heap[be]? = some (.cells #[.int .i64 er] 31 (0,0))) :
  (results Tryz.f169 tmps).run Tryz.prog W=.ok (.tuple #[.int .i64 i,.int .i64 er]) W:=by
 have hr:Tryz.f169.results=#[.cell 4 3,.cell 5 31]:=rfl;have d4:W.cell? ⟨ba,0,none⟩=some (.int .i64 i):=(Qdr c4 0).trans rfl;have d5:W.cell? ⟨be,0,none⟩=some (.int .i64 er):=(Qdr c5 0).trans rfl;have hu1:=Tryz.underlying3;have hu2:=Tryz.underlying31;simp[results,hr,h4,h5,go_sem,loadVar,d4,d5,c4,c5]
theorem Qsd(F:Nat)(cap:Array Value)(A0:Option Addr)(c0:Nat)(l0:List Int)(w:World)(hr0:Kd.C (Kd.int .u8) w A0 l0.length l0)(hl:l0.length≤140737488355328)
  (hcf:∀(as_:Array Value) (W:World),(callFunc F as_).run Tryz.prog W=.ok (.enter F as_) W)
  (Post:Int→Int→World→Prop) (hst:∀er i W W',Post er i W→Below w.heap.size W W'→Ty W W'→Post er i W')
  (hrd:∀(W:World) (g:Nat),w.heap.size≤g→Below w.heap.size w W→IsCur W w.heap.size g l0 0→Calls Tryz.prog F (#[.pointer (some ⟨g,0,none⟩)]++cap) W fun e W'=>∃i,IsCur W' w.heap.size g l0 i∧Tl w.heap.size g W W' ∧
   ((e=.returned (.tuple #[])∧Post 0 i W')∨∃er,e=.panicked [Qnb g er]∧Post er i W')) :
  Calls Tryz.prog 169 #[.slice A0 l0.length c0,.func (.func F) #[] cap] w fun e w'=>∃er i,e=.returned (.tuple #[.int .i64 i,.int .i64 er])∧Post er i w':=by
 have hu:=Tryz.underlying300;have a:=QA hr0;have HRD:=QA @hrd;have HST:=QA @hst;have hmf:∀(fn:Fn) (first cap:Array Value) (w:World),(Instr.makeFunc fn first cap).run Tryz.prog w=.ok (.func fn first cap) w:=fun _ _ _ _=>rfl
 have hnil:∀W:World,(binOp .eql 256 (.func (.func F) #[] cap) .nilFunc).run Tryz.prog W=.ok (.bool false) W:=fun W=>by kernel_rfl
 clear hr0 hrd hst
 go_enter_defers Tryz.func169,Tryz.ntmps169
 go_upto_region 5 with(go_at_call 72;refine(Qjv A0 c0 l0 _ (Kd.C_below a.out (Qcs (Qcs (Below.refl _ _) _) _)) hl).mono ?_;rintro ee w3 ⟨vb,rfl,hR,hb⟩;obtain⟨A,c,hv⟩:=Kd.R_slice hR;subst hv)
 have b0:Below w.heap.size w ((w.alloc (.cells #[.int .i64 0] 3)).alloc (.cells #[.int .i64 0] 31)):=Qcs (Qcs (Below.refl _ _) _) _;have e0:((w.alloc (.cells #[.int .i64 0] 3)).alloc (.cells #[.int .i64 0] 31)).heap.size=w.heap.size+2:=by simp[World.size_alloc]
 have ka:=Qeg (Qed (Qeh w (.cells #[.int .i64 0] 3)) (.cells #[.int .i64 0] 31)) hb;have ke:=Qeg (Qeh (w.alloc (.cells #[.int .i64 0] 3)) (.cells #[.int .i64 0] 31)) hb;rw[World.size_alloc]at ke;have b3:Below w.heap.size w w3:=b0.trans (Qju hb b0.size);have hs3:w.heap.size+2≤w3.heap.size:=by have:=hb.size;omega
 have kc:=Qed (Qeh w3 (.cells #[.slice A l0.length c,.int .i64 0,.bool true] 300)) (.cells #[.pointer (some ⟨w3.heap.size,0,none⟩)] 255);have kp:=Qeh (w3.alloc (.cells #[.slice A l0.length c,.int .i64 0,.bool true] 300)) (.cells #[.pointer (some ⟨w3.heap.size,0,none⟩)] 255);rw[World.size_alloc]at kp;have ka5:=Qed (Qed ka (.cells #[.slice A l0.length c,.int .i64 0,.bool true] 300)) (.cells #[.pointer (some ⟨w3.heap.size,0,none⟩)] 255);have ke5:=Qed (Qed ke (.cells #[.slice A l0.length c,.int .i64 0,.bool true] 300)) (.cells #[.pointer (some ⟨w3.heap.size,0,none⟩)] 255);have b5:Below w.heap.size w ((w3.alloc (.cells #[.slice A l0.length c,.int .i64 0,.bool true] 300)).alloc (.cells #[.pointer (some ⟨w3.heap.size,0,none⟩)] 255)):=b3.trans (Qju (Qcs (Qcs (Below.refl _ _) _) _) b3.size);have hI5:IsCur ((w3.alloc (.cells #[.slice A l0.length c,.int .i64 0,.bool true] 300)).alloc (.cells #[.pointer (some ⟨w3.heap.size,0,none⟩)] 255)) w.heap.size w3.heap.size l0 0:=⟨_,kc,R8.low (R8.kept (R8.kept hR (Qcs (Below.refl _ _) _)) (Qcs (Below.refl _ _) _)) (by rw[e0];omega)⟩;generalize hW5:((w3.alloc (.cells #[.slice A l0.length c,.int .i64 0,.bool true] 300)).alloc (.cells #[.pointer (some ⟨w3.heap.size,0,none⟩)] 255))=W5 at *;have HI5:=QA hI5;have b:=QA b5;have p0:W5.cell? ⟨w3.heap.size+1,0,none⟩=some (.pointer (some ⟨w3.heap.size,0,none⟩)):=(Qdr kp 0).trans rfl;clear hI5 b5 hW5 ka ke b0 e0 hb hR;have ha2:w.heap.size≠w3.heap.size:=by omega
 have he2:w.heap.size+1≠w3.heap.size:=by omega
 have hea:w.heap.size+1≠w.heap.size:=by omega
 have hcg:w3.heap.size+1≠w3.heap.size:=by omega
 go_wp2_with (refine(HRD.out W5 w3.heap.size (by omega) b.out HI5.out).mono ?_;rintro ee w6 ⟨i,hI6,hT6,⟨rfl,hp6⟩ |⟨er,rfl,hp6⟩⟩<;>(obtain⟨v6,kg6,hR6⟩:=hI6;have ka6:=hT6 _ _ _ (by omega) ka5 (by decide) ha2;have ke6:=hT6 _ _ _ (by omega) ke5 (by decide) he2;have kp6:=hT6 _ _ _ (by omega) kp (by decide) hcg;have q0:w6.cell? ⟨w3.heap.size+1,0,none⟩=some (.pointer (some ⟨w3.heap.size,0,none⟩)):=(Qdr kp6 0).trans rfl;have q1:w6.cell? ⟨w3.heap.size,1,none⟩=some (.int .i64 i):=(Qdr kg6 1).trans rfl;have q2:w6.frozen? ⟨w.heap.size,0,none⟩=false:=Qds ka6 0;have q3:w6.cell? ⟨w.heap.size,0,none⟩=some (.int .i64 0):=(Qdr ka6 0).trans rfl;have ke7:=Qdp ke6 (p:=⟨w.heap.size,0,none⟩) hea (.int .i64 i);have q4:(w6.setCell ⟨w.heap.size,0,none⟩ (.int .i64 i)).frozen? ⟨w.heap.size+1,0,none⟩=false:=Qds ke7 0;have q5:(w6.setCell ⟨w.heap.size,0,none⟩ (.int .i64 i)).cell? ⟨w.heap.size+1,0,none⟩=some (.int .i64 0):=(Qdr ke7 0).trans rfl))
 ·have bc8:=Qdp (Qdp kp6 (p:=⟨w.heap.size,0,none⟩) (show w3.heap.size+1≠w.heap.size by omega) (.int .i64 i)) (p:=⟨w.heap.size+1,0,none⟩) (show w3.heap.size+1≠w.heap.size+1 by omega) (.int .i64 0);have g8:=Qdp (Qdp kg6 (p:=⟨w.heap.size,0,none⟩) (show w3.heap.size≠w.heap.size by omega) (.int .i64 i)) (p:=⟨w.heap.size+1,0,none⟩) (show w3.heap.size≠w.heap.size+1 by omega) (.int .i64 0);have ba8:=Qdp (Qdo ka6 0 (.int .i64 i)) (p:=⟨w.heap.size+1,0,none⟩) (show w.heap.size≠w.heap.size+1 by omega) (.int .i64 0);have be8:=Qdo ke7 0 (.int .i64 0);have ba9:=Qdo (Qdp ba8 (p:=⟨w3.heap.size,2,none⟩) ha2 (.bool false)) 0 (.int .i64 i);have be9:=Qdp (Qdp be8 (p:=⟨w3.heap.size,2,none⟩) he2 (.bool false)) (p:=⟨w.heap.size,0,none⟩) hea (.int .i64 i);have bl:Below w.heap.size w6 (((((w6.setCell ⟨w.heap.size,0,none⟩ (.int .i64 i)).setCell ⟨w.heap.size+1,0,none⟩ (.int .i64 0)).setCell ⟨w3.heap.size,2,none⟩ (.bool false)).setCell ⟨w.heap.size,0,none⟩ (.int .i64 i))) :=
   Qjt (Qjt (Qjt (Qjt (Below.refl _ _) (Nat.le_refl _)) (Nat.le_succ _)) (by omega)) (Nat.le_refl _)
  have bt:Ty w6 (((((w6.setCell ⟨w.heap.size,0,none⟩ (.int .i64 i)).setCell ⟨w.heap.size+1,0,none⟩ (.int .i64 0)).setCell ⟨w3.heap.size,2,none⟩ (.bool false)).setCell ⟨w.heap.size,0,none⟩ (.int .i64 i))) :=
   ((((Ty.refl w6).set ka6 (.inl rfl) _).set ke7 (.inr (.inl rfl)) _).set g8 (.inr (.inr rfl)) _).set (Qdp ba8 (p:=⟨w3.heap.size,2,none⟩) ha2 (.bool false)) (.inl rfl) _
  refine leaves_cons (f:=218) (args:=#[.pointer (some ⟨w3.heap.size+1,0,none⟩),.pointer (some ⟨w.heap.size,0,none⟩),.pointer (some ⟨w.heap.size+1,0,none⟩)]) (by simp) (by simp[go_sem]) ?_;refine(Qsa w3.heap.size w.heap.size (w.heap.size+1) (w3.heap.size+1) i i v6 _ bc8 g8 ba8).mono ?_;rintro e u' w'' ⟨rfl,rfl,rfl⟩;show Leaves _ _ _ _ [] .returning _;exact⟨_,Qsc _ _ _ _ i 0 rfl rfl ba9 be9,0,i,rfl,HST.out _ _ _ _ hp6 bl bt⟩
 ·have ba9:=Qdp (Qed (Qdo (Qdp ka6 (p:=⟨w3.heap.size,2,none⟩) ha2 (.bool false)) 0 (.int .i64 i)) (.cells #[.pointer (some ⟨w3.heap.size,0,none⟩),.int .i64 er] 302)) (p:=⟨w.heap.size+1,0,none⟩) (show w.heap.size≠w.heap.size+1 by omega) (.int .i64 er);have be9:=Qdo (Qed (Qdp (Qdp ke6 (p:=⟨w3.heap.size,2,none⟩) he2 (.bool false)) (p:=⟨w.heap.size,0,none⟩) hea (.int .i64 i)) (.cells #[.pointer (some ⟨w3.heap.size,0,none⟩),.int .i64 er] 302)) 0 (.int .i64 er);have s6:w.heap.size≤w6.heap.size:=Nat.le_of_lt (Qdq ka6);have b1:Below w.heap.size w6 ((w6.setCell ⟨w3.heap.size,2,none⟩ (.bool false)).setCell ⟨w.heap.size,0,none⟩ (.int .i64 i)):=Qjt (Qjt (Below.refl _ _) (by omega)) (Nat.le_refl _);have bl:Below w.heap.size w6 ((((w6.setCell ⟨w3.heap.size,2,none⟩ (.bool false)).setCell ⟨w.heap.size,0,none⟩ (.int .i64 i)).alloc (.cells #[.pointer (some ⟨w3.heap.size,0,none⟩),.int .i64 er] 302)).setCell ⟨w.heap.size+1,0,none⟩ (.int .i64 er)) :=
   Qjt (b1.trans (Qju (Qcs (Below.refl _ _) _) (Nat.le_trans s6 b1.size))) (Nat.le_succ _)
  have bt:Ty w6 ((((w6.setCell ⟨w3.heap.size,2,none⟩ (.bool false)).setCell ⟨w.heap.size,0,none⟩ (.int .i64 i)).alloc (.cells #[.pointer (some ⟨w3.heap.size,0,none⟩),.int .i64 er] 302)).setCell ⟨w.heap.size+1,0,none⟩ (.int .i64 er)) :=
   ((((Ty.refl w6).set kg6 (.inr (.inr rfl)) _).set (Qdp ka6 (p:=⟨w3.heap.size,2,none⟩) ha2 (.bool false)) (.inl rfl) _).alloc _).set (Qed (Qdp (Qdp ke6 (p:=⟨w3.heap.size,2,none⟩) he2 (.bool false)) (p:=⟨w.heap.size,0,none⟩) hea (.int .i64 i)) _) (.inr (.inl rfl)) _
  refine leaves_cons (f:=218) (args:=#[.pointer (some ⟨w3.heap.size+1,0,none⟩),.pointer (some ⟨w.heap.size,0,none⟩),.pointer (some ⟨w.heap.size+1,0,none⟩)]) (by simp) (by simp[go_sem]) ?_;refine(Qsb w3.heap.size w.heap.size (w.heap.size+1) (w3.heap.size+1) i 0 0 er v6 _ kp6 kg6 ka6 ke6).mono ?_;rintro e u' w'' ⟨rfl,rfl,rfl⟩;show Leaves _ _ _ _ [] .returning _;exact⟨_,Qsc _ _ _ _ i er rfl rfl ba9 be9,er,i,rfl,HST.out _ _ _ _ hp6 bl bt⟩
theorem Qse(F:Nat)(cap:Array Value)(A0:Option Addr)(c0:Nat)(l0:List Int)(w:World)(hr0:Kd.C (Kd.int .u8) w A0 l0.length l0)(hl:l0.length≤140737488355328)
  (hcf:∀(as_:Array Value) (W:World),(callFunc F as_).run Tryz.prog W=.ok (.enter F as_) W)
  (Post:Int→Int→World→Prop) (hst:∀er i W W',Post er i W→Below w.heap.size W W'→Post er i W')
  (hrd:∀(W:World) (g:Nat),w.heap.size≤g→Below w.heap.size w W→IsCur W w.heap.size g l0 0→Calls Tryz.prog F (#[.pointer (some ⟨g,0,none⟩)]++cap) W fun e W'=>∃i,IsCur W' w.heap.size g l0 i∧Tl w.heap.size g W W' ∧
   ((e=.returned (.tuple #[])∧Post 0 i W')∨∃er,e=.panicked [Qnb g er]∧Post er i W')) :
  Calls Tryz.prog 169 #[.slice A0 l0.length c0,.func (.func F) #[] cap] w fun e w'=>∃er i,e=.returned (.tuple #[.int .i64 i,.int .i64 er])∧Post er i w' :=
 Qsd F cap A0 c0 l0 w hr0 hl hcf Post (fun er i W W' h1 h2 _=>hst er i W W' h1 h2) hrd
def hitE(F T x:Int):Bool:=decide (F≤x) && decide (x<T)
def hitL(F T:Int)(l:List S158):Bool:=l.any (fun e=>hitE F T e.f0)
theorem Qyo(x y f t:Int)(fb tb:Nat)(w:World)(hf:w.cell? ⟨fb,0,none⟩=some (.int .i64 f))(ht:w.cell? ⟨tb,0,none⟩=some (.int .i64 t)) :
  Calls Tryz.prog 85 #[.agg #[.int .u64 x,.int .u8 y],.pointer (some ⟨fb,0,none⟩),.pointer (some ⟨tb,0,none⟩)] w fun e w'=>e=.returned (.bool (hitE (IntKind.u64.wrap f) (IntKind.u64.wrap t) x))∧Below w.heap.size w w':=by
 have hu:=Tryz.underlying158;have hb0:Below w.heap.size w (w.alloc (.cells #[.int .u64 x,.int .u8 y] 158)):=Qcs (Below.refl _ _) _;have bn:=Qeh w (.cells #[.int .u64 x,.int .u8 y] 158);have c0:(w.alloc (.cells #[.int .u64 x,.int .u8 y] 158)).cell? ⟨w.heap.size,0,none⟩=some (.int .u64 x):=(Qdr bn 0).trans rfl;have c1:(w.alloc (.cells #[.int .u64 x,.int .u8 y] 158)).cell? ⟨w.heap.size,1,none⟩=some (.int .u8 y):=(Qdr bn 1).trans rfl;have hf':=(hb0.cell (World.block_lt_of_cell? _ _ hf)).trans hf;have ht':=(hb0.cell (World.block_lt_of_cell? _ _ ht)).trans ht;have HB:=QA hb0;clear hf ht hb0 bn;obtain⟨F,hF⟩:∃F,IntKind.u64.wrap f=F:=⟨_,rfl⟩;obtain⟨T,hT⟩:∃T,IntKind.u64.wrap t=T:=⟨_,rfl⟩;rw[hF,hT]
 by_cases h1:F≤x
 ·have c2:decide (F≤x)=true:=decide_eq_true h1
  by_cases h2:x<T
  ·have c3:decide (x<T)=true:=decide_eq_true h2
   go_enter Tryz.func85,Tryz.ntmps85
   go_wp2;go_ret
   exact⟨by simp[hitE,c2,c3],HB.out⟩
  ·have c3:decide (x<T)=false:=decide_eq_false h2
   go_enter Tryz.func85,Tryz.ntmps85
   go_wp2;go_ret
   exact⟨by simp[hitE,c2,c3],HB.out⟩
 ·have c2:decide (F≤x)=false:=decide_eq_false h1
  go_enter Tryz.func85,Tryz.ntmps85
  go_wp2;go_ret
  exact⟨by simp[hitE,c2],HB.out⟩
theorem idxE_of(A:Option Addr)(c:Nat)(l:List S158)(f t:Int)(fb tb:Nat)(w:World)(hr:Kd.C k158 w A l.length l)(hl:l.length≤140737488355328)(hf:w.cell? ⟨fb,0,none⟩=some (.int .i64 f))(ht:w.cell? ⟨tb,0,none⟩=some (.int .i64 t)) :
  Calls Tryz.prog 137 #[.slice A l.length c,.func (.func 85) #[] #[.pointer (some ⟨fb,0,none⟩),.pointer (some ⟨tb,0,none⟩)]] w fun e w'=>∃r,e=.returned (.int .i64 r)∧decide (0≤r)=hitL (IntKind.u64.wrap f) (IntKind.u64.wrap t) l∧Below w.heap.size w w':=by
 have hu:=Tryz.underlying158;have HR:=QA hr;have HF:=QA hf;have HT:=QA ht;have d:=QA (Below.refl w.heap.size w);clear hr hf ht;obtain⟨F,hF⟩:∃F,IntKind.u64.wrap f=F:=⟨_,rfl⟩;obtain⟨T,hT⟩:∃T,IntKind.u64.wrap t=T:=⟨_,rfl⟩;rw[hF,hT];have HFF:=QA hF;have HTT:=QA hT;clear hF hT
 go_enter Tryz.func137,Tryz.ntmps137
 go_wp2
 go_loopw [5,8] (fun v5 v8 wr=>∃(j:Nat) (iv:Int),j≤l.length∧v8=.int .i64 iv∧Aside0 (iv=(j:Int))∧Aside0 (hitL F T (l.take j)=false)∧Aside0 (Below w.heap.size w wr))
  (fun _ v8 _=>l.length-(intOf v8).toNat)
 case atStart=>exact⟨0,0,Nat.zero_le _,rfl,⟨rfl⟩,⟨rfl⟩,d⟩
 case round =>
  clear d;obtain⟨j,iv,hj,rfl,HJ,HA,HB⟩:=hrel
  by_cases hlt:j<l.length
  ·have hlt2:iv<(l.length:Int):=by have:=HJ.out;omega
   have hge:0≤iv:=by have:=HJ.out;omega
   have hwi:IntKind.i64.wrap (iv+1)=iv+1:=IntWalk.i64_in _ (by omega);obtain⟨ad,hA,a,b⟩:=Qjp HR.out iv hge hlt2;subst hA;replace a:=(HB.out.cell (World.block_lt_of_cell? _ _ a)).trans a;replace b:=(HB.out.cell (World.block_lt_of_cell? _ _ b)).trans b;obtain⟨q,hq⟩:∃q,q=Qjo l iv:=⟨_,rfl⟩;rw[← hq]at a b;have ht2:l.take (j+1)=l.take j++[q]:=by
    rw[hq,HJ.out,List.take_succ_eq_append_getElem hlt]
    congr 1
    simp[Qjo,List.getD,List.getElem?_eq_getElem hlt]
   have HQ:=QA ht2;clear ht2 hq;obtain⟨b5,hb5⟩:∃b5,b5=hitE F T q.f0:=⟨_,rfl⟩;have HC:∀W,Below w.heap.size w W→Calls Tryz.prog 85 #[.agg #[.int .u64 q.f0,.int .u8 q.f1],.pointer (some ⟨fb,0,none⟩),.pointer (some ⟨tb,0,none⟩)] W fun e w'=>e=.returned (.bool b5)∧Below W.heap.size W w':=fun W hW=>by
    have:=Qyo q.f0 q.f1 f t fb tb W ((hW.cell (World.block_lt_of_cell? _ _ HF.out)).trans HF.out) ((hW.cell (World.block_lt_of_cell? _ _ HT.out)).trans HT.out);rw[HFF.out,HTT.out,← hb5]at this;exact this
   have HCC:=QA HC;have g:=QA hb5;clear HC hb5
   cases b5 with
   | false =>
    go_wp2_with (go_at_call 85;refine(HCC.out _ HB.out).mono ?_;rintro ee w1 ⟨rfl,hb1⟩)
    go_roundw
    case rel=>exact⟨j+1,iv+1,hlt,rfl,⟨by have:=HJ.out;omega⟩,⟨by rw[HQ.out];have h9:=HA.out;unfold hitL at h9 ⊢;rw[List.any_append,h9,Bool.false_or];simp[← g.out]⟩,⟨Qcv HB.out HB.out.size hb1⟩⟩
    case measure=>have:=HJ.out;simp[intOf];omega
   | true =>
    go_wp2_with (go_at_call 85;refine(HCC.out _ HB.out).mono ?_;rintro ee w1 ⟨rfl,hb1⟩)
    go_ret
    refine⟨_,rfl,?_,Qcv HB.out HB.out.size hb1⟩;rw[decide_eq_true hge];have hm:q∈l:=by
     have:q∈l.take (j+1):=by rw[HQ.out];simp
     exact List.mem_of_mem_take this
    have:hitL F T l=true:=by
     unfold hitL;rw[List.any_eq_true];exact⟨q,hm,g.out.symm⟩
    rw[this]
  ·obtain rfl:j=l.length:=by omega
   have e1:iv=(l.length:Int):=HJ.out;subst e1;go_wp2;go_ret
   have h:=HA.out;rw[List.take_length]at h;exact⟨_,rfl,by rw[h];rfl,HB.out⟩
theorem hasE_of(A:Option Addr)(c:Nat)(l:List S158)(f t:Int)(fb tb:Nat)(w:World)(hr:Kd.C k158 w A l.length l)(hl:l.length≤140737488355328)(hf:w.cell? ⟨fb,0,none⟩=some (.int .i64 f))(ht:w.cell? ⟨tb,0,none⟩=some (.int .i64 t)) :
  Calls Tryz.prog 84 #[.slice A l.length c,.func (.func 85) #[] #[.pointer (some ⟨fb,0,none⟩),.pointer (some ⟨tb,0,none⟩)]] w fun e w'=>e=.returned (.bool (hitL (IntKind.u64.wrap f) (IntKind.u64.wrap t) l))∧Below w.heap.size w w':=by
 have HI:=QA (idxE_of A c l f t fb tb w hr hl hf ht);clear hr hf ht
 go_enter Tryz.func84,Tryz.ntmps84
 go_wp2_with (go_at_call 137;refine HI.out.mono ?_;rintro ee w1 ⟨r,rfl,hd,hb1⟩)
 go_ret
 exact⟨by rw[← hd];rfl,hb1⟩
end Go.Proofs.YteaocbonofboeaaGreat.C
end
section
namespace Go.Proofs.YteaocbonofboeaaGreat.C
open Go.RowKit Go.Proofs.YteaocbonofboeaaGreatW.PrintWords Go.Proofs.YteaocbonofboeaaGreatW.PrintLast Go.Proofs.YteaocbonofboeaaGreatW.PrintMore
attribute [local go_sem] Qie Qif Qig Qih Qii Qij Qik Qil
def Qaq.l0:Nat→List Int→List (S158)→Int→Int→List (S158)→Int→Option (List Int)
 | 0,_,_,_,_,_,_=>none
 | k+1,x5,x11,x12,x13,x359000,x359001=>if x13<x12 then(if 0≤x13 then(if x13<(x11.length:Int)then(if((Qjo x11 x13).f0)<(IntKind.u64.wrap ((x5.length:Int)))then(if 0≤((Qjo x11 x13).f0)then(if((Qjo x11 x13).f0)<(x5.length:Int)then(Qaq.l0 k (x5.set (((Qjo x11 x13).f0):Int).toNat ((Qjo x11 x13).f1)) x11 x12 (wrap64 (x13+1)) x359000 x359001)else(none))else(none))else(Qaq.l0 k x5 x11 x12 (wrap64 (x13+1)) x359000 x359001))else(none))else(none))else((Qar.f x359000 x359001 (x5.length:Int)).bind fun t365=>(if 0≤t365 then(if t365≤(x5.length:Int)then(some (x5.take (t365:Int).toNat))else(none))else(none)))
def Qaq.f(k:Nat)(l0:List Int)(l1_0:List (S158))(a1_1:Int):Option (List Int):=(Qad.f l0).bind fun t359=>(Qaq.l0 k t359 l1_0 (l1_0.length:Int) 0 l1_0 a1_1)
theorem Qaq.calls (k:Nat) (A0:Option Addr) (c0:Nat) (l0:List Int) (D:Option Addr) (s:Nat) (a:List (S158)) (l:Int) (r:List Int) (w:World) (hr0:Kd.C (Kd.int .u8) w A0 l0.length l0) (hc0:l0.length≤c0) (hr1_0:Kd.C k158 w D a.length a) (hc1_0:a.length≤s) (h:Qaq.f k l0 a l=some r) :
  Calls Tryz.prog 39 #[.slice A0 l0.length c0,.agg #[.slice D a.length s,.int .i64 l]] w fun e w'=>∃av:Value,e=.returned (av)∧Kd.R (Kd.int .u8) 5 w' w.heap.size (fun _=>True) av r∧Below w.heap.size w w':=by
 have hu81:=Tryz.underlying81;have hu158:=Tryz.underlying158;have aM:=QA hr0;have aN:=QA hc0;clear hr0 hc0;have M:=QA hr1_0;have am:=QA hc1_0;clear hr1_0 hc1_0;have HB:=QA (Below.refl w.heap.size w);have H:((Qad.f l0).bind fun O=>(Qaq.l0 k O a (a.length:Int) 0 a l))=some r:=h;clear h;replace H:=Option.bind_eq_some_iff.mp H;obtain⟨O,aw,H⟩:=H;have A3:=QA aw;clear aw;have H':=QA H;clear H
 go_enter Tryz.func39,Tryz.ntmps39
 go_wp2_with (first |((with_reducible refine Qft (N:=3) rfl ?_);refine qq_e 3 #[.slice D a.length s,.int .i64 l] 81 ?_;intro d hg w4 hbox hb;have n_:=qn4 (Qfi qq_b hb) (hbox) (qq_s hg:w.heap.size≤d) (qq_s hg:w.heap.size≤d);clear HB;obtain⟨HB,c,aS,aT⟩:=n_;clear hb hbox hg) |((with_reducible refine Qim (f:=72) rfl ?_);refine Qgo (some 9) rfl rfl Tryz.func72 qq_4 rfl #[.slice A0 l0.length c0] rfl qq_1 ?_;(with_reducible refine(Qad.calls _ _ l0 O _ ?side1 ?side2 A3.out).mono ?_);(case side1=>repeat(first|exact(Kd.C_below aM.out HB.out) |(with_reducible refine Kd.C_alloc ?_ _) |(with_reducible refine Kd.C_drewN ?_ _) |(with_reducible refine Kd.C_drew ?_)));(case side2=>exact aN.out);rintro e w5 ⟨ab,rfl,ax,hb⟩;refine⟨_,rfl,?_⟩;have n_:=qn3 (Kd.R_lower ax (Qfh qq_b)) (Qeg (g:=d) (o:=.cells #[.slice D a.length s,.int .i64 l] 81 (0,0)) qq_0 hb) (Qfi qq_b hb);clear c HB;obtain⟨an,c,HB⟩:=n_;(try clear hb);(try clear hb2);(try clear hk);(try clear hi);(try clear ax);obtain⟨ac,ad⟩:=qc2 c.out;have aC:=Qds c.out))
 go_loopg [13] k (fun kq aO w'=>∃(q:List Int) (b:Int),aO=.int .i64 b∧Aside0 (Qaq.l0 kq q a (a.length:Int) b a l=some r)∧Aside0 (kq≤k)∧Aside0 (Kd.R (Kd.int .u8) 5 w' w.heap.size (fun _=>True) ab q)∧Aside0 (w'.heap[d]? = some (.cells #[(.slice D a.length s),.int .i64 l] 81 (0,0)))∧Aside0 (Below w.heap.size w w'))
 case atStart=>exact⟨(O),(0),qq_5,H',⟨Nat.le_refl _⟩,⟨by(with_reducible repeat(first|apply Kd.R_alloc|apply Kd.R_drewN|apply Kd.R_drew));exact an.out⟩,⟨by(with_reducible repeat(first|apply Qef|apply Qee|apply Qed));exact c.out⟩,⟨qq_b⟩⟩
 case round =>
  clear H'
  try clear ac
  try clear ad
  try clear aC
  obtain⟨q,b,rfl,HA,HK1,HO_5,c,HB⟩:=hrel
  cases gk with
  | zero=>exact absurd HA.out (by simp[Qaq.l0])
  | succ k1 =>
   have H:=HA.out;clear HA;simp only[Qaq.l0]at H
   by_cases c7:b<(a.length:Int)
   ·rw [if_pos c7]at H;have aD:=decide_eq_true c7;clear c7
    by_cases c8:0≤b
    ·rw [if_pos c8]at H;have bj:=decide_eq_true c8;clear c8
     by_cases c9:b<(a.length:Int)
     ·rw [if_pos c9]at H;have bk:=decide_eq_true c9;clear c9
      by_cases c10:((Qjo a b).f0)<(IntKind.u64.wrap ((q.length:Int)))
      ·rw[if_pos c10]at H;have ao:=decide_eq_true c10;clear c10
       by_cases Y:0≤((Qjo a b).f0)
       ·rw[if_pos Y]at H;have aU:=decide_eq_true Y;clear Y
        by_cases Z:((Qjo a b).f0)<(q.length:Int)
        ·rw[if_pos Z]at H;have aV:=decide_eq_true Z;clear Z;obtain⟨W,I⟩:∃y_:List Int,y_=(q.set (((Qjo a b).f0):Int).toNat ((Qjo a b).f1)):=⟨_,rfl⟩;replace H:(Qaq.l0 k1 W a (a.length:Int) (wrap64 (b+1)) a l)=some r:=by first |(rw[I];with_reducible exact H) |(have K:=(Option.bind_some _ _).symm.trans H;rw[I];with_reducible exact K) |(have K:=(Option.bind_some _ _).symm.trans H;with_reducible exact K)|with_reducible exact H |(rw[I];exact H)|exact H
         have ap:=QA I;clear I;have H':=QA H;clear H;have E:0≤(b:Int):=of_decide_eq_true qq_2;have G:b<(a.length:Int):=of_decide_eq_true qq_2;obtain⟨x,X,y,z⟩:=Qjp M.out b E G
         cases X
         replace y:=qq_h HB.out y;replace z:=qq_h HB.out z;replace E:=eq_true E;replace G:=eq_true G
         go_wp2_with (first |((with_reducible refine Qft (N:=7) rfl ?_);refine qq_e 7 #[.int .u64 0,.int .u8 0] 158 ?_;intro j hg aP hbox hb;have n_:=qn8 (Kd.R_below qq_8 hb) (Qeg (g:=d) (o:=.cells #[.slice (some x) a.length s,.int .i64 l] 81 (0,0)) qq_0 hb) (Qfi qq_b hb) (hbox) (qq_s hg:w.heap.size≤j) (qq_s hg:w.heap.size≤j) ((by rw[hg];exact Nat.ne_of_lt (Qdq (g:=d) (o:=.cells #[.slice (some x) a.length s,.int .i64 l] 81 (0,0)) qq_0):d≠j)) ((by rw[hg];exact Nat.ne_of_gt (Qdq (g:=d) (o:=.cells #[.slice (some x) a.length s,.int .i64 l] 81 (0,0)) qq_0):j≠d));clear HO_5 c HB;obtain⟨HO_5,c,HB,n,aq,ar,u,A⟩:=n_;clear hb hbox hg;have aW:=A.out;have aX:=u.out;obtain⟨aE,aF⟩:=qc2 n.out;have aY:=Qds n.out) |((with_reducible refine Qfu (t:=158) (p:=7) rfl ?_);refine Qfs (t:=158) (p:=7) (v:=?vo_w17) (w1:=((aP.setCell ⟨j,0,none⟩ (.int .u64 ((Qjo a b).f0))).setCell ⟨j,1,none⟩ (.int .u8 ((Qjo a b).f1)))) ?hg ?ho ?hn ?hr ?_;(case ho=>rfl);(case hg=>rfl);(case hn=>rfl);(case hr=>exact qq_16);intro L hw;have ay:Aside0 (Kd.R (Kd.int .u8) 5 L w.heap.size (fun _=>True) ab q):=⟨(by rw[hw];exact(by(with_reducible repeat(first|apply Kd.R_alloc|apply Kd.R_drewN|apply Kd.R_drew));exact Kd.R_mono (Kd.R_far (p:=⟨j,1,none⟩) (Kd.R_far (p:=⟨j,0,none⟩) (Kd.R_types HO_5.out n.out (by decide)) (fun _ hk=>hk.2) (.int .u64 ((Qjo a b).f0))) (fun _ hk=>hk.2) (.int .u8 ((Qjo a b).f1))) (fun _ hk=>trivial)))⟩;have az:Aside0 (L.heap[d]? = some (.cells #[.slice (some x) a.length s,.int .i64 l] 81 (0,0))):=⟨(by rw[hw];exact qq_7)⟩;have aA:Aside0 (L.heap[j]? = some (.cells #[.int .u64 ((Qjo a b).f0),.int .u8 ((Qjo a b).f1)] 158 (0,0))):=⟨(by rw[hw];exact qq_x)⟩;have aB:Aside0 (Below w.heap.size w L):=⟨(by rw[hw];exact qq_b)⟩;clear hw HO_5 c n HB;have HO_5:=ay;have c:=az;have n:=aA;have HB:=aB;clear ay az aA aB;obtain⟨aG,aH⟩:=qc2 n.out;have aZ:=Qds n.out;obtain⟨Ao19,co19,eo19⟩:=Kd.R_slice HO_5.out;subst eo19;have ae:0≤(((Qjo a b).f0):Int):=of_decide_eq_true qq_2;have af:(((Qjo a b).f0):Int)<((q.length:Int):Int):=of_decide_eq_true qq_2;obtain⟨go13,co13,eo13,ag,gl13,cl13,HG13⟩:=Kd.R_form HO_5.out (by omega);(first|cases eo13 |(injection eo13 with ea_ en_ ec_;(first|subst ea_ |(injection ea_ with ea_;subst ea_));subst ec_;clear en_));have GB13:=QA ag;have GG13:=QA HG13;clear ag gl13 HG13;obtain⟨aQ,hf13_0⟩:=Kd.R_celln 0 HO_5.out (((Qjo a b).f0):Int) ae af;replace ae:=eq_true ae;replace af:=eq_true af;obtain⟨ba,hz20_⟩:=Kd.R_celln 0 HO_5.out (((Qjo a b).f0):Int) (of_decide_eq_true qq_2) (of_decide_eq_true qq_2);have HP20:=Kd.R_putg HO_5.out (((Qjo a b).f0):Int) ((Qjo a b).f1)) |((with_reducible refine Qfu (t:=5) (p:=28) rfl ?_);refine Qfs (t:=5) (p:=28) (v:=?vo_w21) (w1:=(L.setCell ⟨go13,(((Qjo a b).f0):Int).toNat,none⟩ (.int .u8 ((Qjo a b).f1)))) ?hg ?ho ?hn ?hr ?_;(case ho=>rfl);(case hg=>rfl);(case hn=>rfl);(case hr=>exact qq_16);intro ah hw;have hg:L.grownBy ah (some go13):=(by rw[hw];exact HP20.2);have hp_:Kd.R (Kd.int .u8) 5 ah w.heap.size (fun _=>True) (.slice (some ⟨go13,0,none⟩) q.length co19) W:=(by rw[hw,ap.out];exact HP20.1);clear HP20;have n_:=qn4 (hp_) (Qdt (g:=d) (o:=.cells #[.slice (some x) a.length s,.int .i64 l] 81 (0,0)) qq_0 hg (Kd.R_ne HO_5.out c.out (by decide))) (Qdt (g:=j) (o:=.cells #[.int .u64 ((Qjo a b).f0),.int .u8 ((Qjo a b).f1)] 158 (0,0)) qq_0 hg (Kd.R_ne HO_5.out n.out (by decide))) ((by rw[hw];exact Qfk (HB.out) GB13.out:Below w.heap.size w ah));clear HO_5 c n HB;obtain⟨HO_5,c,n,HB⟩:=n_;clear hg hw hp_))
         go_roundg k1
         case measure=>have:=HK1.out;omega
         case rel=>exact⟨(W),(wrap64 (b+1)),qq_5,H',⟨by have:=HK1.out;omega⟩,⟨by(with_reducible repeat(first|apply Kd.R_alloc|apply Kd.R_drewN|apply Kd.R_drew));exact HO_5.out⟩,⟨by(with_reducible repeat(first|apply Qef|apply Qee|apply Qed));exact c.out⟩,⟨qq_b⟩⟩
        ·rw[if_neg Z]at H;exact absurd H (by simp)
       ·rw[if_neg Y]at H;exact absurd H (by simp)
      ·rw[if_neg c10]at H;have ao:=decide_eq_false c10;clear c10;have H':=QA H;clear H;have E:0≤(b:Int):=of_decide_eq_true qq_2;have G:b<(a.length:Int):=of_decide_eq_true qq_2;obtain⟨x,X,y,z⟩:=Qjp M.out b E G
       cases X
       replace y:=qq_h HB.out y;replace z:=qq_h HB.out z;replace E:=eq_true E;replace G:=eq_true G
       go_wp2_with (first |((with_reducible refine Qft (N:=7) rfl ?_);refine qq_e 7 #[.int .u64 0,.int .u8 0] 158 ?_;intro j hg bn hbox hb;have n_:=qn8 (Kd.R_below qq_8 hb) (Qeg (g:=d) (o:=.cells #[.slice (some x) a.length s,.int .i64 l] 81 (0,0)) qq_0 hb) (Qfi qq_b hb) (hbox) (qq_s hg:w.heap.size≤j) (qq_s hg:w.heap.size≤j) ((by rw[hg];exact Nat.ne_of_lt (Qdq (g:=d) (o:=.cells #[.slice (some x) a.length s,.int .i64 l] 81 (0,0)) qq_0):d≠j)) ((by rw[hg];exact Nat.ne_of_gt (Qdq (g:=d) (o:=.cells #[.slice (some x) a.length s,.int .i64 l] 81 (0,0)) qq_0):j≠d));clear HO_5 c HB;obtain⟨HO_5,c,HB,n,aq,ar,u,A⟩:=n_;clear hb hbox hg;have bb:=A.out;have bc:=u.out;obtain⟨aI,aJ⟩:=qc2 n.out;have bd:=Qds n.out;obtain⟨Ao25,co25,eo25⟩:=Kd.R_slice HO_5.out;subst eo25))
       go_roundg k1
       case measure=>have:=HK1.out;omega
       case rel=>exact⟨(q),(wrap64 (b+1)),qq_5,H',⟨by have:=HK1.out;omega⟩,⟨by(with_reducible repeat(first|apply Kd.R_alloc|apply Kd.R_drewN|apply Kd.R_drew));exact Kd.R_mono (Kd.R_far (p:=⟨j,1,none⟩) (Kd.R_far (p:=⟨j,0,none⟩) (Kd.R_types HO_5.out n.out (by decide)) (fun _ hk=>hk.2) (.int .u64 ((Qjo a b).f0))) (fun _ hk=>hk.2) (.int .u8 ((Qjo a b).f1))) (fun _ hk=>trivial)⟩,⟨by(with_reducible repeat(first|apply Qef|apply Qee|apply Qed));refine Qdp ?_ u.out _;(with_reducible repeat(first|apply Qef|apply Qee|apply Qed));refine Qdp ?_ u.out _;(with_reducible repeat(first|apply Qef|apply Qee|apply Qed));exact c.out⟩,⟨qq_b⟩⟩
     ·rw[if_neg c9]at H;exact absurd H (by simp)
    ·rw[if_neg c8]at H;exact absurd H (by simp)
   ·rw[if_neg c7]at H;have aD:=decide_eq_false c7;clear c7;replace H:=Option.bind_eq_some_iff.mp H;obtain⟨B,ai,H⟩:=H;have aR:=QA ai;clear ai
    by_cases T:0≤B
    ·rw[if_pos T]at H;have be:=eq_true T;have bf:=decide_eq_true T;clear T
     by_cases U:B≤(q.length:Int)
     ·rw[if_pos U]at H;have bg:=eq_true U;have bh:=decide_eq_true U;clear U;obtain⟨aj,J⟩:∃y_:List Int,y_=(q.take (B:Int).toNat):=⟨_,rfl⟩;replace H:(some aj)=some r:=by first |(rw[J];with_reducible exact H) |(have K:=(Option.bind_some _ _).symm.trans H;rw[J];with_reducible exact K) |(have K:=(Option.bind_some _ _).symm.trans H;with_reducible exact K)|with_reducible exact H |(rw[J];exact H)|exact H
      have aa:=QA J;clear J;obtain rfl:=Option.some.inj H;obtain⟨aK,aL⟩:=qc2 c.out;have bi:=Qds c.out;obtain⟨Ao30,co30,eo30⟩:=Kd.R_slice HO_5.out;subst eo30
      go_wp2_with (first |((with_reducible refine Qim (f:=83) rfl ?_);refine Qgo (some 34) rfl rfl Tryz.func83 qq_4 rfl #[.agg #[.slice D a.length s,.int .i64 l],.int .i64 (q.length:Int)] rfl qq_1 ?_;(with_reducible refine(Qar.calls _ _ a l (q.length:Int) B _ ?side1 ?side2 aR.out).mono ?_);(case side1=>repeat(first|exact(Kd.C_below M.out HB.out) |(with_reducible refine Kd.C_alloc ?_ _) |(with_reducible refine Kd.C_drewN ?_ _) |(with_reducible refine Kd.C_drew ?_)));(case side2=>exact am.out);rintro e bo ⟨rfl,hb⟩;refine⟨_,rfl,?_⟩;have n_:=qn3 (Kd.R_below qq_8 hb) (Qeg (g:=d) (o:=.cells #[.slice D a.length s,.int .i64 l] 81 (0,0)) qq_0 hb) (Qfi qq_b hb);clear HO_5 c HB;obtain⟨HO_5,c,HB⟩:=n_;(try clear hb);(try clear hb2);(try clear hk);(try clear hi);have ak:(B:Int)≤((q.length:Int):Int):=of_decide_eq_true qq_2;obtain⟨bl,hi032,_,hsz32,_⟩:=info_parts Qit;have hcut32:=Qet (P:=Tryz.prog) 40 5 .i64 Tryz.underlying40 hi032 Ao30 q.length co30 B (of_decide_eq_true qq_2) ak (Kd.R_reads' HO_5.out).2.1;have hr32:=Kd.R_take (m:=(B:Int).toNat) HO_5.out (by omega);have al:aj.length=(B:Int).toNat:=(by rw[aa.out,List.length_take];omega);rw[← aa.out]at hr32;rw[← al]at hr32 hcut32;clear al hi032 hsz32 HO_5;have au:=QA hr32;clear hr32;replace ak:=eq_true ak))
      go_ret
      exact⟨_,by first|rfl |(simp[Qir,Qis]<;>rfl) |(simp[*,Qir,Qis]<;>rfl),by(with_reducible repeat(first|apply Kd.R_alloc|apply Kd.R_drewN|apply Kd.R_drew));exact au.out,qq_b⟩
     ·rw[if_neg U]at H;exact absurd H (by simp)
    ·rw[if_neg T]at H;exact absurd H (by simp)
end Go.Proofs.YteaocbonofboeaaGreat.C
end
