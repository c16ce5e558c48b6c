/- Merged texts. -/
import Derived.Test.YteaocbonofboeaaGreatMB02
import Derived.WalkLawsBesides
import Derived.Recover
import Derived.Defers
import Derived.Test.YteaocbonofboeaaGreatMB07
import Derived.Test.YteaocbonofboeaaGreatMB09
import Derived.Test.YteaocbonofboeaaGreatMB10
import Derived.Test.YteaocbonofboeaaGreatMB05
import Derived.Test.YteaocbonofboeaaGreatMB06
set_option linter.unusedVariables false
set_option linter.unusedSimpArgs false
set_option maxHeartbeats 8000000
set_option maxRecDepth 100000
section
namespace Go.Proofs.YteaocbonofboeaaGreat.C
open Go.RowKit Go.Proofs.YteaocbonofboeaaGreatW.PrintWords Go.Proofs.YteaocbonofboeaaGreatW.PrintLast Go.Proofs.YteaocbonofboeaaGreatW.PrintMore
def Tl(lo g:Nat)(w w':World):Prop:=∀k cs t,lo≤k→w.heap[k]? = some (.cells cs t (0,0))→t≠5→k≠g→w'.heap[k]? = some (.cells cs t (0,0))
def Ty(W W':World):Prop:=∀(k:Nat) (cs:Array Value) (t:TypeId),W.heap[k]? = some (.cells cs t (0,0))→t≠3→t≠31→t≠300→W'.heap[k]? = some (.cells cs t (0,0))
theorem Ty.set{W W1:World}(h:Ty W W1){p:Addr}{cs:Array Value}{t:TypeId}(hp:W1.heap[p.block]? = some (.cells cs t (0,0)))(ht:t=3∨t=31∨t=300)(u:Value):Ty W (W1.setCell p u):=fun k cs' t' h1 h2 h3 h4 =>
 Qdu (h k cs' t' h1 h2 h3 h4) (p:=p) (Qdz (h k cs' t' h1 h2 h3 h4) hp (by rcases ht with rfl|rfl|rfl;exact h2;exact h3;exact h4)) u
theorem Ty.refl(W:World):Ty W W:=fun _ _ _ h _ _ _=>h
theorem Ty.alloc{W W1:World}(h:Ty W W1)(o:Obj):Ty W (W1.alloc o):=fun k cs t h1 h2 h3 h4=>Qei (h k cs t h1 h2 h3 h4) o
theorem Qsp(tmps:Array Value)(W:World)(ba be:Nat)(i er:Int)(h4:tmps[4]? = some (.pointer (some ⟨ba,0,none⟩)))(h5:tmps[5]? = some (.pointer (some ⟨be,0,none⟩)))
  (c4:W.heap[ba]? = some (.cells #[.int .i64 i] 3 (0,0))) (c5:W.heap[be]? = some (.cells #[.int .i64 er] 31 (0,0))) :
  (results Tryz.f169 tmps).run Tryz.prog W=.ok (.tuple #[.int .i64 i,.int .i64 er]) W:=by
 have hr:Tryz.f169.results=#[.cell 4 3,.cell 5 31]:=rfl;have d4:W.cell? ⟨ba,0,none⟩=some (.int .i64 i):=(Qdw c4 0).trans rfl;have d5:W.cell? ⟨be,0,none⟩=some (.int .i64 er):=(Qdw c5 0).trans rfl;have hu1:=Tryz.underlying3;have hu2:=Tryz.underlying31;simp[results,hr,h4,h5,go_sem,loadVar,d4,d5,c4,c5]
theorem Qsq(F:Nat)(cap:Array Value)(A0:Option Addr)(c0:Nat)(l0:List Int)(w:World)(hr0:Kd.C (Kd.int .u8) w A0 l0.length l0)(hl:l0.length≤140737488355328)
  (hcf:∀(as_:Array Value) (W:World),(callFunc F as_).run Tryz.prog W=.ok (.enter F as_) W)
  (Post:Int→Int→World→Prop) (hst:∀er i W W',Post er i W→Below w.heap.size W W'→Ty W W'→Post er i W')
  (hrd:∀(W:World) (g:Nat),w.heap.size≤g→Below w.heap.size w W→IsCur W w.heap.size g l0 0→Calls Tryz.prog F (#[.pointer (some ⟨g,0,none⟩)]++cap) W fun e W'=>∃i,IsCur W' w.heap.size g l0 i∧Tl w.heap.size g W W' ∧
   ((e=.returned (.tuple #[])∧Post 0 i W')∨∃er,e=.panicked [Qno g er]∧Post er i W')) :
  Calls Tryz.prog 169 #[.slice A0 l0.length c0,.func (.func F) #[] cap] w fun e w'=>∃er i,e=.returned (.tuple #[.int .i64 i,.int .i64 er])∧Post er i w':=by
 have hu:=Tryz.underlying300;have a:=QA hr0;have HRD:=QA @hrd;have HST:=QA @hst;have hmf:∀(fn:Fn) (first cap:Array Value) (w:World),(Instr.makeFunc fn first cap).run Tryz.prog w=.ok (.func fn first cap) w:=fun _ _ _ _=>rfl
 have hnil:∀W:World,(binOp .eql 256 (.func (.func F) #[] cap) .nilFunc).run Tryz.prog W=.ok (.bool false) W:=fun W=>by kernel_rfl
 clear hr0 hrd hst
 go_enter_defers Tryz.func169,Tryz.ntmps169
 go_upto_region 5 with(go_at_call 72;refine(Qkh A0 c0 l0 _ (Kd.C_below a.out (Qcx (Qcx (Below.refl _ _) _) _)) hl).mono ?_;rintro ee w3 ⟨vb,rfl,hR,hb⟩;obtain⟨A,c,hv⟩:=Kd.R_slice hR;subst hv)
 have b0:Below w.heap.size w ((w.alloc (.cells #[.int .i64 0] 3)).alloc (.cells #[.int .i64 0] 31)):=Qcx (Qcx (Below.refl _ _) _) _;have e0:((w.alloc (.cells #[.int .i64 0] 3)).alloc (.cells #[.int .i64 0] 31)).heap.size=w.heap.size+2:=by simp[World.size_alloc]
 have ka:=Qel (Qei (Qem w (.cells #[.int .i64 0] 3)) (.cells #[.int .i64 0] 31)) hb;have ke:=Qel (Qem (w.alloc (.cells #[.int .i64 0] 3)) (.cells #[.int .i64 0] 31)) hb;rw[World.size_alloc]at ke;have b3:Below w.heap.size w w3:=b0.trans (Qkg hb b0.size);have hs3:w.heap.size+2≤w3.heap.size:=by have:=hb.size;omega
 have kc:=Qei (Qem w3 (.cells #[.slice A l0.length c,.int .i64 0,.bool true] 300)) (.cells #[.pointer (some ⟨w3.heap.size,0,none⟩)] 255);have kp:=Qem (w3.alloc (.cells #[.slice A l0.length c,.int .i64 0,.bool true] 300)) (.cells #[.pointer (some ⟨w3.heap.size,0,none⟩)] 255);rw[World.size_alloc]at kp;have ka5:=Qei (Qei ka (.cells #[.slice A l0.length c,.int .i64 0,.bool true] 300)) (.cells #[.pointer (some ⟨w3.heap.size,0,none⟩)] 255);have ke5:=Qei (Qei ke (.cells #[.slice A l0.length c,.int .i64 0,.bool true] 300)) (.cells #[.pointer (some ⟨w3.heap.size,0,none⟩)] 255);have b5:Below w.heap.size w ((w3.alloc (.cells #[.slice A l0.length c,.int .i64 0,.bool true] 300)).alloc (.cells #[.pointer (some ⟨w3.heap.size,0,none⟩)] 255)):=b3.trans (Qkg (Qcx (Qcx (Below.refl _ _) _) _) b3.size);have hI5:IsCur ((w3.alloc (.cells #[.slice A l0.length c,.int .i64 0,.bool true] 300)).alloc (.cells #[.pointer (some ⟨w3.heap.size,0,none⟩)] 255)) w.heap.size w3.heap.size l0 0:=⟨_,kc,R8.low (R8.kept (R8.kept hR (Qcx (Below.refl _ _) _)) (Qcx (Below.refl _ _) _)) (by rw[e0];omega)⟩;generalize hW5:((w3.alloc (.cells #[.slice A l0.length c,.int .i64 0,.bool true] 300)).alloc (.cells #[.pointer (some ⟨w3.heap.size,0,none⟩)] 255))=W5 at *;have HI5:=QA hI5;have b:=QA b5;have p0:W5.cell? ⟨w3.heap.size+1,0,none⟩=some (.pointer (some ⟨w3.heap.size,0,none⟩)):=(Qdw kp 0).trans rfl;clear hI5 b5 hW5 ka ke b0 e0 hb hR;have ha2:w.heap.size≠w3.heap.size:=by omega
 have he2:w.heap.size+1≠w3.heap.size:=by omega
 have hea:w.heap.size+1≠w.heap.size:=by omega
 have hcg:w3.heap.size+1≠w3.heap.size:=by omega
 go_wp2_with (refine(HRD.out W5 w3.heap.size (by omega) b.out HI5.out).mono ?_;rintro ee w6 ⟨i,hI6,hT6,⟨rfl,hp6⟩ |⟨er,rfl,hp6⟩⟩<;>(obtain⟨v6,kg6,hR6⟩:=hI6;have ka6:=hT6 _ _ _ (by omega) ka5 (by decide) ha2;have ke6:=hT6 _ _ _ (by omega) ke5 (by decide) he2;have kp6:=hT6 _ _ _ (by omega) kp (by decide) hcg;have q0:w6.cell? ⟨w3.heap.size+1,0,none⟩=some (.pointer (some ⟨w3.heap.size,0,none⟩)):=(Qdw kp6 0).trans rfl;have q1:w6.cell? ⟨w3.heap.size,1,none⟩=some (.int .i64 i):=(Qdw kg6 1).trans rfl;have q2:w6.frozen? ⟨w.heap.size,0,none⟩=false:=Qdx ka6 0;have q3:w6.cell? ⟨w.heap.size,0,none⟩=some (.int .i64 0):=(Qdw ka6 0).trans rfl;have ke7:=Qdu ke6 (p:=⟨w.heap.size,0,none⟩) hea (.int .i64 i);have q4:(w6.setCell ⟨w.heap.size,0,none⟩ (.int .i64 i)).frozen? ⟨w.heap.size+1,0,none⟩=false:=Qdx ke7 0;have q5:(w6.setCell ⟨w.heap.size,0,none⟩ (.int .i64 i)).cell? ⟨w.heap.size+1,0,none⟩=some (.int .i64 0):=(Qdw ke7 0).trans rfl))
 ·have bc8:=Qdu (Qdu kp6 (p:=⟨w.heap.size,0,none⟩) (show w3.heap.size+1≠w.heap.size by omega) (.int .i64 i)) (p:=⟨w.heap.size+1,0,none⟩) (show w3.heap.size+1≠w.heap.size+1 by omega) (.int .i64 0);have g8:=Qdu (Qdu kg6 (p:=⟨w.heap.size,0,none⟩) (show w3.heap.size≠w.heap.size by omega) (.int .i64 i)) (p:=⟨w.heap.size+1,0,none⟩) (show w3.heap.size≠w.heap.size+1 by omega) (.int .i64 0);have ba8:=Qdu (Qdt ka6 0 (.int .i64 i)) (p:=⟨w.heap.size+1,0,none⟩) (show w.heap.size≠w.heap.size+1 by omega) (.int .i64 0);have be8:=Qdt ke7 0 (.int .i64 0);have ba9:=Qdt (Qdu ba8 (p:=⟨w3.heap.size,2,none⟩) ha2 (.bool false)) 0 (.int .i64 i);have be9:=Qdu (Qdu be8 (p:=⟨w3.heap.size,2,none⟩) he2 (.bool false)) (p:=⟨w.heap.size,0,none⟩) hea (.int .i64 i);have bl:Below w.heap.size w6 (((((w6.setCell ⟨w.heap.size,0,none⟩ (.int .i64 i)).setCell ⟨w.heap.size+1,0,none⟩ (.int .i64 0)).setCell ⟨w3.heap.size,2,none⟩ (.bool false)).setCell ⟨w.heap.size,0,none⟩ (.int .i64 i))) :=
   Qkf (Qkf (Qkf (Qkf (Below.refl _ _) (Nat.le_refl _)) (Nat.le_succ _)) (by omega)) (Nat.le_refl _)
  have bt:Ty w6 (((((w6.setCell ⟨w.heap.size,0,none⟩ (.int .i64 i)).setCell ⟨w.heap.size+1,0,none⟩ (.int .i64 0)).setCell ⟨w3.heap.size,2,none⟩ (.bool false)).setCell ⟨w.heap.size,0,none⟩ (.int .i64 i))) :=
   ((((Ty.refl w6).set ka6 (.inl rfl) _).set ke7 (.inr (.inl rfl)) _).set g8 (.inr (.inr rfl)) _).set (Qdu ba8 (p:=⟨w3.heap.size,2,none⟩) ha2 (.bool false)) (.inl rfl) _
  refine leaves_cons (f:=218) (args:=#[.pointer (some ⟨w3.heap.size+1,0,none⟩),.pointer (some ⟨w.heap.size,0,none⟩),.pointer (some ⟨w.heap.size+1,0,none⟩)]) (by simp) (by simp[go_sem]) ?_;refine(Qsn w3.heap.size w.heap.size (w.heap.size+1) (w3.heap.size+1) i i v6 _ bc8 g8 ba8).mono ?_;rintro e u' w'' ⟨rfl,rfl,rfl⟩;show Leaves _ _ _ _ [] .returning _;exact⟨_,Qsp _ _ _ _ i 0 rfl rfl ba9 be9,0,i,rfl,HST.out _ _ _ _ hp6 bl bt⟩
 ·have ba9:=Qdu (Qei (Qdt (Qdu ka6 (p:=⟨w3.heap.size,2,none⟩) ha2 (.bool false)) 0 (.int .i64 i)) (.cells #[.pointer (some ⟨w3.heap.size,0,none⟩),.int .i64 er] 302)) (p:=⟨w.heap.size+1,0,none⟩) (show w.heap.size≠w.heap.size+1 by omega) (.int .i64 er);have be9:=Qdt (Qei (Qdu (Qdu ke6 (p:=⟨w3.heap.size,2,none⟩) he2 (.bool false)) (p:=⟨w.heap.size,0,none⟩) hea (.int .i64 i)) (.cells #[.pointer (some ⟨w3.heap.size,0,none⟩),.int .i64 er] 302)) 0 (.int .i64 er);have s6:w.heap.size≤w6.heap.size:=Nat.le_of_lt (Qdv ka6);have b1:Below w.heap.size w6 ((w6.setCell ⟨w3.heap.size,2,none⟩ (.bool false)).setCell ⟨w.heap.size,0,none⟩ (.int .i64 i)):=Qkf (Qkf (Below.refl _ _) (by omega)) (Nat.le_refl _);have bl:Below w.heap.size w6 ((((w6.setCell ⟨w3.heap.size,2,none⟩ (.bool false)).setCell ⟨w.heap.size,0,none⟩ (.int .i64 i)).alloc (.cells #[.pointer (some ⟨w3.heap.size,0,none⟩),.int .i64 er] 302)).setCell ⟨w.heap.size+1,0,none⟩ (.int .i64 er)) :=
   Qkf (b1.trans (Qkg (Qcx (Below.refl _ _) _) (Nat.le_trans s6 b1.size))) (Nat.le_succ _)
  have bt:Ty w6 ((((w6.setCell ⟨w3.heap.size,2,none⟩ (.bool false)).setCell ⟨w.heap.size,0,none⟩ (.int .i64 i)).alloc (.cells #[.pointer (some ⟨w3.heap.size,0,none⟩),.int .i64 er] 302)).setCell ⟨w.heap.size+1,0,none⟩ (.int .i64 er)) :=
   ((((Ty.refl w6).set kg6 (.inr (.inr rfl)) _).set (Qdu ka6 (p:=⟨w3.heap.size,2,none⟩) ha2 (.bool false)) (.inl rfl) _).alloc _).set (Qei (Qdu (Qdu ke6 (p:=⟨w3.heap.size,2,none⟩) he2 (.bool false)) (p:=⟨w.heap.size,0,none⟩) hea (.int .i64 i)) _) (.inr (.inl rfl)) _
  refine leaves_cons (f:=218) (args:=#[.pointer (some ⟨w3.heap.size+1,0,none⟩),.pointer (some ⟨w.heap.size,0,none⟩),.pointer (some ⟨w.heap.size+1,0,none⟩)]) (by simp) (by simp[go_sem]) ?_;refine(Qso w3.heap.size w.heap.size (w.heap.size+1) (w3.heap.size+1) i 0 0 er v6 _ kp6 kg6 ka6 ke6).mono ?_;rintro e u' w'' ⟨rfl,rfl,rfl⟩;show Leaves _ _ _ _ [] .returning _;exact⟨_,Qsp _ _ _ _ i er rfl rfl ba9 be9,er,i,rfl,HST.out _ _ _ _ hp6 bl bt⟩
theorem Qsr(F:Nat)(cap:Array Value)(A0:Option Addr)(c0:Nat)(l0:List Int)(w:World)(hr0:Kd.C (Kd.int .u8) w A0 l0.length l0)(hl:l0.length≤140737488355328)
  (hcf:∀(as_:Array Value) (W:World),(callFunc F as_).run Tryz.prog W=.ok (.enter F as_) W)
  (Post:Int→Int→World→Prop) (hst:∀er i W W',Post er i W→Below w.heap.size W W'→Post er i W')
  (hrd:∀(W:World) (g:Nat),w.heap.size≤g→Below w.heap.size w W→IsCur W w.heap.size g l0 0→Calls Tryz.prog F (#[.pointer (some ⟨g,0,none⟩)]++cap) W fun e W'=>∃i,IsCur W' w.heap.size g l0 i∧Tl w.heap.size g W W' ∧
   ((e=.returned (.tuple #[])∧Post 0 i W')∨∃er,e=.panicked [Qno g er]∧Post er i W')) :
  Calls Tryz.prog 169 #[.slice A0 l0.length c0,.func (.func F) #[] cap] w fun e w'=>∃er i,e=.returned (.tuple #[.int .i64 i,.int .i64 er])∧Post er i w' :=
 Qsq F cap A0 c0 l0 w hr0 hl hcf Post (fun er i W W' h1 h2 _=>hst er i W W' h1 h2) hrd
end Go.Proofs.YteaocbonofboeaaGreat.C
end
section
namespace Go.Proofs.YteaocbonofboeaaGreat.C
open Go.RowKit Go.Proofs.YteaocbonofboeaaGreatW.PrintWords Go.Proofs.YteaocbonofboeaaGreatW.PrintLast Go.Proofs.YteaocbonofboeaaGreatW.PrintMore
attribute [local go_sem] Qim Qin Qio Qip Qiq Qir Qis Qit
def Qar.l0:Nat→List Int→List (S158)→Int→Int→List (S158)→Int→Option (List Int)
 | 0,_,_,_,_,_,_=>none
 | k+1,x5,x11,x12,x13,x359000,x359001=>if x13<x12 then(if 0≤x13 then(if x13<(x11.length:Int)then(if((Qjx x11 x13).f0)<(IntKind.u64.wrap ((x5.length:Int)))then(if 0≤((Qjx x11 x13).f0)then(if((Qjx x11 x13).f0)<(x5.length:Int)then(Qar.l0 k (x5.set (((Qjx x11 x13).f0):Int).toNat ((Qjx x11 x13).f1)) x11 x12 (wrap64 (x13+1)) x359000 x359001)else(none))else(none))else(Qar.l0 k x5 x11 x12 (wrap64 (x13+1)) x359000 x359001))else(none))else(none))else((Qas.f x359000 x359001 (x5.length:Int)).bind fun t365=>(if 0≤t365 then(if t365≤(x5.length:Int)then(some (x5.take (t365:Int).toNat))else(none))else(none)))
def Qar.f(k:Nat)(l0:List Int)(l1_0:List (S158))(a1_1:Int):Option (List Int):=(Qae.f l0).bind fun t359=>(Qar.l0 k t359 l1_0 (l1_0.length:Int) 0 l1_0 a1_1)
theorem Qar.calls (k:Nat) (A0:Option Addr) (c0:Nat) (l0:List Int) (D:Option Addr) (s:Nat) (a:List (S158)) (l:Int) (r:List Int) (w:World) (hr0:Kd.C (Kd.int .u8) w A0 l0.length l0) (hc0:l0.length≤c0) (hr1_0:Kd.C k158 w D a.length a) (hc1_0:a.length≤s) (h:Qar.f k l0 a l=some r) :
  Calls Tryz.prog 39 #[.slice A0 l0.length c0,.agg #[.slice D a.length s,.int .i64 l]] w fun e w'=>∃av:Value,e=.returned (av)∧Kd.R (Kd.int .u8) 5 w' w.heap.size (fun _=>True) av r∧Below w.heap.size w w':=by
 have hu81:=Tryz.underlying81;have hu158:=Tryz.underlying158;have aM:=QA hr0;have aN:=QA hc0;clear hr0 hc0;have M:=QA hr1_0;have am:=QA hc1_0;clear hr1_0 hc1_0;have HB:=QA (Below.refl w.heap.size w);have H:((Qae.f l0).bind fun O=>(Qar.l0 k O a (a.length:Int) 0 a l))=some r:=h;clear h;replace H:=Option.bind_eq_some_iff.mp H;obtain⟨O,aw,H⟩:=H;have A3:=QA aw;clear aw;have H':=QA H;clear H
 go_enter Tryz.func39,Tryz.ntmps39
 go_wp2_with (first |((with_reducible refine Qfx (N:=3) rfl ?_);refine qq_e 3 #[.slice D a.length s,.int .i64 l] 81 ?_;intro d hg w4 hbox hb;have n_:=qn4 (Qfn qq_b hb) (hbox) (qq_s hg:w.heap.size≤d) (qq_s hg:w.heap.size≤d);clear HB;obtain⟨HB,c,aS,aT⟩:=n_;clear hb hbox hg) |((with_reducible refine Qiu (f:=72) rfl ?_);refine Qgs (some 9) rfl rfl Tryz.func72 qq_6 rfl #[.slice A0 l0.length c0] rfl qq_1 ?_;(with_reducible refine(Qae.calls _ _ l0 O _ ?side1 ?side2 A3.out).mono ?_);(case side1=>repeat(first|exact(Kd.C_below aM.out HB.out) |(with_reducible refine Kd.C_alloc ?_ _) |(with_reducible refine Kd.C_drewN ?_ _) |(with_reducible refine Kd.C_drew ?_)));(case side2=>exact aN.out);rintro e w5 ⟨ab,rfl,ax,hb⟩;refine⟨_,rfl,?_⟩;have n_:=qn3 (Kd.R_lower ax (Qfm qq_b)) (Qel (g:=d) (o:=.cells #[.slice D a.length s,.int .i64 l] 81 (0,0)) qq_0 hb) (Qfn qq_b hb);clear c HB;obtain⟨an,c,HB⟩:=n_;(try clear hb);(try clear hb2);(try clear hk);(try clear hi);(try clear ax);obtain⟨ac,ad⟩:=qc2 c.out;have aC:=Qdx c.out))
 go_loopg [13] k (fun kq aO w'=>∃(q:List Int) (b:Int),aO=.int .i64 b∧Aside0 (Qar.l0 kq q a (a.length:Int) b a l=some r)∧Aside0 (kq≤k)∧Aside0 (Kd.R (Kd.int .u8) 5 w' w.heap.size (fun _=>True) ab q)∧Aside0 (w'.heap[d]? = some (.cells #[(.slice D a.length s),.int .i64 l] 81 (0,0)))∧Aside0 (Below w.heap.size w w'))
 case atStart=>exact⟨(O),(0),qq_4,H',⟨Nat.le_refl _⟩,⟨by(with_reducible repeat(first|apply Kd.R_alloc|apply Kd.R_drewN|apply Kd.R_drew));exact an.out⟩,⟨by(with_reducible repeat(first|apply Qek|apply Qej|apply Qei));exact c.out⟩,⟨qq_b⟩⟩
 case round =>
  clear H'
  try clear ac
  try clear ad
  try clear aC
  obtain⟨q,b,rfl,HA,HK1,HO_5,c,HB⟩:=hrel
  cases gk with
  | zero=>exact absurd HA.out (by simp[Qar.l0])
  | succ k1 =>
   have H:=HA.out;clear HA;simp only[Qar.l0]at H
   by_cases c7:b<(a.length:Int)
   ·rw [if_pos c7]at H;have aD:=decide_eq_true c7;clear c7
    by_cases c8:0≤b
    ·rw [if_pos c8]at H;have bj:=decide_eq_true c8;clear c8
     by_cases c9:b<(a.length:Int)
     ·rw [if_pos c9]at H;have bk:=decide_eq_true c9;clear c9
      by_cases c10:((Qjx a b).f0)<(IntKind.u64.wrap ((q.length:Int)))
      ·rw[if_pos c10]at H;have ao:=decide_eq_true c10;clear c10
       by_cases Y:0≤((Qjx a b).f0)
       ·rw[if_pos Y]at H;have aU:=decide_eq_true Y;clear Y
        by_cases Z:((Qjx a b).f0)<(q.length:Int)
        ·rw[if_pos Z]at H;have aV:=decide_eq_true Z;clear Z;obtain⟨W,I⟩:∃y_:List Int,y_=(q.set (((Qjx a b).f0):Int).toNat ((Qjx a b).f1)):=⟨_,rfl⟩;replace H:(Qar.l0 k1 W a (a.length:Int) (wrap64 (b+1)) a l)=some r:=by first |(rw[I];with_reducible exact H) |(have K:=(Option.bind_some _ _).symm.trans H;rw[I];with_reducible exact K) |(have K:=(Option.bind_some _ _).symm.trans H;with_reducible exact K)|with_reducible exact H |(rw[I];exact H)|exact H
         have ap:=QA I;clear I;have H':=QA H;clear H;have E:0≤(b:Int):=of_decide_eq_true qq_2;have G:b<(a.length:Int):=of_decide_eq_true qq_2;obtain⟨x,X,y,z⟩:=Qjy M.out b E G
         cases X
         replace y:=qq_h HB.out y;replace z:=qq_h HB.out z;replace E:=eq_true E;replace G:=eq_true G
         go_wp2_with (first |((with_reducible refine Qfx (N:=7) rfl ?_);refine qq_e 7 #[.int .u64 0,.int .u8 0] 158 ?_;intro j hg aP hbox hb;have n_:=qn8 (Kd.R_below qq_7 hb) (Qel (g:=d) (o:=.cells #[.slice (some x) a.length s,.int .i64 l] 81 (0,0)) qq_0 hb) (Qfn qq_b hb) (hbox) (qq_s hg:w.heap.size≤j) (qq_s hg:w.heap.size≤j) ((by rw[hg];exact Nat.ne_of_lt (Qdv (g:=d) (o:=.cells #[.slice (some x) a.length s,.int .i64 l] 81 (0,0)) qq_0):d≠j)) ((by rw[hg];exact Nat.ne_of_gt (Qdv (g:=d) (o:=.cells #[.slice (some x) a.length s,.int .i64 l] 81 (0,0)) qq_0):j≠d));clear HO_5 c HB;obtain⟨HO_5,c,HB,n,aq,ar,u,A⟩:=n_;clear hb hbox hg;have aW:=A.out;have aX:=u.out;obtain⟨aE,aF⟩:=qc2 n.out;have aY:=Qdx n.out) |((with_reducible refine Qfy (t:=158) (p:=7) rfl ?_);refine Qfw (t:=158) (p:=7) (v:=?vo_w17) (w1:=((aP.setCell ⟨j,0,none⟩ (.int .u64 ((Qjx a b).f0))).setCell ⟨j,1,none⟩ (.int .u8 ((Qjx a b).f1)))) ?hg ?ho ?hn ?hr ?_;(case ho=>rfl);(case hg=>rfl);(case hn=>rfl);(case hr=>exact qq_21);intro L hw;have ay:Aside0 (Kd.R (Kd.int .u8) 5 L w.heap.size (fun _=>True) ab q):=⟨(by rw[hw];exact(by(with_reducible repeat(first|apply Kd.R_alloc|apply Kd.R_drewN|apply Kd.R_drew));exact Kd.R_mono (Kd.R_far (p:=⟨j,1,none⟩) (Kd.R_far (p:=⟨j,0,none⟩) (Kd.R_types HO_5.out n.out (by decide)) (fun _ hk=>hk.2) (.int .u64 ((Qjx a b).f0))) (fun _ hk=>hk.2) (.int .u8 ((Qjx a b).f1))) (fun _ hk=>trivial)))⟩;have az:Aside0 (L.heap[d]? = some (.cells #[.slice (some x) a.length s,.int .i64 l] 81 (0,0))):=⟨(by rw[hw];exact qq_5)⟩;have aA:Aside0 (L.heap[j]? = some (.cells #[.int .u64 ((Qjx a b).f0),.int .u8 ((Qjx a b).f1)] 158 (0,0))):=⟨(by rw[hw];exact qq_x)⟩;have aB:Aside0 (Below w.heap.size w L):=⟨(by rw[hw];exact qq_b)⟩;clear hw HO_5 c n HB;have HO_5:=ay;have c:=az;have n:=aA;have HB:=aB;clear ay az aA aB;obtain⟨aG,aH⟩:=qc2 n.out;have aZ:=Qdx n.out;obtain⟨Ao19,co19,eo19⟩:=Kd.R_slice HO_5.out;subst eo19;have ae:0≤(((Qjx a b).f0):Int):=of_decide_eq_true qq_2;have af:(((Qjx a b).f0):Int)<((q.length:Int):Int):=of_decide_eq_true qq_2;obtain⟨go13,co13,eo13,ag,gl13,cl13,HG13⟩:=Kd.R_form HO_5.out (by omega);(first|cases eo13 |(injection eo13 with ea_ en_ ec_;(first|subst ea_ |(injection ea_ with ea_;subst ea_));subst ec_;clear en_));have GB13:=QA ag;have GG13:=QA HG13;clear ag gl13 HG13;obtain⟨aQ,hf13_0⟩:=Kd.R_celln 0 HO_5.out (((Qjx a b).f0):Int) ae af;replace ae:=eq_true ae;replace af:=eq_true af;obtain⟨ba,hz20_⟩:=Kd.R_celln 0 HO_5.out (((Qjx a b).f0):Int) (of_decide_eq_true qq_2) (of_decide_eq_true qq_2);have HP20:=Kd.R_putg HO_5.out (((Qjx a b).f0):Int) ((Qjx a b).f1)) |((with_reducible refine Qfy (t:=5) (p:=28) rfl ?_);refine Qfw (t:=5) (p:=28) (v:=?vo_w21) (w1:=(L.setCell ⟨go13,(((Qjx a b).f0):Int).toNat,none⟩ (.int .u8 ((Qjx a b).f1)))) ?hg ?ho ?hn ?hr ?_;(case ho=>rfl);(case hg=>rfl);(case hn=>rfl);(case hr=>exact qq_21);intro ah hw;have hg:L.grownBy ah (some go13):=(by rw[hw];exact HP20.2);have hp_:Kd.R (Kd.int .u8) 5 ah w.heap.size (fun _=>True) (.slice (some ⟨go13,0,none⟩) q.length co19) W:=(by rw[hw,ap.out];exact HP20.1);clear HP20;have n_:=qn4 (hp_) (Qdy (g:=d) (o:=.cells #[.slice (some x) a.length s,.int .i64 l] 81 (0,0)) qq_0 hg (Kd.R_ne HO_5.out c.out (by decide))) (Qdy (g:=j) (o:=.cells #[.int .u64 ((Qjx a b).f0),.int .u8 ((Qjx a b).f1)] 158 (0,0)) qq_0 hg (Kd.R_ne HO_5.out n.out (by decide))) ((by rw[hw];exact Qfp (HB.out) GB13.out:Below w.heap.size w ah));clear HO_5 c n HB;obtain⟨HO_5,c,n,HB⟩:=n_;clear hg hw hp_))
         go_roundg k1
         case measure=>have:=HK1.out;omega
         case rel=>exact⟨(W),(wrap64 (b+1)),qq_4,H',⟨by have:=HK1.out;omega⟩,⟨by(with_reducible repeat(first|apply Kd.R_alloc|apply Kd.R_drewN|apply Kd.R_drew));exact HO_5.out⟩,⟨by(with_reducible repeat(first|apply Qek|apply Qej|apply Qei));exact c.out⟩,⟨qq_b⟩⟩
        ·rw[if_neg Z]at H;exact absurd H (by simp)
       ·rw[if_neg Y]at H;exact absurd H (by simp)
      ·rw[if_neg c10]at H;have ao:=decide_eq_false c10;clear c10;have H':=QA H;clear H;have E:0≤(b:Int):=of_decide_eq_true qq_2;have G:b<(a.length:Int):=of_decide_eq_true qq_2;obtain⟨x,X,y,z⟩:=Qjy M.out b E G
       cases X
       replace y:=qq_h HB.out y;replace z:=qq_h HB.out z;replace E:=eq_true E;replace G:=eq_true G
       go_wp2_with (first |((with_reducible refine Qfx (N:=7) rfl ?_);refine qq_e 7 #[.int .u64 0,.int .u8 0] 158 ?_;intro j hg bn hbox hb;have n_:=qn8 (Kd.R_below qq_7 hb) (Qel (g:=d) (o:=.cells #[.slice (some x) a.length s,.int .i64 l] 81 (0,0)) qq_0 hb) (Qfn qq_b hb) (hbox) (qq_s hg:w.heap.size≤j) (qq_s hg:w.heap.size≤j) ((by rw[hg];exact Nat.ne_of_lt (Qdv (g:=d) (o:=.cells #[.slice (some x) a.length s,.int .i64 l] 81 (0,0)) qq_0):d≠j)) ((by rw[hg];exact Nat.ne_of_gt (Qdv (g:=d) (o:=.cells #[.slice (some x) a.length s,.int .i64 l] 81 (0,0)) qq_0):j≠d));clear HO_5 c HB;obtain⟨HO_5,c,HB,n,aq,ar,u,A⟩:=n_;clear hb hbox hg;have bb:=A.out;have bc:=u.out;obtain⟨aI,aJ⟩:=qc2 n.out;have bd:=Qdx n.out;obtain⟨Ao25,co25,eo25⟩:=Kd.R_slice HO_5.out;subst eo25))
       go_roundg k1
       case measure=>have:=HK1.out;omega
       case rel=>exact⟨(q),(wrap64 (b+1)),qq_4,H',⟨by have:=HK1.out;omega⟩,⟨by(with_reducible repeat(first|apply Kd.R_alloc|apply Kd.R_drewN|apply Kd.R_drew));exact Kd.R_mono (Kd.R_far (p:=⟨j,1,none⟩) (Kd.R_far (p:=⟨j,0,none⟩) (Kd.R_types HO_5.out n.out (by decide)) (fun _ hk=>hk.2) (.int .u64 ((Qjx a b).f0))) (fun _ hk=>hk.2) (.int .u8 ((Qjx a b).f1))) (fun _ hk=>trivial)⟩,⟨by(with_reducible repeat(first|apply Qek|apply Qej|apply Qei));refine Qdu ?_ u.out _;(with_reducible repeat(first|apply Qek|apply Qej|apply Qei));refine Qdu ?_ u.out _;(with_reducible repeat(first|apply Qek|apply Qej|apply Qei));exact c.out⟩,⟨qq_b⟩⟩
     ·rw[if_neg c9]at H;exact absurd H (by simp)
    ·rw[if_neg c8]at H;exact absurd H (by simp)
   ·rw[if_neg c7]at H;have aD:=decide_eq_false c7;clear c7;replace H:=Option.bind_eq_some_iff.mp H;obtain⟨B,ai,H⟩:=H;have aR:=QA ai;clear ai
    by_cases T:0≤B
    ·rw[if_pos T]at H;have be:=eq_true T;have bf:=decide_eq_true T;clear T
     by_cases U:B≤(q.length:Int)
     ·rw[if_pos U]at H;have bg:=eq_true U;have bh:=decide_eq_true U;clear U;obtain⟨aj,J⟩:∃y_:List Int,y_=(q.take (B:Int).toNat):=⟨_,rfl⟩;replace H:(some aj)=some r:=by first |(rw[J];with_reducible exact H) |(have K:=(Option.bind_some _ _).symm.trans H;rw[J];with_reducible exact K) |(have K:=(Option.bind_some _ _).symm.trans H;with_reducible exact K)|with_reducible exact H |(rw[J];exact H)|exact H
      have aa:=QA J;clear J;obtain rfl:=Option.some.inj H;obtain⟨aK,aL⟩:=qc2 c.out;have bi:=Qdx c.out;obtain⟨Ao30,co30,eo30⟩:=Kd.R_slice HO_5.out;subst eo30
      go_wp2_with (first |((with_reducible refine Qiu (f:=83) rfl ?_);refine Qgs (some 34) rfl rfl Tryz.func83 qq_6 rfl #[.agg #[.slice D a.length s,.int .i64 l],.int .i64 (q.length:Int)] rfl qq_1 ?_;(with_reducible refine(Qas.calls _ _ a l (q.length:Int) B _ ?side1 ?side2 aR.out).mono ?_);(case side1=>repeat(first|exact(Kd.C_below M.out HB.out) |(with_reducible refine Kd.C_alloc ?_ _) |(with_reducible refine Kd.C_drewN ?_ _) |(with_reducible refine Kd.C_drew ?_)));(case side2=>exact am.out);rintro e bo ⟨rfl,hb⟩;refine⟨_,rfl,?_⟩;have n_:=qn3 (Kd.R_below qq_7 hb) (Qel (g:=d) (o:=.cells #[.slice D a.length s,.int .i64 l] 81 (0,0)) qq_0 hb) (Qfn qq_b hb);clear HO_5 c HB;obtain⟨HO_5,c,HB⟩:=n_;(try clear hb);(try clear hb2);(try clear hk);(try clear hi);have ak:(B:Int)≤((q.length:Int):Int):=of_decide_eq_true qq_2;obtain⟨bl,hi032,_,hsz32,_⟩:=info_parts Qjb;have hcut32:=Qey (P:=Tryz.prog) 40 5 .i64 Tryz.underlying40 hi032 Ao30 q.length co30 B (of_decide_eq_true qq_2) ak (Kd.R_reads' HO_5.out).2.1;have hr32:=Kd.R_take (m:=(B:Int).toNat) HO_5.out (by omega);have al:aj.length=(B:Int).toNat:=(by rw[aa.out,List.length_take];omega);rw[← aa.out]at hr32;rw[← al]at hr32 hcut32;clear al hi032 hsz32 HO_5;have au:=QA hr32;clear hr32;replace ak:=eq_true ak))
      go_ret
      exact⟨_,by first|rfl |(simp[Qiz,Qja]<;>rfl) |(simp[*,Qiz,Qja]<;>rfl),by(with_reducible repeat(first|apply Kd.R_alloc|apply Kd.R_drewN|apply Kd.R_drew));exact au.out,qq_b⟩
     ·rw[if_neg U]at H;exact absurd H (by simp)
    ·rw[if_neg T]at H;exact absurd H (by simp)
mutual
def Qbj.j0:Nat→ByteArray→Int→Int→Option (Int)
 | 0,_,_,_=>none
 | k+1,x1,x5,x6=>Qbj.l0 k x1 (IntKind.u64.wrap (x6+x5))
def Qbj.l0:Nat→ByteArray→Int→Option (Int)
 | 0,_,_=>none
 | k+1,x1,x6=>if(x1.size:Int)≥8 then(if 0≤8 then(if 8≤(x1.size:Int)then((Qbg.f k (x1.extract 0 8)).bind fun t136=>((Qbl.f k 0 t136).bind fun t137=>((Qbn.f k (Go.bits .xor .u64 x6 t137) 27).bind fun t138=>(Qbj.l0 k (x1.extract 8 x1.size) (IntKind.u64.wrap ((IntKind.u64.wrap (t138*11400714785074694791))+9650029242287828579))))))else(none))else(none))else(Qbj.l1 k x1 x6)
def Qbj.l1:Nat→ByteArray→Int→Option (Int)
 | 0,_,_=>none
 | k+1,x1,x6=>if(x1.size:Int)≥4 then(if 0≤4 then(if 4≤(x1.size:Int)then((Qbg.f k (x1.extract 0 4)).bind fun t139=>((Qbn.f k (Go.bits .xor .u64 x6 (IntKind.u64.wrap (t139*11400714785074694791))) 23).bind fun t140=>(Qbj.l1 k (x1.extract 4 x1.size) (IntKind.u64.wrap ((IntKind.u64.wrap (t140*14029467366897019727))+1609587929392839161)))))else(none))else(none))else(Qbj.l2 k x1 x6 0)
def Qbj.l2:Nat→ByteArray→Int→Int→Option (Int)
 | 0,_,_,_=>none
 | k+1,x1,x6,x8=>if x8<(x1.size:Int)then(if 0≤x8 then((Qbn.f k (Go.bits .xor .u64 x6 (IntKind.u64.wrap ((IntKind.u64.wrap (bt x1 x8))*2870177450012600261))) 11).bind fun t141=>(Qbj.l2 k x1 (IntKind.u64.wrap (t141*11400714785074694791)) (wrap64 (x8+1))))else(none))else((Qbm.f k x6 33).bind fun t142=>((Qbm.f k (IntKind.u64.wrap (t142*14029467366897019727)) 29).bind fun t143=>((Qbm.f k (IntKind.u64.wrap (t143*1609587929392839161)) 32).bind fun t144=>(some t144))))
end
def Qbj.f(k:Nat)(a0:Int)(a1:ByteArray):Option (Int):=if(a1.size:Int)≥32 then((Qbk.f a0 a1).bind fun bt134=>(Qbj.j0 k bt134.2 (IntKind.u64.wrap ((a1.size:Int))) bt134.1))else(Qbj.j0 k a1 (IntKind.u64.wrap ((a1.size:Int))) (IntKind.u64.wrap (a0+2870177450012600261)))
theorem Qbj.calls (k:Nat) (a0:Int) (a1:ByteArray) (r:Int) (w:World) (h:Qbj.f k a0 a1=some r) :
  Calls Tryz.prog 134 #[.int .u64 a0,.string a1] w fun e w'=>e=.returned (.int .u64 r)∧Below w.heap.size w w':=by
 have HB:=QA (Below.refl w.heap.size w);have H:(if(a1.size:Int)≥32 then((Qbk.f a0 a1).bind fun bt134=>(Qbj.j0 k bt134.2 (IntKind.u64.wrap ((a1.size:Int))) bt134.1))else(Qbj.j0 k a1 (IntKind.u64.wrap ((a1.size:Int))) (IntKind.u64.wrap (a0+2870177450012600261))))=some r:=h;clear h;have J:=QA H;clear H
 go_enter Tryz.func134,Tryz.ntmps134
 go_upto_if 17 with(fail)
 go_cut [1,6] (fun v1 v6 wc=>∃(kq:Nat) (a:ByteArray) (c:Int),v1=.string a∧v6=.int .u64 c∧Aside0 (Qbj.j0 kq a (IntKind.u64.wrap ((a1.size:Int))) c=some r)∧Aside0 (kq≤k)∧Aside0 (Below w.heap.size w wc))
 case first =>
  have H:=J.out;clear J
  by_cases c4:(a1.size:Int)≥32
  ·rw[if_pos c4]at H;have g:decide (32≤(a1.size:Int))=true:=decide_eq_true c4;have m:decide (32≤a1.size)=true:=decide_eq_true (by omega);clear c4
   (first|rw[g] |(simp only[Qgu,Qgv];rw[g])|skip)
   replace H:=Option.bind_eq_some_iff.mp H;obtain⟨⟨s,t⟩,al,H⟩:=H;replace H:(Qbj.j0 k t (IntKind.u64.wrap ((a1.size:Int))) s)=some r:=H;have A5:=QA al;clear al;have H':=QA H;clear H
   go_wp2_with (first |((with_reducible refine Qiu (f:=190) rfl ?_);refine Qgs (some 21) rfl rfl Tryz.func190 qq_6 rfl #[.int .u64 a0,.string a1] rfl qq_1 ?_;(with_reducible refine(Qbk.calls a0 a1 s t _ A5.out).mono ?_);rintro e w6 ⟨rfl,hb⟩;refine⟨_,rfl,?_⟩;have n_:=qn1 (Qfn qq_b hb);clear HB;have HB:=n_;clear n_;(try clear hb);(try clear hb2);(try clear hk);(try clear hi)))
   go_meet
   case rel=>exact⟨_,(t),(s),qq_4,qq_4,H',⟨by first|omega|exact Nat.le_refl _⟩,⟨qq_b⟩⟩
  ·rw[if_neg c4]at H;have g:decide (32≤(a1.size:Int))=false:=decide_eq_false c4;have m:decide (32≤a1.size)=false:=decide_eq_false (by omega);clear c4
   (first|rw[g] |(simp only[Qgu,Qgv];rw[g])|skip)
   have H':=QA H;clear H;go_wp2
   go_meet
   case rel=>exact⟨_,(a1),(IntKind.u64.wrap (a0+2870177450012600261)),qq_4,qq_4,H',⟨by first|omega|exact Nat.le_refl _⟩,⟨qq_b⟩⟩
 case rest =>
  clear J
  try clear c4
  try clear g
  try clear m
  obtain⟨kq,a,c,rfl,rfl,HA,HJ2,HB⟩:=hcut
  cases kq with
  | zero=>exact absurd HA.out (by simp[Qbj.j0])
  | succ kj2 =>
   have H:=HA.out;clear HA;simp only[Qbj.j0]at H;have H':=QA H;clear H;go_wp2
   go_loopg [1,6] kj2 (fun kq v1 v6 w'=>∃(a:ByteArray) (c:Int),v1=.string a∧v6=.int .u64 c∧Aside0 (Qbj.l0 kq a c=some r)∧Aside0 (kq≤kj2)∧Aside0 (Below w.heap.size w w'))
   case atStart=>exact⟨(a),(IntKind.u64.wrap (c+(IntKind.u64.wrap ((a1.size:Int))))),qq_4,qq_4,H',⟨Nat.le_refl _⟩,⟨qq_b⟩⟩
   case round =>
    clear H'
    try clear c4
    try clear g
    try clear m
    obtain⟨a,c,rfl,rfl,HA,HK2,HB⟩:=hrel
    cases gk with
    | zero=>exact absurd HA.out (by simp[Qbj.l0])
    | succ k2 =>
     have H:=HA.out;clear HA;simp only[Qbj.l0]at H
     by_cases c7:(a.size:Int)≥8
     ·rw[if_pos c7]at H;have u:decide (8≤(a.size:Int))=true:=decide_eq_true c7;have v:decide (8≤a.size)=true:=decide_eq_true (by omega);clear c7
      by_cases c8:0≤8
      ·rw[if_pos c8]at H;have K:=eq_true c8;have L:=decide_eq_true c8;clear c8
       by_cases c9:8≤(a.size:Int)
       ·rw[if_pos c9]at H;have M:=eq_true c9;have O:=decide_eq_true c9;clear c9;replace H:=Option.bind_eq_some_iff.mp H;obtain⟨x,P,H⟩:=H;have ap:=QA P;clear P;replace H:=Option.bind_eq_some_iff.mp H;obtain⟨y,T,H⟩:=H;have aq:=QA T;clear T;replace H:=Option.bind_eq_some_iff.mp H;obtain⟨U,W,H⟩:=H;have ar:=QA W;clear W;have D:=eq_true (of_decide_eq_true qq_2:8≤(a.size:Int));have H':=QA H;clear H
        go_wp2_with (first |((with_reducible refine Qiu (f:=186) rfl ?_);refine Qgs (some 33) rfl rfl Tryz.func186 qq_6 rfl #[.string (a.extract 0 8)] rfl qq_1 ?_;(with_reducible refine(Qbg.calls k2 (a.extract 0 8) x _ ap.out).mono ?_);rintro e w' ⟨rfl,⟨nd,rfl⟩⟩;refine⟨_,rfl,?_⟩) |((with_reducible refine Qiu (f:=191) rfl ?_);refine Qgs (some 34) rfl rfl Tryz.func191 qq_6 rfl #[.int .u64 0,.int .u64 x] rfl qq_1 ?_;(with_reducible refine(Qbl.calls k2 0 x y _ aq.out).mono ?_);rintro e w' ⟨rfl,⟨nd,rfl⟩⟩;refine⟨_,rfl,?_⟩) |((with_reducible refine Qiu (f:=192) rfl ?_);refine Qgs (some 37) rfl rfl Tryz.func192 qq_6 rfl #[.int .u64 (Go.bits .xor .u64 c y),.int .i64 27] rfl qq_1 ?_;(with_reducible refine(Qbn.calls k2 (Go.bits .xor .u64 c y) 27 U _ ar.out).mono ?_);rintro e w' ⟨rfl,⟨nd,rfl⟩⟩;refine⟨_,rfl,?_⟩))
        go_roundg k2
        case measure=>have:=HJ2.out;have:=HK2.out;omega
        case rel=>exact⟨(a.extract 8 a.size),(IntKind.u64.wrap ((IntKind.u64.wrap (U*11400714785074694791))+9650029242287828579)),qq_4,qq_4,H',⟨by have:=HJ2.out;have:=HK2.out;omega⟩,⟨qq_b⟩⟩
       ·rw[if_neg c9]at H;exact absurd H (by simp)
      ·rw[if_neg c8]at H;exact absurd H (by simp)
     ·rw [if_neg c7]at H;have u:decide (8≤(a.size:Int))=false:=decide_eq_false c7;have v:decide (8≤a.size)=false:=decide_eq_false (by omega);clear c7;have H':=QA H;clear H;go_wp2
      go_loopg [1,6] k2 (fun kq v1 v6 w'=>∃(b:ByteArray) (l:Int),v1=.string b∧v6=.int .u64 l∧Aside0 (Qbj.l1 kq b l=some r)∧Aside0 (kq≤k2)∧Aside0 (Below w.heap.size w w'))
      case atStart=>exact⟨(a),(c),qq_4,qq_4,H',⟨Nat.le_refl _⟩,⟨qq_b⟩⟩
      case round =>
       clear H'
       try clear c4
       try clear g
       try clear m
       try clear c7
       try clear u
       try clear v
       try clear c8
       try clear K
       try clear L
       try clear c9
       try clear M
       try clear O
       try clear D
       obtain⟨b,l,rfl,rfl,HA,HK3,HB⟩:=hrel
       cases gk with
       | zero=>exact absurd HA.out (by simp[Qbj.l1])
       | succ k3 =>
        have H:=HA.out;clear HA;simp only[Qbj.l1]at H
        by_cases n:(b.size:Int)≥4
        ·rw[if_pos n]at H;have E:decide (4≤(b.size:Int))=true:=decide_eq_true n;have G:decide (4≤b.size)=true:=decide_eq_true (by omega);clear n
         by_cases o:0≤4
         ·rw[if_pos o]at H;have af:=eq_true o;have ag:=decide_eq_true o;clear o
          by_cases p:4≤(b.size:Int)
          ·rw[if_pos p]at H;have ah:=eq_true p;have ai:=decide_eq_true p;clear p;replace H:=Option.bind_eq_some_iff.mp H;obtain⟨z,X,H⟩:=H;have au:=QA X;clear X;replace H:=Option.bind_eq_some_iff.mp H;obtain⟨Y,Z,H⟩:=H;have av:=QA Z;clear Z;have aj:=eq_true (of_decide_eq_true qq_2:4≤(b.size:Int));have H':=QA H;clear H
           go_wp2_with (first |((with_reducible refine Qiu (f:=186) rfl ?_);refine Qgs (some 47) rfl rfl Tryz.func186 qq_6 rfl #[.string (b.extract 0 4)] rfl qq_1 ?_;(with_reducible refine(Qbg.calls k3 (b.extract 0 4) z _ au.out).mono ?_);rintro e w' ⟨rfl,⟨nd,rfl⟩⟩;refine⟨_,rfl,?_⟩) |((with_reducible refine Qiu (f:=192) rfl ?_);refine Qgs (some 52) rfl rfl Tryz.func192 qq_6 rfl #[.int .u64 (Go.bits .xor .u64 l (IntKind.u64.wrap (z*11400714785074694791))),.int .i64 23] rfl qq_1 ?_;(with_reducible refine(Qbn.calls k3 (Go.bits .xor .u64 l (IntKind.u64.wrap (z*11400714785074694791))) 23 Y _ av.out).mono ?_);rintro e w' ⟨rfl,⟨nd,rfl⟩⟩;refine⟨_,rfl,?_⟩))
           go_roundg k3
           case measure=>have:=HJ2.out;have:=HK2.out;have:=HK3.out;omega
           case rel=>exact⟨(b.extract 4 b.size),(IntKind.u64.wrap ((IntKind.u64.wrap (Y*14029467366897019727))+1609587929392839161)),qq_4,qq_4,H',⟨by have:=HJ2.out;have:=HK2.out;have:=HK3.out;omega⟩,⟨qq_b⟩⟩
          ·rw[if_neg p]at H;exact absurd H (by simp)
         ·rw[if_neg o]at H;exact absurd H (by simp)
        ·rw [if_neg n]at H;have E:decide (4≤(b.size:Int))=false:=decide_eq_false n;have G:decide (4≤b.size)=false:=decide_eq_false (by omega);clear n;have H':=QA H;clear H;go_wp2
         go_loopg [6,8] k3 (fun kq v6 v8 w'=>∃(j:Int) (d:Int),v6=.int .u64 j∧v8=.int .i64 d∧Aside0 (Qbj.l2 kq b j d=some r)∧Aside0 (kq≤k3)∧Aside0 (Below w.heap.size w w'))
         case atStart=>exact⟨(l),(0),qq_4,qq_4,H',⟨Nat.le_refl _⟩,⟨qq_b⟩⟩
         case round =>
          clear H'
          try clear c4
          try clear g
          try clear m
          try clear c7
          try clear u
          try clear v
          try clear c8
          try clear K
          try clear L
          try clear c9
          try clear M
          try clear O
          try clear D
          try clear n
          try clear E
          try clear G
          try clear o
          try clear af
          try clear ag
          try clear p
          try clear ah
          try clear ai
          try clear aj
          obtain⟨j,d,rfl,rfl,HA,HK4,HB⟩:=hrel
          cases gk with
          | zero=>exact absurd HA.out (by simp[Qbj.l2])
          | succ k4 =>
           have H:=HA.out;clear HA;simp only[Qbj.l2]at H
           by_cases q:d<(b.size:Int)
           ·rw[if_pos q]at H;have ak:=decide_eq_true q;clear q
            by_cases I:0≤d
            ·rw[if_pos I]at H;have aA:=decide_eq_true I;clear I;replace H:=Option.bind_eq_some_iff.mp H;obtain⟨aa,ab,H⟩:=H;have aw:=QA ab;clear ab;have H':=QA H;clear H;have am:0≤(d:Int):=of_decide_eq_true qq_2;have an:d<(b.size:Int):=of_decide_eq_true qq_2;have aB:=Qcw b d;replace am:=eq_true am;replace an:=eq_true an
             go_wp2_with (first |((with_reducible refine Qiu (f:=192) rfl ?_);refine Qgs (some 71) rfl rfl Tryz.func192 qq_6 rfl #[.int .u64 (Go.bits .xor .u64 j (IntKind.u64.wrap ((IntKind.u64.wrap (bt b d))*2870177450012600261))),.int .i64 11] rfl qq_1 ?_;(with_reducible refine(Qbn.calls k4 (Go.bits .xor .u64 j (IntKind.u64.wrap ((IntKind.u64.wrap (bt b d))*2870177450012600261))) 11 aa _ aw.out).mono ?_);rintro e w' ⟨rfl,⟨nd,rfl⟩⟩;refine⟨_,rfl,?_⟩))
             go_roundg k4
             case measure=>have:=HJ2.out;have:=HK2.out;have:=HK3.out;have:=HK4.out;omega
             case rel=>exact⟨(IntKind.u64.wrap (aa*11400714785074694791)),(wrap64 (d+1)),qq_4,qq_4,H',⟨by have:=HJ2.out;have:=HK2.out;have:=HK3.out;have:=HK4.out;omega⟩,⟨qq_b⟩⟩
            ·rw[if_neg I]at H;exact absurd H (by simp)
           ·rw[if_neg q]at H;have ak:=decide_eq_false q;clear q;replace H:=Option.bind_eq_some_iff.mp H;obtain⟨A,ac,H⟩:=H;have ax:=QA ac;clear ac;replace H:=Option.bind_eq_some_iff.mp H;obtain⟨B,ad,H⟩:=H;have ay:=QA ad;clear ad;replace H:=Option.bind_eq_some_iff.mp H;obtain⟨ao,ae,H⟩:=H;have az:=QA ae;clear ae;obtain rfl:=Option.some.inj H
            go_wp2_with (first |((with_reducible refine Qiu (f:=193) rfl ?_);refine Qgs (some 74) rfl rfl Tryz.func193 qq_6 rfl #[.int .u64 j,.int .i64 33] rfl qq_1 ?_;(with_reducible refine(Qbm.calls k4 j 33 A _ ax.out).mono ?_);rintro e w' ⟨rfl,⟨nd,rfl⟩⟩;refine⟨_,rfl,?_⟩) |((with_reducible refine Qiu (f:=193) rfl ?_);refine Qgs (some 77) rfl rfl Tryz.func193 qq_6 rfl #[.int .u64 (IntKind.u64.wrap (A*14029467366897019727)),.int .i64 29] rfl qq_1 ?_;(with_reducible refine(Qbm.calls k4 (IntKind.u64.wrap (A*14029467366897019727)) 29 B _ ay.out).mono ?_);rintro e w' ⟨rfl,⟨nd,rfl⟩⟩;refine⟨_,rfl,?_⟩) |((with_reducible refine Qiu (f:=193) rfl ?_);refine Qgs (some 80) rfl rfl Tryz.func193 qq_6 rfl #[.int .u64 (IntKind.u64.wrap (B*1609587929392839161)),.int .i64 32] rfl qq_1 ?_;(with_reducible refine(Qbm.calls k4 (IntKind.u64.wrap (B*1609587929392839161)) 32 ao _ az.out).mono ?_);rintro e w' ⟨rfl,⟨nd,rfl⟩⟩;refine⟨_,rfl,?_⟩))
            go_ret
            exact⟨qq_3,qq_b⟩
end Go.Proofs.YteaocbonofboeaaGreat.C
end
