/- Merged texts. -/
import Derived.Test.YteaocbonofboeaaGreatMD02
import Derived.WalkLawsBesides
import Derived.Recover
import Derived.Defers
import Derived.Test.YteaocbonofboeaaGreatMD06
import Derived.Test.YteaocbonofboeaaGreatMD08
import Derived.Lib.IndexLaws
import Derived.Deep.RegionLaw
import Derived.Test.YteaocbonofboeaaGreatMD03
import Derived.Test.YteaocbonofboeaaGreatMD07
set_option linter.unusedVariables false
set_option linter.unusedSimpArgs false
set_option maxHeartbeats 8000000
set_option maxRecDepth 100000
section
namespace Go.Proofs.YteaocbonofboeaaGreat.C
open Go.RowKit Go.Proofs.YteaocbonofboeaaGreatW.PrintWords Go.Proofs.YteaocbonofboeaaGreatW.PrintLast Go.Proofs.YteaocbonofboeaaGreatW.PrintMore
def Tl(lo g:Nat)(w w':World):Prop:=∀k cs t,lo≤k→w.heap[k]? = some (.cells cs t (0,0))→t≠5→k≠g→w'.heap[k]? = some (.cells cs t (0,0))
def Ty(W W':World):Prop:=∀(k:Nat) (cs:Array Value) (t:TypeId),W.heap[k]? = some (.cells cs t (0,0))→t≠3→t≠31→t≠300→W'.heap[k]? = some (.cells cs t (0,0))
theorem Ty.set{W W1:World}(h:Ty W W1){p:Addr}{cs:Array Value}{t:TypeId}(hp:W1.heap[p.block]? = some (.cells cs t (0,0)))(ht:t=3∨t=31∨t=300)(u:Value):Ty W (W1.setCell p u):=fun k cs' t' h1 h2 h3 h4 =>
 Qcz (h k cs' t' h1 h2 h3 h4) (p:=p) (Qde (h k cs' t' h1 h2 h3 h4) hp (by rcases ht with rfl|rfl|rfl;exact h2;exact h3;exact h4)) u
theorem Ty.refl(W:World):Ty W W:=fun _ _ _ h _ _ _=>h
theorem Ty.alloc{W W1:World}(h:Ty W W1)(o:Obj):Ty W (W1.alloc o):=fun k cs t h1 h2 h3 h4=>Qdl (h k cs t h1 h2 h3 h4) o
theorem Qoy(tmps:Array Value)(W:World)(ba be:Nat)(i er:Int)(h4:tmps[4]? = some (.pointer (some ⟨ba,0,none⟩)))(h5:tmps[5]? = some (.pointer (some ⟨be,0,none⟩)))
  (c4:W.heap[ba]? = some (.cells #[.int .i64 i] 3 (0,0))) (c5:W.heap[be]? = some (.cells #[.int .i64 er] 31 (0,0))) :
  (results Tryz.f169 tmps).run Tryz.prog W=.ok (.tuple #[.int .i64 i,.int .i64 er]) W:=by
 have hr:Tryz.f169.results=#[.cell 4 3,.cell 5 31]:=rfl;have d4:W.cell? ⟨ba,0,none⟩=some (.int .i64 i):=(Qdb c4 0).trans rfl;have d5:W.cell? ⟨be,0,none⟩=some (.int .i64 er):=(Qdb c5 0).trans rfl;have hu1:=Tryz.underlying3;have hu2:=Tryz.underlying31;simp[results,hr,h4,h5,go_sem,loadVar,d4,d5,c4,c5]
theorem Qoz(F:Nat)(cap:Array Value)(A0:Option Addr)(c0:Nat)(l0:List Int)(w:World)(hr0:Kd.C (Kd.int .u8) w A0 l0.length l0)(hl:l0.length≤140737488355328)
  (hcf:∀(as_:Array Value) (W:World),(callFunc F as_).run Tryz.prog W=.ok (.enter F as_) W)
  (Post:Int→Int→World→Prop) (hst:∀er i W W',Post er i W→Below w.heap.size W W'→Ty W W'→Post er i W')
  (hrd:∀(W:World) (g:Nat),w.heap.size≤g→Below w.heap.size w W→IsCur W w.heap.size g l0 0→Calls Tryz.prog F (#[.pointer (some ⟨g,0,none⟩)]++cap) W fun e W'=>∃i,IsCur W' w.heap.size g l0 i∧Tl w.heap.size g W W' ∧
   ((e=.returned (.tuple #[])∧Post 0 i W')∨∃er,e=.panicked [Qlq g er]∧Post er i W')) :
  Calls Tryz.prog 169 #[.slice A0 l0.length c0,.func (.func F) #[] cap] w fun e w'=>∃er i,e=.returned (.tuple #[.int .i64 i,.int .i64 er])∧Post er i w':=by
 have hu:=Tryz.underlying300;have a:=QA hr0;have HRD:=QA @hrd;have HST:=QA @hst;have hmf:∀(fn:Fn) (first cap:Array Value) (w:World),(Instr.makeFunc fn first cap).run Tryz.prog w=.ok (.func fn first cap) w:=fun _ _ _ _=>rfl
 have hnil:∀W:World,(binOp .eql 256 (.func (.func F) #[] cap) .nilFunc).run Tryz.prog W=.ok (.bool false) W:=fun W=>by kernel_rfl
 clear hr0 hrd hst
 go_enter_defers Tryz.func169,Tryz.ntmps169
 go_upto_region 5 with(go_at_call 72;refine(Qit A0 c0 l0 _ (Kd.C_below a.out (Qce (Qce (Below.refl _ _) _) _)) hl).mono ?_;rintro ee w3 ⟨vb,rfl,hR,hb⟩;obtain⟨A,c,hv⟩:=Kd.R_slice hR;subst hv)
 have b0:Below w.heap.size w ((w.alloc (.cells #[.int .i64 0] 3)).alloc (.cells #[.int .i64 0] 31)):=Qce (Qce (Below.refl _ _) _) _;have e0:((w.alloc (.cells #[.int .i64 0] 3)).alloc (.cells #[.int .i64 0] 31)).heap.size=w.heap.size+2:=by simp[World.size_alloc]
 have ka:=Qdo (Qdl (Qdp w (.cells #[.int .i64 0] 3)) (.cells #[.int .i64 0] 31)) hb;have ke:=Qdo (Qdp (w.alloc (.cells #[.int .i64 0] 3)) (.cells #[.int .i64 0] 31)) hb;rw[World.size_alloc]at ke;have b3:Below w.heap.size w w3:=b0.trans (Qis hb b0.size);have hs3:w.heap.size+2≤w3.heap.size:=by have:=hb.size;omega
 have kc:=Qdl (Qdp w3 (.cells #[.slice A l0.length c,.int .i64 0,.bool true] 300)) (.cells #[.pointer (some ⟨w3.heap.size,0,none⟩)] 255);have kp:=Qdp (w3.alloc (.cells #[.slice A l0.length c,.int .i64 0,.bool true] 300)) (.cells #[.pointer (some ⟨w3.heap.size,0,none⟩)] 255);rw[World.size_alloc]at kp;have ka5:=Qdl (Qdl ka (.cells #[.slice A l0.length c,.int .i64 0,.bool true] 300)) (.cells #[.pointer (some ⟨w3.heap.size,0,none⟩)] 255);have ke5:=Qdl (Qdl ke (.cells #[.slice A l0.length c,.int .i64 0,.bool true] 300)) (.cells #[.pointer (some ⟨w3.heap.size,0,none⟩)] 255);have b5:Below w.heap.size w ((w3.alloc (.cells #[.slice A l0.length c,.int .i64 0,.bool true] 300)).alloc (.cells #[.pointer (some ⟨w3.heap.size,0,none⟩)] 255)):=b3.trans (Qis (Qce (Qce (Below.refl _ _) _) _) b3.size);have hI5:IsCur ((w3.alloc (.cells #[.slice A l0.length c,.int .i64 0,.bool true] 300)).alloc (.cells #[.pointer (some ⟨w3.heap.size,0,none⟩)] 255)) w.heap.size w3.heap.size l0 0:=⟨_,kc,R8.low (R8.kept (R8.kept hR (Qce (Below.refl _ _) _)) (Qce (Below.refl _ _) _)) (by rw[e0];omega)⟩;generalize hW5:((w3.alloc (.cells #[.slice A l0.length c,.int .i64 0,.bool true] 300)).alloc (.cells #[.pointer (some ⟨w3.heap.size,0,none⟩)] 255))=W5 at *;have HI5:=QA hI5;have b:=QA b5;have p0:W5.cell? ⟨w3.heap.size+1,0,none⟩=some (.pointer (some ⟨w3.heap.size,0,none⟩)):=(Qdb kp 0).trans rfl;clear hI5 b5 hW5 ka ke b0 e0 hb hR;have ha2:w.heap.size≠w3.heap.size:=by omega
 have he2:w.heap.size+1≠w3.heap.size:=by omega
 have hea:w.heap.size+1≠w.heap.size:=by omega
 have hcg:w3.heap.size+1≠w3.heap.size:=by omega
 go_wp2_with (refine(HRD.out W5 w3.heap.size (by omega) b.out HI5.out).mono ?_;rintro ee w6 ⟨i,hI6,hT6,⟨rfl,hp6⟩ |⟨er,rfl,hp6⟩⟩<;>(obtain⟨v6,kg6,hR6⟩:=hI6;have ka6:=hT6 _ _ _ (by omega) ka5 (by decide) ha2;have ke6:=hT6 _ _ _ (by omega) ke5 (by decide) he2;have kp6:=hT6 _ _ _ (by omega) kp (by decide) hcg;have q0:w6.cell? ⟨w3.heap.size+1,0,none⟩=some (.pointer (some ⟨w3.heap.size,0,none⟩)):=(Qdb kp6 0).trans rfl;have q1:w6.cell? ⟨w3.heap.size,1,none⟩=some (.int .i64 i):=(Qdb kg6 1).trans rfl;have q2:w6.frozen? ⟨w.heap.size,0,none⟩=false:=Qdc ka6 0;have q3:w6.cell? ⟨w.heap.size,0,none⟩=some (.int .i64 0):=(Qdb ka6 0).trans rfl;have ke7:=Qcz ke6 (p:=⟨w.heap.size,0,none⟩) hea (.int .i64 i);have q4:(w6.setCell ⟨w.heap.size,0,none⟩ (.int .i64 i)).frozen? ⟨w.heap.size+1,0,none⟩=false:=Qdc ke7 0;have q5:(w6.setCell ⟨w.heap.size,0,none⟩ (.int .i64 i)).cell? ⟨w.heap.size+1,0,none⟩=some (.int .i64 0):=(Qdb ke7 0).trans rfl))
 ·have bc8:=Qcz (Qcz kp6 (p:=⟨w.heap.size,0,none⟩) (show w3.heap.size+1≠w.heap.size by omega) (.int .i64 i)) (p:=⟨w.heap.size+1,0,none⟩) (show w3.heap.size+1≠w.heap.size+1 by omega) (.int .i64 0);have g8:=Qcz (Qcz kg6 (p:=⟨w.heap.size,0,none⟩) (show w3.heap.size≠w.heap.size by omega) (.int .i64 i)) (p:=⟨w.heap.size+1,0,none⟩) (show w3.heap.size≠w.heap.size+1 by omega) (.int .i64 0);have ba8:=Qcz (Qcy ka6 0 (.int .i64 i)) (p:=⟨w.heap.size+1,0,none⟩) (show w.heap.size≠w.heap.size+1 by omega) (.int .i64 0);have be8:=Qcy ke7 0 (.int .i64 0);have ba9:=Qcy (Qcz ba8 (p:=⟨w3.heap.size,2,none⟩) ha2 (.bool false)) 0 (.int .i64 i);have be9:=Qcz (Qcz be8 (p:=⟨w3.heap.size,2,none⟩) he2 (.bool false)) (p:=⟨w.heap.size,0,none⟩) hea (.int .i64 i);have bl:Below w.heap.size w6 (((((w6.setCell ⟨w.heap.size,0,none⟩ (.int .i64 i)).setCell ⟨w.heap.size+1,0,none⟩ (.int .i64 0)).setCell ⟨w3.heap.size,2,none⟩ (.bool false)).setCell ⟨w.heap.size,0,none⟩ (.int .i64 i))) :=
   Qir (Qir (Qir (Qir (Below.refl _ _) (Nat.le_refl _)) (Nat.le_succ _)) (by omega)) (Nat.le_refl _)
  have bt:Ty w6 (((((w6.setCell ⟨w.heap.size,0,none⟩ (.int .i64 i)).setCell ⟨w.heap.size+1,0,none⟩ (.int .i64 0)).setCell ⟨w3.heap.size,2,none⟩ (.bool false)).setCell ⟨w.heap.size,0,none⟩ (.int .i64 i))) :=
   ((((Ty.refl w6).set ka6 (.inl rfl) _).set ke7 (.inr (.inl rfl)) _).set g8 (.inr (.inr rfl)) _).set (Qcz ba8 (p:=⟨w3.heap.size,2,none⟩) ha2 (.bool false)) (.inl rfl) _
  refine leaves_cons (f:=218) (args:=#[.pointer (some ⟨w3.heap.size+1,0,none⟩),.pointer (some ⟨w.heap.size,0,none⟩),.pointer (some ⟨w.heap.size+1,0,none⟩)]) (by simp) (by simp[go_sem]) ?_;refine(Qow w3.heap.size w.heap.size (w.heap.size+1) (w3.heap.size+1) i i v6 _ bc8 g8 ba8).mono ?_;rintro e u' w'' ⟨rfl,rfl,rfl⟩;show Leaves _ _ _ _ [] .returning _;exact⟨_,Qoy _ _ _ _ i 0 rfl rfl ba9 be9,0,i,rfl,HST.out _ _ _ _ hp6 bl bt⟩
 ·have ba9:=Qcz (Qdl (Qcy (Qcz ka6 (p:=⟨w3.heap.size,2,none⟩) ha2 (.bool false)) 0 (.int .i64 i)) (.cells #[.pointer (some ⟨w3.heap.size,0,none⟩),.int .i64 er] 302)) (p:=⟨w.heap.size+1,0,none⟩) (show w.heap.size≠w.heap.size+1 by omega) (.int .i64 er);have be9:=Qcy (Qdl (Qcz (Qcz ke6 (p:=⟨w3.heap.size,2,none⟩) he2 (.bool false)) (p:=⟨w.heap.size,0,none⟩) hea (.int .i64 i)) (.cells #[.pointer (some ⟨w3.heap.size,0,none⟩),.int .i64 er] 302)) 0 (.int .i64 er);have s6:w.heap.size≤w6.heap.size:=Nat.le_of_lt (Qda ka6);have b1:Below w.heap.size w6 ((w6.setCell ⟨w3.heap.size,2,none⟩ (.bool false)).setCell ⟨w.heap.size,0,none⟩ (.int .i64 i)):=Qir (Qir (Below.refl _ _) (by omega)) (Nat.le_refl _);have bl:Below w.heap.size w6 ((((w6.setCell ⟨w3.heap.size,2,none⟩ (.bool false)).setCell ⟨w.heap.size,0,none⟩ (.int .i64 i)).alloc (.cells #[.pointer (some ⟨w3.heap.size,0,none⟩),.int .i64 er] 302)).setCell ⟨w.heap.size+1,0,none⟩ (.int .i64 er)) :=
   Qir (b1.trans (Qis (Qce (Below.refl _ _) _) (Nat.le_trans s6 b1.size))) (Nat.le_succ _)
  have bt:Ty w6 ((((w6.setCell ⟨w3.heap.size,2,none⟩ (.bool false)).setCell ⟨w.heap.size,0,none⟩ (.int .i64 i)).alloc (.cells #[.pointer (some ⟨w3.heap.size,0,none⟩),.int .i64 er] 302)).setCell ⟨w.heap.size+1,0,none⟩ (.int .i64 er)) :=
   ((((Ty.refl w6).set kg6 (.inr (.inr rfl)) _).set (Qcz ka6 (p:=⟨w3.heap.size,2,none⟩) ha2 (.bool false)) (.inl rfl) _).alloc _).set (Qdl (Qcz (Qcz ke6 (p:=⟨w3.heap.size,2,none⟩) he2 (.bool false)) (p:=⟨w.heap.size,0,none⟩) hea (.int .i64 i)) _) (.inr (.inl rfl)) _
  refine leaves_cons (f:=218) (args:=#[.pointer (some ⟨w3.heap.size+1,0,none⟩),.pointer (some ⟨w.heap.size,0,none⟩),.pointer (some ⟨w.heap.size+1,0,none⟩)]) (by simp) (by simp[go_sem]) ?_;refine(Qox w3.heap.size w.heap.size (w.heap.size+1) (w3.heap.size+1) i 0 0 er v6 _ kp6 kg6 ka6 ke6).mono ?_;rintro e u' w'' ⟨rfl,rfl,rfl⟩;show Leaves _ _ _ _ [] .returning _;exact⟨_,Qoy _ _ _ _ i er rfl rfl ba9 be9,er,i,rfl,HST.out _ _ _ _ hp6 bl bt⟩
theorem Qpa(F:Nat)(cap:Array Value)(A0:Option Addr)(c0:Nat)(l0:List Int)(w:World)(hr0:Kd.C (Kd.int .u8) w A0 l0.length l0)(hl:l0.length≤140737488355328)
  (hcf:∀(as_:Array Value) (W:World),(callFunc F as_).run Tryz.prog W=.ok (.enter F as_) W)
  (Post:Int→Int→World→Prop) (hst:∀er i W W',Post er i W→Below w.heap.size W W'→Post er i W')
  (hrd:∀(W:World) (g:Nat),w.heap.size≤g→Below w.heap.size w W→IsCur W w.heap.size g l0 0→Calls Tryz.prog F (#[.pointer (some ⟨g,0,none⟩)]++cap) W fun e W'=>∃i,IsCur W' w.heap.size g l0 i∧Tl w.heap.size g W W' ∧
   ((e=.returned (.tuple #[])∧Post 0 i W')∨∃er,e=.panicked [Qlq g er]∧Post er i W')) :
  Calls Tryz.prog 169 #[.slice A0 l0.length c0,.func (.func F) #[] cap] w fun e w'=>∃er i,e=.returned (.tuple #[.int .i64 i,.int .i64 er])∧Post er i w' :=
 Qoz F cap A0 c0 l0 w hr0 hl hcf Post (fun er i W W' h1 h2 _=>hst er i W W' h1 h2) hrd
def Qrr(l:List Int):Bool:=l.all (fun x=>x == 255)
theorem Qrs(x:Int)(w:World):Calls Tryz.prog 126 #[.int .u8 x] w fun e w'=>e=.returned (.bool (x != 255))∧w'=w:=by
 go_enter Tryz.func126,Tryz.ntmps126
 go_wp2;go_ret
 exact⟨rfl,rfl⟩
theorem Qrt(A:Option Addr)(c:Nat)(l:List Int)(w:World)(hr:Kd.C (Kd.int .u8) w A l.length l)(hl:l.length≤140737488355328) :
  Calls Tryz.prog 184 #[.slice A l.length c,.func (.func 126) #[] #[]] w fun e w'=>∃r,e=.returned (.int .i64 r)∧decide (0≤r)=!Qrr l∧w'=w:=by
 have HR:=QA hr;clear hr
 go_enter Tryz.func184,Tryz.ntmps184
 go_wp2
 go_loopw [5,8] (fun v5 v8 wr=>∃(j:Nat) (iv:Int),j≤l.length∧v8=.int .i64 iv∧Aside0 (iv=(j:Int))∧Aside0 (Qrr (l.take j)=true)∧wr=w)
  (fun _ v8 _=>l.length-(intOf v8).toNat)
 case atStart=>exact⟨0,0,Nat.zero_le _,rfl,⟨rfl⟩,⟨rfl⟩,rfl⟩
 case round =>
  obtain⟨j,iv,hj,rfl,HJ,HA,rfl⟩:=hrel
  by_cases hlt:j<l.length
  ·have hlt2:iv<(l.length:Int):=by have:=HJ.out;omega
   have hge:0≤iv:=by have:=HJ.out;omega
   have hwi:IntKind.i64.wrap (iv+1)=iv+1:=IntWalk.i64_in _ (by omega);obtain⟨ad,hA,hx⟩:=Kd.at_int HR.out iv hge hlt2;subst hA;obtain⟨x,hxx⟩:∃x,x=YteaocbonofboeaaGreatW.PrintWords.rd l iv:=⟨_,rfl⟩;rw[← hxx]at hx;have HX:=QA hxx;clear hxx;have ht:l.take (j+1)=l.take j++[x]:=by
    rw[HX.out,HJ.out,List.take_succ_eq_append_getElem hlt]
    congr 1
    simp[rd,List.getD,List.getElem?_eq_getElem hlt]
   have HT:=QA ht;clear ht
   by_cases h5:x=255
   ·subst h5;have hne:((255:Int) != 255)=false:=rfl
    go_wp2_with (go_at_call 126;refine(Qrs 255 _).mono ?_;rintro ee w1 ⟨rfl,rfl⟩)
    go_roundw
    case rel=>exact⟨j+1,iv+1,hlt,rfl,⟨by have:=HJ.out;omega⟩,⟨by rw[HT.out];unfold Qrr at HA ⊢;rw[List.all_append,HA.out];rfl⟩,trivial⟩
    case measure=>have:=HJ.out;simp[intOf];omega
   ·have hne:(x != 255)=true:=bne_iff_ne.2 h5
    go_wp2_with (go_at_call 126;refine(Qrs x _).mono ?_;rintro ee w1 ⟨rfl,rfl⟩)
    go_ret
    refine⟨_,rfl,?_,rfl⟩;rw[decide_eq_true hge];have hm:x∈l:=by
     have:x∈l.take (j+1):=by rw[HT.out];simp
     exact List.mem_of_mem_take this
    have:Qrr l=false:=by
     unfold Qrr;rw[List.all_eq_false];exact⟨x,hm,by simpa using h5⟩
    rw[this];rfl
  ·obtain rfl:j=l.length:=by omega
   have e1:iv=(l.length:Int):=HJ.out;subst e1;go_wp2;go_ret
   have h:=HA.out;rw[List.take_length]at h;exact⟨_,rfl,by rw[h];rfl,rfl⟩
theorem Qru(A:Option Addr)(c:Nat)(l:List Int)(w:World)(hr:Kd.C (Kd.int .u8) w A l.length l)(hl:l.length≤140737488355328) :
  Calls Tryz.prog 71 #[.slice A l.length c] w fun e w'=>e=.returned (.bool (Qrr l))∧w'=w:=by
 have HR:=QA hr;clear hr;have hcon:Calls Tryz.prog 125 #[.slice A l.length c,.func (.func 126) #[] #[]] w fun e w'=>e=.returned (.bool (!Qrr l))∧w'=w:=by
  go_enter Tryz.func125,Tryz.ntmps125
  go_wp2_with (go_at_call 184;refine(Qrt A c l _ HR.out hl).mono ?_;rintro ee w1 ⟨r,rfl,hd,rfl⟩)
  go_ret
  exact⟨by rw[← hd];rfl,rfl⟩
 have HC:=QA hcon;clear hcon;obtain⟨q,hq⟩:∃q,q=Qrr l:=⟨_,rfl⟩;rw[← hq]at HC ⊢;have HQ:=QA hq;clear hq
 go_enter Tryz.func71,Tryz.ntmps71
 go_wp2_with (go_at_call 125;refine HC.out.mono ?_;rintro ee w1 ⟨rfl,rfl⟩)
 go_ret
 exact⟨by simp,rfl⟩
def Qaw.f(a0:Int):Option (Int × Int):=if 0≤a0 then if a0<256 then some (12+a0%2,1+a0/2%8)else none else none
theorem Qaw.calls(a0:Int)(r1:Int)(r2:Int)(w:World)(h:Qaw.f a0=some (r1,r2)) :
  Calls Tryz.prog 16 #[.int .u8 a0] w fun e w'=>e=.returned (.agg #[.int .u8 r1,.int .u32 r2])∧Below w.heap.size w w':=by
 unfold Qaw.f at h
 by_cases h0:0≤a0
 ·by_cases h1:a0<256
  ·rw[if_pos h0,if_pos h1]at h;simp only[Option.some.injEq,Prod.mk.injEq]at h;have hr1:=QA h.1;have hr2:=QA h.2;clear h;have hu:=Tryz.underlying28;have e1:Int.tmod a0 2=a0%2:=Int.tmod_eq_emod_of_nonneg h0;have e2:Int.tdiv a0 2=a0/2:=Int.tdiv_eq_ediv_of_nonneg h0;have e3:(12+a0%2)%256=12+a0%2:=by omega
   have e4:a0/2%256=a0/2:=by omega
   go_enter Tryz.func16,Tryz.ntmps16
   go_wp2_with fail
   refine bodyPost_ret (results_cell_row rfl _ _ w.heap.size 28 #[.int .u8 (12+a0%2),.int .u32 (1+a0/2%8)] (0,0) _ rfl (Qdp w _) Tryz.underlying28 rfl qq_4) rfl ?_;exact⟨by rw[hr1.out,hr2.out],Qce (Below.refl _ _) _⟩
  ·rw[if_pos h0,if_neg h1]at h;cases h
 ·rw[if_neg h0]at h;cases h
end Go.Proofs.YteaocbonofboeaaGreat.C
end
section
namespace Go.Proofs.YteaocbonofboeaaGreat.C
open Go.RowKit Go.Proofs.YteaocbonofboeaaGreatW.PrintWords Go.Proofs.YteaocbonofboeaaGreatW.PrintLast Go.Proofs.YteaocbonofboeaaGreatW.PrintMore
attribute [local go_sem] Qhl Qhm Qhn Qho
theorem Qjm:∃i,Tryz.prog.info? 5=some i∧i.size=1∧i.zero=some (.int .u8 0)∧i.bytes=1:=by
 have h:=Qia
 cases hh:Tryz.prog.info? 5 with
 | none=>rw[hh]at h;cases h
 | some i =>
  rw[hh]at h;simp only[Option.map_some,Option.some.injEq,Prod.mk.injEq]at h;exact⟨i,rfl,h.2.1,h.1,h.2.2⟩
theorem Qjn(A:Option Addr)(n c m:Nat)(j:Int)(hj:j=(m:Int))(hm:m≤n)(hc:n≤c) :
  ∃(A':Option Addr) (n' c':Nat),n'=n-m∧n'≤c'∧(∀W:World,(Instr.slice 40 (.slice A n c) (some (.int .i64 j)) none none).run Tryz.prog W=.ok (.slice A' n' c') W) ∧
   ∀(W:World) (xs:List Int),Kd.C (Kd.int .u8) W A n xs→Kd.C (Kd.int .u8) W A' n' (xs.drop m):=by
 subst hj;obtain⟨i,hi,hsz,_⟩:=Qjm;refine⟨if c=m then A else A.map (·.add (m*1)),n-m,c-m,rfl,by omega,fun W=>?_,fun W xs hq=>?_⟩
 ·have h:=Qeb (P:=Tryz.prog) 40 5 .i64 Tryz.underlying40 hi 1 hsz A n c (m:Int) (by omega) (by omega) W;rw[Int.toNat_natCast]at h;exact h
 ·have hl:=hq.1;subst hl;have h:=Kd.C_drop hq hm hc;rw[List.length_drop]at h;exact h
theorem c8_to(A:Option Addr)(n c m:Nat)(j:Int)(hj:j=(m:Int))(hm:m≤n)(hc:n≤c) :
  ∃(n':Nat),n'=m∧n'≤c∧(∀W:World,(Instr.slice 40 (.slice A n c) none (some (.int .i64 j)) none).run Tryz.prog W=.ok (.slice A n' c) W) ∧
   ∀(W:World) (xs:List Int),Kd.C (Kd.int .u8) W A n xs→Kd.C (Kd.int .u8) W A n' (xs.take m):=by
 subst hj;obtain⟨i,hi,hsz,_⟩:=Qjm;refine⟨m,rfl,by omega,fun W=>?_,fun W xs hq=>?_⟩
 ·have h:=Qea (P:=Tryz.prog) 40 5 .i64 Tryz.underlying40 hi A n c (m:Int) (by omega) (by omega) hc W;rw[Int.toNat_natCast]at h;exact h
 ·have hl:=hq.1;subst hl;have h:=Kd.C_take hq hm;rw[List.length_take,Nat.min_eq_left hm]at h;exact h
theorem ix_at{W:World}{A:Option Addr}{n c:Nat}{l:List Int}(v:Int)(hC:Kd.C (Kd.int .u8) W A n l)(hc:n≤c) :
  Calls Tryz.prog 68 #[.slice A n c,.int .u8 v] W fun e w'=>e=.returned (.int .i64 (ixOf l v))∧Drawn0 W w':=by
 have hl:=hC.1;subst hl;exact Qae.calls A c l v _ W hC hc rfl
theorem Qjo(l:List Int)(c:Int):-1≤ixOf l c∧ixOf l c<l.length:=by
 unfold ixOf;refine⟨Lib.indexByte_ge _ _,?_⟩
 rcases Int.lt_or_le (Lib.indexByte (Lib.bytesOf l) c.toNat.toUInt8) 0 with h|h
 ·omega
 ·obtain⟨o,ho⟩:=Int.eq_ofNat_of_zero_le h;have h1:=(Lib.indexByte_some (o:=o) ho).1;have h2:=(List.getElem?_eq_some_iff.1 h1).1;have h3:(Lib.bytesOf l).length=l.length:=by simp[Lib.bytesOf]
  omega
theorem R8.cap(W:World)(cs:Array Value)(cap:Nat)(hsz:cs.size=cap*1)(hm:cap≤maxLen):R8 (W.alloc (.cells cs 5)) W.heap.size (.slice (some ⟨W.heap.size,0,none⟩) 0 cap) [] :=
 Kd.R_of_own ⟨by simp[encs],.inr ⟨W.heap.size,cap,cs,rfl,Nat.le_refl _,heap_alloc_new W _,Nat.zero_le _,hm,hsz,by simp[encs]⟩⟩ (fun _ _=>trivial)
def Qjp:Nat→List Int→List Int
 | 0,_=>[]
 | k+1,b =>
  if 0≤ixOf (b.take 254) 0 then((ixOf (b.take 254) 0+1)%256) :: (b.take (ixOf (b.take 254) 0).toNat++Qjp k (b.drop ((ixOf (b.take 254) 0).toNat+1)))
  else if 254<b.length then 255 :: (b.take 254++Qjp k (b.drop 254))
  else(((b.length:Int)+1)%256) :: b
def Qjq(b:List Int):List Int:=Qjp (b.length+1) b
theorem Qjr:∀(k:Nat) (b:List Int),b.length<k→∀j,Qjp (k+j) b=Qjp k b
 | 0,b,h,_=>by omega
 | k+1,b,h,j=>by
  rw[show k+1+j=(k+j)+1 by omega];unfold Qjp;split
  ·rename_i h0;have h1:=(Qjo (b.take 254) 0).2;rw[List.length_take]at h1;rw[Qjr k _ qq_24 j]
  ·split
   ·rw[Qjr k _ qq_24 j]
   ·rfl
theorem Qjs(k:Nat)(b:List Int)(h:b.length<k):Qjp k b=Qjq b:=by
 have e:=Qjr (b.length+1) b (by omega) (k-(b.length+1));rw[show b.length+1+(k-(b.length+1))=k by omega]at e;exact e
theorem Qjt{b:List Int}{p:Nat}(h:ixOf (b.take 254) 0=(p:Int)):Qjq b=(((p:Int)+1)%256) :: (b.take p++Qjq (b.drop (p+1))):=by
 have h1:=(Qjo (b.take 254) 0).2;rw[List.length_take]at h1;have hp:p<b.length:=by omega
 rw[Qjq,Qjp,if_pos (by omega),h,Int.toNat_natCast,Qjs _ _ qq_24]
theorem Qju{b:List Int}(h:ixOf (b.take 254) 0<0)(hl:254<b.length):Qjq b=255 :: (b.take 254++Qjq (b.drop 254)):=by
 rw[Qjq,Qjp,if_neg (by omega),if_pos hl,Qjs _ _ qq_24]
theorem Qjv{b:List Int}(h:ixOf (b.take 254) 0<0)(hl:¬254<b.length):Qjq b=(((b.length:Int)+1)%256) :: b:=by
 rw[Qjq,Qjp,if_neg (by omega),if_neg hl]
def most(n:Nat):Nat:=if n=0 then 1 else n+1+(n-1)/254
theorem most_is(n:Nat)(h:n≤140737488355328):Qal.f (n:Int)=some (most n:Int):=by
 unfold Qal.f most
 by_cases h0:n=0
 ·subst h0;rfl
 ·rw[if_neg (by omega),if_neg h0];have e1:wrap64 ((n:Int)-1)=(n:Int)-1:=by unfold wrap64;omega
  have e2:wrap64 ((n:Int)+1)=(n:Int)+1:=by unfold wrap64;omega
  rw[e1,e2];have e3:Int.tdiv ((n:Int)-1) 254=(((n-1)/254:Nat):Int):=by
   rw[show(n:Int)-1=((n-1:Nat):Int)by omega];rfl
  rw[e3];have e4:wrap64 (((n-1)/254:Nat):Int)=(((n-1)/254:Nat):Int):=by unfold wrap64;omega
  rw[e4];have e5:wrap64 ((n:Int)+1+(((n-1)/254:Nat):Int))=(n:Int)+1+(((n-1)/254:Nat):Int):=by unfold wrap64;omega
  rw[e5];simp
theorem Qjw(A0:Option Addr)(c0:Nat)(l0:List Int)(w:World)(hr0:Kd.C (Kd.int .u8) w A0 l0.length l0)(hc0:l0.length≤c0)(hl:l0.length≤35184372088832) :
  Calls Tryz.prog 151 #[.slice A0 l0.length c0] w fun e w'=>∃r:Value,e=.returned (r)∧R8 w' w.heap.size r (Qjq l0)∧Below w.heap.size w w':=by
 obtain⟨i8,hi8,hs8,hz8,hb8⟩:=Qjm;have hmost:most l0.length≤140737488355328:=by unfold most;split<;>omega
 have hrun:=fun W=>run_make (P:=Tryz.prog) W 40 5 i8 (.int .u8 0) Tryz.underlying40 hi8 hz8 .i64 .i64 0 (most l0.length:Int) (by omega) (by omega) (by rw[hb8];omega) (by omega)
 simp only[hs8]at hrun;have v:=QA hr0;clear hr0
 go_enter Tryz.func151,Tryz.ntmps151
 go_wp2_with (first |(go_at_call 196;refine(Qal.calls _ _ _ (most_is l0.length (by omega))).mono ?_;rintro e w' ⟨rfl,hd⟩;obtain⟨q,rfl⟩:=hd.out;clear hd))
 obtain⟨W0,hW0⟩:∃W0,W0=(w.drewN q).alloc (.cells (madeCells #[.int .u8 0] (most l0.length)) 5):=⟨_,rfl⟩;have s:=QA (show R8 W0 w.heap.size (.slice (some ⟨w.heap.size,0,none⟩) 0 (most l0.length)) []by rw[hW0];exact R8.cap (w.drewN q) _ _ (by simp[madeCells]) (by unfold maxLen;omega));have t:=QA (show Below w.heap.size w W0 by rw[hW0];exact Qch (Qcg (Below.refl _ _) q) (Nat.le_refl _) (Qce (Below.refl _ _) _));rw[← hW0];clear hW0 hrun
 go_loopw [0,3,4,24,41] (fun v0 v3 v4 y z wr=>∃(l' out:List Int) (A:Option Addr) (n c:Nat),v0=.slice A n c∧n≤c∧Aside0 (n=l'.length)∧n≤l0.length∧out.length+2*n≤2*l0.length∧Aside0 (Qjq l0=out++Qjq l')∧Aside0 (Kd.C (Kd.int .u8) w A n l')∧Aside0 (R8 wr w.heap.size v3 out)∧Aside0 (Below w.heap.size w wr))
  (fun v0 _ _ _ _ _=>lenV v0)
 case atStart=>exact⟨l0,[],A0,l0.length,c0,rfl,hc0,⟨rfl⟩,Nat.le_refl _,by simp,⟨rfl⟩,v,s,t⟩
 case round =>
  obtain⟨l',out,A,n,c,rfl,hnc,HN,B,hout,HS,HC,HR,HB⟩:=hrel;clear s t;obtain⟨x,hx⟩:∃x,x=ixOf (l'.take 254) 0:=⟨_,rfl⟩;have hxr:=Qjo (l'.take 254) 0;rw[← hx]at hxr;have hlt:=HN.out;have D:x<(n:Int)∧x<254:=by have:=hxr.2;rw[List.length_take]at this;omega
  have E:=hxr.1;have HX:=QA hx;clear hxr hlt hx;obtain⟨m,hm,hC1,hmc⟩:∃m,(m=if 254<n then 254 else n)∧Aside0 (Kd.C (Kd.int .u8) w A m (l'.take 254))∧m≤c:=by
   by_cases h:254<n
   ·refine⟨254,by rw[if_pos h],⟨?_⟩,by omega⟩;have h1:=HC.out;rw[HN.out]at h1;have h2:=Kd.C_take h1 (m:=254) qq_16;rw[List.length_take,Nat.min_eq_left qq_16]at h2;exact h2
   ·refine⟨n,by rw[if_neg h],⟨?_⟩,hnc⟩;rw[List.take_of_length_le qq_16];exact HC.out
  have HM:=QA hm
  by_cases hxz:0≤x
  ·obtain⟨p,rfl⟩:=Int.eq_ofNat_of_zero_le hxz;have hpn:(p:Int)≤(n:Int):=by omega
   have hp8:p<254:=by omega
   have hwp:IntKind.i64.wrap ((p:Int)+1)=(p:Int)+1:=IntWalk.i64_in _ (by omega);have hCp:=QA (show Kd.C (Kd.int .u8) w A p (l'.take p)by
    have h1:=HC.out;rw[HN.out]at h1;have h2:=Kd.C_take h1 (m:=p) qq_16;rw[List.length_take,Nat.min_eq_left qq_16]at h2;exact h2)
   obtain⟨p',hp',_,hcutp,_⟩:=c8_to A n c p p rfl (by omega) hnc;subst hp';obtain⟨A4,n4,c4,d,g,hcut4,hC4⟩:=Qjn A n c (p'+1) ((p':Int)+1) (by omega) (by omega) hnc;have HN4:=QA d;have u:n4<n:=by omega
   clear d
   by_cases hbig:254<n
   all_goals first|rw[if_pos hbig]at hm|rw[if_neg hbig]at hm
   all_goals
    subst hm
    go_wp2_with (first |(go_at_call 68;refine(ix_at 0 (Kd.C_below hC1.out HB.out) hmc).mono ?_;rw[← HX.out];rintro e w2 ⟨rfl,hd⟩;obtain⟨q2,rfl⟩:=hd.out;clear hd))
    obtain⟨W,hW⟩:∃W,W=(wr.drewN q2).drew:=⟨_,rfl⟩
    go_region_law (first
     |(refine Kd.R_append_step (Kd.int .u8) (w0:=w) w.heap.size (by rfl) (.tmp 27) (.tmp 31) 40 5 (.int .u8 0) 1 rfl Tryz.underlying40 Qia rfl (by decide) (by omega) u3 out (((p':Int)+1)%256) [.int .u8 (((p':Int)+1)%256)] (fun _=>True) (fun _=>False) rfl ?ax ?aP (fun _ hk=>hk.elim) (fun _ _=>trivial) ?aO ?aB ?aS ?aL ?_;(case ax=>rfl);(case aP=>rfl);(case aO=>exact Kd.R_drew (Kd.R_drewN HR.out q2));(case aB=>exact Qcf (Qcg HB.out q2));(case aS=>exact HB.out.size);(case aL=>omega);intro v1 w1 b hb1 l hat1)
     |(refine Kd.R_append_rows_step (Kd.int .u8) (Rr:=fun x cs=>cs=[.int .u8 x]) (w0:=w) w.heap.size (by rfl) (.tmp 32) (.tmp 35) 40 5 (.int .u8 0) 1 rfl Tryz.underlying40 Qia rfl (by decide) (by omega) v1 (out++[((p':Int)+1)%256]) (l'.take p') A p' c (fun _=>True) (fun _=>False) rfl rfl b ?bR (fun _ _ h=>h) (fun _ hk=>hk.elim) (fun _ _=>trivial) hb1 hb1.size ?bL ?_;(case bR=>exact Kd.C_below hCp.out hb1);(case bL=>simp;omega);intro v2 w2 a hb2 o hat2))
    all_goals
     have j:=QA a;have k:=QA hb2;clear b hb1 l hat1 a hb2 o hat2
     go_wp2_with fail
     go_roundw
     case rel=>exact⟨l'.drop (p'+1),out++[((p':Int)+1)%256]++l'.take p',A4,n4,c4,rfl,g,⟨by rw[List.length_drop];have:=HN4.out;have:=HN.out;omega⟩,by omega,by
       have:=HN.out;have:=HN4.out;simp only[List.length_append,List.length_singleton,List.length_take];omega,⟨by
       rw[HS.out,Qjt HX.out.symm];simp⟩,⟨hC4 _ _ HC.out⟩,j,k⟩
     case measure=>simp[lenV];omega
  ·have hxm:x=-1:=by omega
   subst hxm;have hix:ixOf (l'.take 254) 0<0:=by have:=HX.out;omega
   have HIX:=QA hix;clear hix
   by_cases hbig:254<n
   ·rw [if_pos hbig]at hm;subst hm;have hbi:(254:Int)<(n:Int):=by omega
    obtain⟨p',hp',_,hcutp,_⟩:=c8_to A n c 254 254 rfl (by omega) hnc;subst hp';obtain⟨A4,n4,c4,d,g,hcut4,hC4⟩:=Qjn A n c 254 254 rfl (by omega) hnc;have HN4:=QA d;have u:n4<n:=by omega
    clear d
    go_wp2_with (first |(go_at_call 68;refine(ix_at 0 (Kd.C_below hC1.out HB.out) hmc).mono ?_;rw[← HX.out];rintro e w2 ⟨rfl,hd⟩;obtain⟨q2,rfl⟩:=hd.out;clear hd))
    go_region_law (first
     |(refine Kd.R_append_step (Kd.int .u8) (w0:=w) w.heap.size (by rfl) (.tmp 45) (.tmp 46) 40 5 (.int .u8 0) 1 rfl Tryz.underlying40 Qia rfl (by decide) (by omega) u3 out 255 [.int .u8 255] (fun _=>True) (fun _=>False) rfl ?ax ?aP (fun _ hk=>hk.elim) (fun _ _=>trivial) ?aO ?aB ?aS ?aL ?_;(case ax=>rfl);(case aP=>rfl);(case aO=>exact Kd.R_drew (Kd.R_drewN HR.out q2));(case aB=>exact Qcf (Qcg HB.out q2));(case aS=>exact HB.out.size);(case aL=>omega);intro v1 w1 b hb1 l hat1)
     |(refine Kd.R_append_rows_step (Kd.int .u8) (Rr:=fun x cs=>cs=[.int .u8 x]) (w0:=w) w.heap.size (by rfl) (.tmp 47) (.tmp 49) 40 5 (.int .u8 0) 1 rfl Tryz.underlying40 Qia rfl (by decide) (by omega) v1 (out++[255]) (l'.take 254) A 254 c (fun _=>True) (fun _=>False) rfl rfl b ?bR (fun _ _ h=>h) (fun _ hk=>hk.elim) (fun _ _=>trivial) hb1 hb1.size ?bL ?_;(case bR=>exact Kd.C_below hC1.out hb1);(case bL=>simp;omega);intro v2 w2 a hb2 o hat2))
    all_goals
     have j:=QA a;have k:=QA hb2;clear b hb1 l hat1 a hb2 o hat2
     go_wp2_with fail
     go_roundw
     case rel=>exact⟨l'.drop 254,out++[255]++l'.take 254,A4,n4,c4,rfl,g,⟨by rw[List.length_drop];have:=HN4.out;have:=HN.out;omega⟩,by omega,by
       have:=HN.out;have:=HN4.out;simp only[List.length_append,List.length_singleton,List.length_take];omega,⟨by
       rw[HS.out,Qju HIX.out qq_16];simp⟩,⟨hC4 _ _ HC.out⟩,j,k⟩
     case measure=>simp[lenV];omega
   ·rw[if_neg hbig]at hm;subst hm;have hbi:(m:Int)≤254:=by omega
    go_wp2_with (first
     |(go_at_call 68;refine(ix_at 0 (Kd.C_below hC1.out HB.out) hmc).mono ?_;rw[← HX.out];rintro e w2 ⟨rfl,hd⟩;obtain⟨q2,rfl⟩:=hd.out;clear hd)
     |(at_builtin;refine Kd.R_append (Kd.int .u8) (w0:=w) w.heap.size rfl (.tmp 15) (.tmp 20) 40 5 (.int .u8 0) 1 rfl Tryz.underlying40 Qia rfl (by decide) (by omega) u3 out ((m:Int)+1) [.int .u8 ((m:Int)+1)] (fun _=>True) (fun _=>False) rfl ?ax ?aP (fun _ hk=>hk.elim) ?aF ?aO ?aB ?aS ?aL ?_;(case ax=>rfl);(case aP=>rfl);(case aF=>exact fun _ _=>trivial);(case aO=>exact Kd.R_drewN HR.out q2);(case aB=>exact Qcg HB.out q2);(case aS=>exact HB.out.size);(case aL=>omega);intro v1 w1 b hb1 l hat1)
     |(at_builtin;refine Kd.R_append_rows (Kd.int .u8) (Rr:=fun x cs=>cs=[.int .u8 x]) (w0:=w) w.heap.size rfl (.tmp 21) (.tmp 22) 40 5 (.int .u8 0) 1 rfl Tryz.underlying40 Qia rfl (by decide) (by omega) v1 (out++[(m:Int)+1]) (l'.take 254) A m c (fun _=>True) (fun _=>False) rfl rfl b ?bR (fun _ _ h=>h) (fun _ hk=>hk.elim) (fun _ _=>trivial) hb1 hb1.size ?bL ?_;(case bR=>exact Kd.C_below hC1.out hb1);(case bL=>simp;omega);intro v2 w2 a hb2 o hat2))
    go_ret
    refine⟨v2,rfl,?_,hb2⟩;have hlm:=HN.out;rw[HS.out,Qjv HIX.out (by omega),← hlm];rw[List.take_of_length_le (by omega)]at a;rw[show((m:Int)+1)%256=(m:Int)+1 by omega]
    simpa using a
def Qam.f(l0:List Int):Option (List Int):=if l0.length≤35184372088832 then some (Qjq l0)else none
theorem Qam.calls(A0:Option Addr)(c0:Nat)(l0:List Int)(r:List Int)(w:World)(hr0:Kd.C (Kd.int .u8) w A0 l0.length l0)(hc0:l0.length≤c0)(h:Qam.f l0=some r) :
  Calls Tryz.prog 151 #[.slice A0 l0.length c0] w fun e w'=>∃v0_:Value,e=.returned (v0_)∧Kd.R (Kd.int .u8) 5 w' w.heap.size (fun _=>True) v0_ r∧Below w.heap.size w w':=by
 unfold Qam.f at h
 by_cases hl:l0.length≤35184372088832
 ·rw[if_pos hl]at h
  cases h
  exact Qjw A0 c0 l0 w hr0 hc0 hl
 ·rw[if_neg hl]at h;cases h
end Go.Proofs.YteaocbonofboeaaGreat.C
end
