/- Merged texts. -/
import Derived.Test.YteaocbonofboeaaGreatMC00
import Derived.Test.YteaocbonofboeaaGreatMC01
import Derived.Test.YteaocbonofboeaaGreatProg
import Derived.Below
import Derived.Deep.Draws
import Derived.Deep.AppendLies
import Derived.Maps.AppendAt
import Derived.OwnWalk
import Derived.Laws.BytesArg
import Derived.Laws.MakeOwn
import Derived.Laws.OwnMore
import Derived.Deep.OwnRows
import Derived.Tactics
import Derived.Lib.ConvBytes
import Derived.Laws.Slices
import Derived.WalkKit
import Derived.KernelRfl
import Derived.RowKit3
import Derived.Deep.LoopGhost
import Derived.Deep.QuietTactic
import Derived.BigQuiet
import Derived.WideLaws
import Derived.Deep.DeepCutAuto
import Derived.Deep.CutBlock
import Derived.Deep.RegionHeld3
import Derived.Laws.Rows
import Derived.Lib.AppendStr
import Derived.ArgAppend
import Derived.Laws.IdiomCopy
import Derived.OrdersHeld
import Derived.Laws.BitsLemmas
import Derived.RowKit
set_option linter.unusedVariables false
set_option linter.unusedSimpArgs false
set_option maxHeartbeats 8000000
set_option maxRecDepth 100000
section
namespace Go.Proofs.YteaocbonofboeaaGreatW.PrintWords
open Go.RowKit
namespace Kd
section
variable {α:Type} {n:Nat} {d:Kd α} {hs:0<d.sz} {w:World} {base:Nat} {ok:Nat→Prop} {xs:List α} {cs:List Value}
end
section
variable {α:Type} {n:Nat} {enc:α→Value} {h1:∀x,(enc x).oneCell'=true} {hs:0<(scalar enc h1).sz} {w:World} {base:Nat} {ok:Nat→Prop} {xs:List α} {cs:List Value}
end
structure Heap {α:Type} (d:Kd α):Prop where
  K:∀ {w w1:World} {x:α} {cs:List Value},(∀k,k<w.heap.size→w1.heap[k]? = w.heap[k]?)→d.K w x cs→d.K w1 x cs
section
variable {α:Type} {d:Kd α} {e base g n c:Nat} {ok:Nat→Prop} {w w0 W:World} {A:Option Addr} {xs:List α}
end
end Kd
end Go.Proofs.YteaocbonofboeaaGreatW.PrintWords
end
section
namespace Go.Proofs.YteaocbonofboeaaGreatW.PrintWords
open Go.RowKit
section
variable {P:Program}
end
namespace Kd
section
variable {P:Program} {ops:Array Oper} {rest:List Oper} {o:Oper} {a:Act} {Q:Exit→Act→World→Prop} {Kc:Act→World→Prop} {α:Type}
end
section
variable {α:Type} {d:Kd α} {e:Nat} {w:World} {base:Nat} {ok:Nat→Prop} {v:Value} {xs:List α}
end
section
variable {P:Program} {ops:Array Oper} {rest:List Oper} {o:Oper} {a:Act} {Q:Exit→Act→World→Prop} {Kc:Act→World→Prop} {α:Type}
end
end Kd
section
variable {w W W2:World} {S S2 S':Nat→Prop}
end
namespace Kd
section
variable {α:Type} {d:Kd α} {e base n c:Nat} {ok oki S S2:Nat→Prop} {w w0 W W1 W2:World} {v:Value} {A:Option Addr} {xs:List α} {i:Int} {cs:List Value}
end
end Kd
def Foot(P:World→Prop)(W:World)(ok:Nat→Prop):Prop:=∀W':World,(∀k,ok k→k<W.heap.size→W'.heap[k]? = W.heap[k]?)→P W'
theorem Qhr{W W1:World}{k:Nat}(h:W1.heap[k]? = W.heap[k]?)(hlt:k<W.heap.size):k<W1.heap.size:=by
  rw[Array.getElem?_eq_getElem hlt]at h
  exact(Array.getElem?_eq_some_iff.1 h).1
namespace Foot
variable {P Q:World→Prop} {W W1:World} {ok ok':Nat→Prop}
theorem now(h:Foot P W ok):P W:=h W (fun _ _ _=>rfl)
theorem mono(h:Foot P W ok)(hok:∀k,ok k→ok' k):Foot P W ok':=fun W' hW=>h W' (fun k hk hlt=>hW k (hok k hk) hlt)
theorem bound(h:Foot P W ok):Foot P W (fun k=>ok k∧k<W.heap.size):=fun W' hW=>h W' (fun k hk hlt=>hW k ⟨hk,hlt⟩ hlt)
theorem step(h:Foot P W ok)(hm:∀k,ok k→k<W.heap.size→W1.heap[k]? = W.heap[k]?):Foot P W1 ok:=fun W' hW=>h W' (fun k hk hlt=>(hW k hk (Qhr (hm k hk hlt) hlt)).trans (hm k hk hlt))
theorem imp(h:Foot P W ok)(hi:∀W',P W'→Q W'):Foot Q W ok:=fun W' hW=>hi W' (h W' hW)
theorem old(h:Foot P W ok)(hb:Below W.heap.size W W1):Foot P W1 (fun k=>ok k∧k<W.heap.size):=(h.bound).step (fun k _ hlt=>hb.block k hlt)
end Foot
namespace Kd
def F{α:Type}(d:Kd α)(W:World)(ok:Nat→Prop)(A:Option Addr)(n:Nat)(xs:List α):Prop:=Foot (fun W=>d.C W A n xs) W ok
def FK{α:Type}(d:Kd α)(W:World)(ok:Nat→Prop)(x:α)(c:List Value):Prop:=Foot (fun W=>d.K W x c) W ok
section
variable {α β:Type} {d:Kd α} {e base n n' cc g N:Nat} {ok ok' okp S:Nat→Prop} {w w0 w1 W W1:World} {A A':Option Addr} {u v v1:Value} {xs:List α} {xs':List β} {d':Kd β} {x:α} {c:List Value}
theorem F_now(h:F d W ok A n xs):d.C W A n xs:=Foot.now h
theorem Qhs(h:F d W ok A n xs)(hok:∀k,ok k→ok' k):F d W ok' A n xs:=Foot.mono h hok
theorem F_bound(h:F d W ok A n xs):F d W (fun k=>ok k∧k<W.heap.size) A n xs:=Foot.bound h
theorem F_step(h:F d W ok A n xs)(hm:∀k,ok k→k<W.heap.size→W1.heap[k]? = W.heap[k]?):F d W1 ok A n xs:=Foot.step h hm
theorem F_imp(h:F d W ok A n xs)(hi:∀W',d.C W' A n xs→d'.C W' A' n' xs'):F d' W ok A' n' xs':=Foot.imp h hi
theorem F_below(h:F d W ok A n xs)(hb:Below W.heap.size W W1):F d W1 ok A n xs:=F_step h (fun k _ hlt=>hb.block k hlt)
theorem F_drewN(h:F d W ok A n xs)(m:Nat):F d (W.drewN m) ok A n xs:=F_below h (Qcr (Below.refl _ _) m)
theorem Qht(h:F d W ok A n xs)(hbase:∀k,v.ownBlock=some k→W.heap.size≤k)(hb:Below W.heap.size W W1):F d W1 (fun k=>ok k∧some k≠v.ownBlock) A n xs :=
  Qhs (Foot.old h hb) (fun k hk=>⟨hk.1,fun he=>by have:=hbase k he.symm;have:=hk.2;omega⟩)
theorem F_after(h:F d W (fun k=>ok k∧some k≠v.ownBlock) A n xs)(hg:W.grownBy W1 v.ownBlock)(hat:v1.ownBlock=v.ownBlock∨∃b,v1.ownBlock=some b∧W.heap.size≤b):F d W1 (fun k=>ok k∧some k≠v1.ownBlock) A n xs:=by
  refine Qhs (Foot.step (F_bound h) (fun k hk hlt=>hg.block k hlt hk.1.2)) (fun k hk=>⟨hk.1.1,?_⟩)
  rcases hat with hat |⟨b,hb,hle⟩
  · rw[hat];exact hk.1.2
  · rw[hb]
    intro he
    injection he with he
    have:=hk.2
    omega
end
end Kd
end Go.Proofs.YteaocbonofboeaaGreatW.PrintWords
end
section
namespace Go.Proofs.YteaocbonofboeaaGreatW.PrintWords
open Go.RowKit
namespace Kd
section
variable {α:Type} {d:Kd α} {e base n cc g:Nat} {ok ok' okp S:Nat→Prop} {w w1 W W1:World} {A:Option Addr} {u v v1:Value} {xs:List α} {x:α} {c:List Value}
def N{α:Type}(d:Kd α)(e:Nat)(w:World)(base:Nat)(ok:Nat→Prop)(v:Value)(xs:List α):Prop :=
  (∀k,v.ownBlock=some k→ok k)∧∃rows:List (List Value),rows.length=xs.length∧(raw d.sz).R e w base (fun k=>some k=v.ownBlock) v rows∧∀(j:Nat) (x:α) (c:List Value),xs[j]? = some x→rows[j]? = some c→FK d w (fun k=>ok k∧some k≠v.ownBlock) x c
end
section
variable {α:Type} {d:Kd α} {W:World} {g n:Nat} {S ok:Nat→Prop} {A:Option Addr} {ad:Addr} {xs:List α}
end
section
variable {α:Type} {d:Kd α} {e base n cap g:Nat} {ok ok' okp:Nat→Prop} {w w1 W:World} {v v1:Value} {xs ys:List α}
end
section
variable {P:Program} {ops:Array Oper} {rest:List Oper} {o:Oper} {a:Act} {Q:Exit→Act→World→Prop} {Kc:Act→World→Prop} {α:Type}
end
end Kd
end Go.Proofs.YteaocbonofboeaaGreatW.PrintWords
end
section
namespace Go.Proofs.YteaocbonofboeaaGreatW.PrintWords
open Go.RowKit
section
variable {w w' u:World} {m B g:Nat} {o:Obj} {row:Option Nat} {S:Nat→Prop} {a:Addr} {v:Value}
end
namespace Kd
section
variable {α:Type} {d:Kd α} {e base n m:Nat} {ok:Nat→Prop} {w w':World} {v:Value} {A:Option Addr} {xs:List α}
end
end Kd
end Go.Proofs.YteaocbonofboeaaGreatW.PrintWords
end
section
namespace Go.Proofs.YteaocbonofboeaaGreatW.PrintWords
theorem Reps.one{α:Type}{R:α→List Value→Prop}{ps:List α}{cs:List Value}{p:α}{v:Value}(hp:R p [v])(h:Reps R 1 ps cs):Reps R 1 (p :: ps) (v :: cs):=by
  refine⟨by simp[h.1],fun j q hq=>?_⟩
  cases j with
  | zero =>
    simp only[List.getElem?_cons_zero,Option.some.injEq]at hq
    subst hq
    simpa using hp
  | succ j =>
    simp only[List.getElem?_cons_succ]at hq
    have h1:=h.2 j q hq
    simpa [Nat.mul_one]using h1
theorem Reps.front{α:Type}{R:α→List Value→Prop}{size:Nat}{ps:List α}{cs c all:List Value}{p:α}(hp:R p c)(hc:c.length=size)(h:Reps R size ps cs)(ha:c++cs=all):Reps R size (p :: ps) all:=by
  subst ha
  refine⟨by rw[List.length_append,hc,h.1,List.length_cons,Nat.succ_mul,Nat.add_comm],fun j q hq=>?_⟩
  cases j with
  | zero =>
    simp only[List.getElem?_cons_zero,Option.some.injEq]at hq
    subst hq
    rw[Nat.zero_mul,List.drop_zero,List.take_append_of_le_length (by omega),List.take_of_length_le (by omega)]
    exact hp
  | succ j =>
    simp only[List.getElem?_cons_succ]at hq
    have h1:=h.2 j q hq
    rw[Nat.succ_mul,List.drop_append,List.drop_of_length_le (by rw[hc];exact Nat.le_add_left _ _),List.nil_append,hc,Nat.add_sub_cancel]
    exact h1
theorem Reps.c2{α:Type}{R:α→List Value→Prop}{ps:List α}{cs:List Value}{p:α}{va vb:Value}(hp:R p [va,vb])(h:Reps R 2 ps cs):Reps R 2 (p :: ps) (va :: vb :: cs):=Reps.front hp rfl h rfl
end Go.Proofs.YteaocbonofboeaaGreatW.PrintWords
end
section
namespace Go.Proofs.YteaocbonofboeaaGreatW.PrintWords
open Go.RowKit
end Go.Proofs.YteaocbonofboeaaGreatW.PrintWords
namespace Go.Proofs.YteaocbonofboeaaGreatW.PrintLast
section
variable {ops:Array Oper} {a:Act} {o og:Oper} {g:Nat} {t:Tmp} {u:Bool}
end
end Go.Proofs.YteaocbonofboeaaGreatW.PrintLast
end
section
namespace Go.Proofs.YteaocbonofboeaaGreatW.PrintMore
open Go.RowKit Go.Proofs.YteaocbonofboeaaGreatW.PrintWords
namespace Kd
open Go.Proofs.YteaocbonofboeaaGreatW.PrintWords.Kd
end Kd
namespace Kd
open Go.Proofs.YteaocbonofboeaaGreatW.PrintWords.Kd
section
variable {α:Type} {d:Kd α} {e base g N:Nat} {ok:Nat→Prop} {W w1:World} {u v:Value} {xs:List α}
end
end Kd
theorem Qhx(k k':IntKind)(x y:Int):Builtin.max2 (.int k x) (.int k' y)=pure (.int k (if x<y then y else x)):=by simp only[Builtin.max2,gt_iff_lt]
theorem Qhy(k k':IntKind)(x y:Int):Builtin.min2 (.int k x) (.int k' y)=pure (.int k (if y<x then y else x)):=by simp only[Builtin.min2]
theorem Qhz(ats:Array TypeId)(ty:TypeId)(a b:Value):Builtin.max_ ats ty #[a,b]=(Builtin.max2 a b >>= fun s=>pure s):=by simp only[Builtin.max_,List.foldlM_cons,List.foldlM_nil]
theorem Qia(ats:Array TypeId)(ty:TypeId)(a b:Value):Builtin.min_ ats ty #[a,b]=(Builtin.min2 a b >>= fun s=>pure s):=by simp only[Builtin.min_,List.foldlM_cons,List.foldlM_nil]
theorem Qib(ats:Array TypeId)(ty:TypeId)(a b c:Value):Builtin.max_ ats ty #[a,b,c]=(Builtin.max2 a b >>= fun s=>Builtin.max2 s c >>= fun s=>pure s):=by simp only[Builtin.max_,List.foldlM_cons,List.foldlM_nil]
theorem Qic(ats:Array TypeId)(ty:TypeId)(a b c:Value):Builtin.min_ ats ty #[a,b,c]=(Builtin.min2 a b >>= fun s=>Builtin.min2 s c >>= fun s=>pure s):=by simp only[Builtin.min_,List.foldlM_cons,List.foldlM_nil]
theorem Qid(ats:Array TypeId)(ty:TypeId)(a b c d:Value):Builtin.max_ ats ty #[a,b,c,d]=(Builtin.max2 a b >>= fun s=>Builtin.max2 s c >>= fun s=>Builtin.max2 s d >>= fun s=>pure s):=by simp only[Builtin.max_,List.foldlM_cons,List.foldlM_nil]
theorem Qie(ats:Array TypeId)(ty:TypeId)(a b c d:Value):Builtin.min_ ats ty #[a,b,c,d]=(Builtin.min2 a b >>= fun s=>Builtin.min2 s c >>= fun s=>Builtin.min2 s d >>= fun s=>pure s):=by simp only[Builtin.min_,List.foldlM_cons,List.foldlM_nil]
end Go.Proofs.YteaocbonofboeaaGreatW.PrintMore
namespace Go.Proofs.YteaocbonofboeaaGreatW.PrintWords
open Go.RowKit
section
variable {P:Program} {ops:Array Oper} {rest:List Oper} {o:Oper} {a:Act} {Q:Exit→Act→World→Prop} {W:World}
theorem Qif{f:FuncId}{as_:Array Operand}{ts:Array TypeId}(_ho:o.op=.call { callee:=.value (.func f),args:=as_,argTypes:=ts })(h:wpList P ops Q (o :: rest) a W):wpList P ops Q (o :: rest) a W:=h
theorem Qig{b:Builtin}{xs:Array Operand}{ts:Array TypeId}(_ho:o.op=.call { callee:=.builtin b,args:=xs,argTypes:=ts })(h:wpList P ops Q (o :: rest) a W):wpList P ops Q (o :: rest) a W:=h
end
def mx(a b:Int):Int:=if a<b then b else a
def mn(a b:Int):Int:=if b<a then b else a
def shl(k:IntKind)(x y:Int):Int:=k.wrap (x*2^min y.toNat k.bits)
def shr(k:IntKind)(x y:Int):Int:=x/2^min y.toNat k.bits
theorem Qih{k:IntKind}{x y j:Int}(h:shl k x y=j)(hy:y≤k.bits):k.wrap (x*2^y.toNat)=j:=by rw[← h];unfold shl;rw[Nat.min_eq_left (by omega)]
theorem Qii{k:IntKind}{x y j:Int}(h:shr k x y=j)(hy:y≤k.bits):x/2^y.toNat=j:=by rw[← h];unfold shr;rw[Nat.min_eq_left (by omega)]
namespace Kd
section
variable {α:Type} {d:Kd α} {e base:Nat} {ok:Nat→Prop} {W w1:World} {v:Value} {xs:List α}
end
section
variable {α:Type} {d:Kd α} {e base g n cap:Nat} {ok oki okp:Nat→Prop} {W:World} {xs:List α} {i:Int} {c:List Value}
end
section
variable {α:Type} {d:Kd α} {e base b b' g N:Nat} {ok ok1:Nat→Prop} {W W2 w1:World} {u v:Value} {xs ys:List α} {S:Nat→Prop}
end
end Kd
end Go.Proofs.YteaocbonofboeaaGreatW.PrintWords
namespace Go.Proofs.YteaocbonofboeaaGreatW.PrintWords
open Go.RowKit
namespace Kd
def V{α:Type}(d:Kd α)(_e:Nat)(W:World)(_base:Nat)(ok:Nat→Prop)(v:Value)(xs:List α):Prop:=∃A c,v=.slice A xs.length c∧xs.length≤c∧F d W ok A xs.length xs
section
variable {α β:Type} {d:Kd α} {e base base' n m c g N' lo hi:Nat} {ok ok' S:Nat→Prop} {w W w1:World} {A:Option Addr} {ad:Addr} {u v v1:Value} {xs:List α}
theorem Qij(h:V d e W base ok v xs)(hF:∀A,F d W ok A xs.length xs→F d w1 ok' A xs.length xs):V d e w1 base' ok' v xs:=by
  obtain⟨A,c,hv,hl,hf⟩:=h
  exact⟨A,c,hv,hl,hF A hf⟩
theorem V_mk(hl:xs.length≤c)(hf:F d W ok A xs.length xs):V d e W base ok (.slice A xs.length c) xs:=⟨A,c,rfl,hl,hf⟩
theorem V_slice(h:V d e W base ok v xs):∃A c,v=.slice A xs.length c:=by
  obtain⟨A,c,hv,_⟩:=h
  exact⟨A,c,hv⟩
theorem V_at(h:V d e W base ok (.slice A n c) xs):n=xs.length∧n≤c∧F d W ok A xs.length xs:=by
  obtain⟨A',c',hv,hl,hf⟩:=h
  injection hv with ha hn hc
  subst ha;subst hc
  exact⟨hn,by rw[hn];exact hl,hf⟩
theorem V_reads'(h:V d e W base ok (.slice A n c) xs):n=xs.length∧n≤c∧d.C W A xs.length xs:=⟨(V_at h).1,(V_at h).2.1,F_now (V_at h).2.2⟩
theorem V_mono(h:V d e W base ok v xs)(hok:∀k,ok k→ok' k):V d e W base ok' v xs:=Qij h (fun _ hf=>Qhs hf hok)
theorem V_drewN(h:V d e W base ok v xs)(m:Nat):V d e (W.drewN m) base ok v xs:=Qij h (fun _ hf=>F_drewN hf m)
theorem V_after(h:V d e W base (fun k=>ok k∧some k≠u.ownBlock) v xs)(hg:W.grownBy w1 u.ownBlock)(hat:v1.ownBlock=u.ownBlock∨∃b,v1.ownBlock=some b∧W.heap.size≤b):V d e w1 base (fun k=>ok k∧some k≠v1.ownBlock) v xs:=Qij h (fun _ hf=>F_after hf hg hat)
theorem V_afterv(h:V d e W base (fun k=>ok k∧some k≠v.ownBlock) u xs)(hg:W.grownBy w1 v.ownBlock)(hat:v1.ownBlock=v.ownBlock∨∃b,v1.ownBlock=some b∧W.heap.size≤b):V d e w1 base (fun k=>ok k∧some k≠v1.ownBlock) u xs:=V_after h hg hat
theorem V_elder'(h:V d e W base ok v xs)(hbase:∀k,u.ownBlock=some k→W.heap.size≤k)(hb:Below W.heap.size W w1):V d e w1 base (fun k=>ok k∧some k≠u.ownBlock) v xs:=Qij h (fun _ hf=>Qht hf hbase hb)
theorem F_cut(h:F d W ok A xs.length xs)(hm:m≤xs.length)(hc:xs.length≤c):F d W ok (if c=m then A else A.map (·.add (m*d.sz))) (xs.drop m).length (xs.drop m):=F_imp h (fun _ hC=>C_drop hC hm hc)
theorem F_mid(h:F d W ok A xs.length xs)(h1:lo≤hi)(h2:hi≤xs.length)(hc:xs.length≤c):F d W ok (if c=lo then A else A.map (·.add (lo*d.sz))) ((xs.take hi).drop lo).length ((xs.take hi).drop lo):=F_imp h (fun _ hC=>C_mid hC h1 h2 hc)
theorem R_newM{M:Nat→Prop}(h:d.R e w1 W.heap.size ok v xs)(hle:w.heap.size≤W.heap.size)(hM:∀k,w.heap.size≤k→M k):d.R e w1 W.heap.size (fun k=>M k∧ok k) v xs:=R_mono (R_bound h) (fun k hk=>⟨hM k (Nat.le_trans hle hk.2.1),hk.1⟩)
end
end Kd
end Go.Proofs.YteaocbonofboeaaGreatW.PrintWords
end
section
namespace Go.Proofs.YteaocbonofboeaaGreat.C
open Go.RowKit Go.Proofs.YteaocbonofboeaaGreatW.PrintWords Go.Proofs.YteaocbonofboeaaGreatW.PrintLast Go.Proofs.YteaocbonofboeaaGreatW.PrintMore
attribute [local go_sem] Qhx Qhy Qhz Qia Qib Qic Qid Qie
def errW:Option Int→Value
 | none=>.nilIface
 | some c=>.iface 0 (.int .i64 c)
theorem Qik:errW none=.nilIface:=rfl
theorem Qil(c:Int):errW (some c)=.iface 0 (.int .i64 c):=rfl
theorem info3:(Tryz.prog.info? 3).map (fun i=>(i.zero,i.size,i.bytes))=some (some (.int .i64 0),1,8):=by kernel_rfl
theorem Qim:(Tryz.prog.info? 5).map (fun i=>(i.zero,i.size,i.bytes))=some (some (.int .u8 0),1,1):=by kernel_rfl
theorem Qin:(Tryz.prog.info? 26).map (fun i=>(i.zero,i.size,i.bytes))=some (some (.int .u32 0),1,4):=by kernel_rfl
theorem info35:(Tryz.prog.info? 35).map (fun i=>(i.zero,i.size,i.bytes))=some (some (.int .u64 0),1,8):=by kernel_rfl
theorem info160:(Tryz.prog.info? 160).map (fun i=>(i.zero,i.size,i.bytes))=some (some (.agg #[(.int .u64 0),(.int .u8 0)]),2,16):=by kernel_rfl
structure S37 where
  f0:Bool
  f1:Int
  f2:ByteArray
  f3:ByteArray
def z37:S37:=⟨false,(0:Int),(⟨#[]⟩:ByteArray),(⟨#[]⟩:ByteArray)⟩
def k37:Kd S37:=Kd.iso (Kd.pair Kd.bool (Kd.pair (Kd.int .u64) (Kd.pair Kd.string Kd.string))) (fun x:S37=>(x.f0,x.f1,x.f2,x.f3))
theorem Qio{w:World}{x:S37}{cs:List Value}(h:k37.K w x cs):cs=[.bool x.f0,.int .u64 x.f1,.string x.f2,.string x.f3]:=by
 obtain⟨_,_,rfl,rfl,⟨_,_,rfl,rfl,⟨_,_,rfl,rfl,rfl⟩⟩⟩:=h
 exact rfl
theorem Qip(w:World)(base:Nat)(ok:Nat→Prop)(x:S37)  : k37.M w base ok x [.bool x.f0,.int .u64 x.f1,.string x.f2,.string x.f3]:=⟨[.bool x.f0],[.int .u64 x.f1,.string x.f2,.string x.f3],rfl,rfl,⟨[.int .u64 x.f1],[.string x.f2,.string x.f3],rfl,rfl,⟨[.string x.f2],[.string x.f3],rfl,rfl,rfl⟩⟩⟩
def Qiq(xs:List S37)(i:Int):S37:=xs.getD i.toNat z37
theorem Qir{w:World}{A:Option Addr}{n:Nat}{xs:List S37}(h:Kd.C k37 w A n xs)(i:Int)(h0:0≤i)(h1:i<n):∃ad , A=some ad∧w.cell? (ad.add (i.toNat*4))=some (.bool (Qiq xs i).f0)∧w.cell? ⟨(ad.add (i.toNat*4)).block,(ad.add (i.toNat*4)).off+1,none⟩=some (.int .u64 (Qiq xs i).f1)∧w.cell? ⟨(ad.add (i.toNat*4)).block,(ad.add (i.toNat*4)).off+2,none⟩=some (.string (Qiq xs i).f2)∧w.cell? ⟨(ad.add (i.toNat*4)).block,(ad.add (i.toNat*4)).off+3,none⟩=some (.string (Qiq xs i).f3):=by
 obtain⟨ad,c,e,_,hK,hc0⟩:=Kd.C_get h z37 i h0 h1
 have hc:∀j u,c[j]? = some u→w.cell? (ad.add (i.toNat*4+j))=some u:=hc0
 obtain rfl:=Qio hK
 exact⟨ad,e,hc 0 _ rfl,by rw[← Qdj _ _ 1 (by omega)];exact hc 1 _ rfl,by rw[← Qdj _ _ 2 (by omega)];exact hc 2 _ rfl,by rw[← Qdj _ _ 3 (by omega)];exact hc 3 _ rfl⟩
structure S28 where
  f0:Int
  f1:Int
structure S74 where
  f0:S37
  f1:Int
  f2:Int
  f3:Int
def z74:S74:=⟨z37,(0:Int),(0:Int),(0:Int)⟩
def k74:Kd S74:=Kd.iso (Kd.pair k37 (Kd.pair (Kd.int .u64) (Kd.pair (Kd.int .i64) (Kd.int .i64)))) (fun x:S74=>(x.f0,x.f1,x.f2,x.f3))
theorem Qis{w:World}{x:S74}{cs:List Value}(h:k74.K w x cs):cs=[.bool x.f0.f0,.int .u64 x.f0.f1,.string x.f0.f2,.string x.f0.f3,.int .u64 x.f1,.int .i64 x.f2,.int .i64 x.f3]:=by
 obtain⟨_,_,rfl,s0,⟨_,_,rfl,rfl,⟨_,_,rfl,rfl,rfl⟩⟩⟩:=h
 obtain rfl:=Qio s0
 exact rfl
theorem k74_mkM(w:World)(base:Nat)(ok:Nat→Prop)(x:S74)  : k74.M w base ok x [.bool x.f0.f0,.int .u64 x.f0.f1,.string x.f0.f2,.string x.f0.f3,.int .u64 x.f1,.int .i64 x.f2,.int .i64 x.f3]:=⟨[.bool x.f0.f0,.int .u64 x.f0.f1,.string x.f0.f2,.string x.f0.f3],[.int .u64 x.f1,.int .i64 x.f2,.int .i64 x.f3],rfl,(Qip w base ok x.f0 ),⟨[.int .u64 x.f1],[.int .i64 x.f2,.int .i64 x.f3],rfl,rfl,⟨[.int .i64 x.f2],[.int .i64 x.f3],rfl,rfl,rfl⟩⟩⟩
def Qit(xs:List S74)(i:Int):S74:=xs.getD i.toNat z74
theorem Qiu{w:World}{A:Option Addr}{n:Nat}{xs:List S74}(h:Kd.C k74 w A n xs)(i:Int)(h0:0≤i)(h1:i<n):∃ad , A=some ad∧w.cell? (ad.add (i.toNat*7))=some (.bool (Qit xs i).f0.f0)∧w.cell? ⟨(ad.add (i.toNat*7)).block,(ad.add (i.toNat*7)).off+1,none⟩=some (.int .u64 (Qit xs i).f0.f1)∧w.cell? ⟨(ad.add (i.toNat*7)).block,(ad.add (i.toNat*7)).off+2,none⟩=some (.string (Qit xs i).f0.f2)∧w.cell? ⟨(ad.add (i.toNat*7)).block,(ad.add (i.toNat*7)).off+3,none⟩=some (.string (Qit xs i).f0.f3)∧w.cell? ⟨(ad.add (i.toNat*7)).block,(ad.add (i.toNat*7)).off+4,none⟩=some (.int .u64 (Qit xs i).f1)∧w.cell? ⟨(ad.add (i.toNat*7)).block,(ad.add (i.toNat*7)).off+5,none⟩=some (.int .i64 (Qit xs i).f2)∧w.cell? ⟨(ad.add (i.toNat*7)).block,(ad.add (i.toNat*7)).off+6,none⟩=some (.int .i64 (Qit xs i).f3):=by
 obtain⟨ad,c,e,_,hK,hc0⟩:=Kd.C_get h z74 i h0 h1
 have hc:∀j u,c[j]? = some u→w.cell? (ad.add (i.toNat*7+j))=some u:=hc0
 obtain rfl:=Qis hK
 exact⟨ad,e,hc 0 _ rfl,by rw[← Qdj _ _ 1 (by omega)];exact hc 1 _ rfl,by rw[← Qdj _ _ 2 (by omega)];exact hc 2 _ rfl,by rw[← Qdj _ _ 3 (by omega)];exact hc 3 _ rfl,by rw[← Qdj _ _ 4 (by omega)];exact hc 4 _ rfl,by rw[← Qdj _ _ 5 (by omega)];exact hc 5 _ rfl,by rw[← Qdj _ _ 6 (by omega)];exact hc 6 _ rfl⟩
structure S129 where
  f0:Int
  f1:Int
def z129:S129:=⟨(0:Int),(0:Int)⟩
def k129:Kd S129:=Kd.iso (Kd.pair (Kd.int .u64) (Kd.int .u32)) (fun x:S129=>(x.f0,x.f1))
theorem Qiv{w:World}{x:S129}{cs:List Value}(h:k129.K w x cs):cs=[.int .u64 x.f0,.int .u32 x.f1]:=by
 obtain⟨_,_,rfl,rfl,rfl⟩:=h
 exact rfl
theorem Qiw{w:World}{base:Nat}{ok:Nat→Prop}{x:S129}{cs:List Value}(h:k129.M w base ok x cs):cs=[.int .u64 x.f0,.int .u32 x.f1]:=by
 obtain⟨_,_,rfl,rfl,rfl⟩:=h
 exact rfl
theorem Qix(w:World)(base:Nat)(ok:Nat→Prop)(x:S129)  : k129.M w base ok x [.int .u64 x.f0,.int .u32 x.f1]:=⟨[.int .u64 x.f0],[.int .u32 x.f1],rfl,rfl,rfl⟩
def Qiy(xs:List S129)(i:Int):S129:=xs.getD i.toNat z129
theorem Qiz{w:World}{A:Option Addr}{n:Nat}{xs:List S129}(h:Kd.C k129 w A n xs)(i:Int)(h0:0≤i)(h1:i<n):∃ad , A=some ad∧w.cell? (ad.add (i.toNat*2))=some (.int .u64 (Qiy xs i).f0)∧w.cell? ⟨(ad.add (i.toNat*2)).block,(ad.add (i.toNat*2)).off+1,none⟩=some (.int .u32 (Qiy xs i).f1):=by
 obtain⟨ad,c,e,_,hK,hc0⟩:=Kd.C_get h z129 i h0 h1
 have hc:∀j u,c[j]? = some u→w.cell? (ad.add (i.toNat*2+j))=some u:=hc0
 obtain rfl:=Qiv hK
 exact⟨ad,e,hc 0 _ rfl,by rw[← Qdj _ _ 1 (by omega)];exact hc 1 _ rfl⟩
structure S76 where
  f0:Int
  f1:Int
def z76:S76:=⟨(0:Int),(0:Int)⟩
structure S158 where
  f0:Int
  f1:Int
def z158:S158:=⟨(0:Int),(0:Int)⟩
def k158:Kd S158:=Kd.iso (Kd.pair (Kd.int .u64) (Kd.int .u8)) (fun x:S158=>(x.f0,x.f1))
theorem Qja{w:World}{x:S158}{cs:List Value}(h:k158.K w x cs):cs=[.int .u64 x.f0,.int .u8 x.f1]:=by
 obtain⟨_,_,rfl,rfl,rfl⟩:=h
 exact rfl
theorem Qjb(w:World)(base:Nat)(ok:Nat→Prop)(x:S158)  : k158.M w base ok x [.int .u64 x.f0,.int .u8 x.f1]:=⟨[.int .u64 x.f0],[.int .u8 x.f1],rfl,rfl,rfl⟩
def Qjc(xs:List S158)(i:Int):S158:=xs.getD i.toNat z158
theorem Qjd{w:World}{A:Option Addr}{n:Nat}{xs:List S158}(h:Kd.C k158 w A n xs)(i:Int)(h0:0≤i)(h1:i<n):∃ad , A=some ad∧w.cell? (ad.add (i.toNat*2))=some (.int .u64 (Qjc xs i).f0)∧w.cell? ⟨(ad.add (i.toNat*2)).block,(ad.add (i.toNat*2)).off+1,none⟩=some (.int .u8 (Qjc xs i).f1):=by
 obtain⟨ad,c,e,_,hK,hc0⟩:=Kd.C_get h z158 i h0 h1
 have hc:∀j u,c[j]? = some u→w.cell? (ad.add (i.toNat*2+j))=some u:=hc0
 obtain rfl:=Qja hK
 exact⟨ad,e,hc 0 _ rfl,by rw[← Qdj _ _ 1 (by omega)];exact hc 1 _ rfl⟩
structure S81 where
  f0:(List S158)
  f1:Int
def k81:Kd S81:=Kd.iso (Kd.pair (Kd.slice 158 k158) (Kd.int .i64)) (fun x:S81=>(x.f0,x.f1))
theorem Qje{w:World}{x:S81}{cs:List Value}(h:k81.K w x cs):∃A0 c0,cs=[.slice A0 x.f0.length c0,.int .i64 x.f1]∧x.f0.length≤c0∧k158.C w A0 x.f0.length x.f0:=by
 obtain⟨_,_,rfl,⟨A0,c0,rfl,l0,g0⟩,rfl⟩:=h
 exact⟨A0,c0,rfl,l0,g0⟩
structure S160 where
  f0:Int
  f1:Int
def z160:S160:=⟨(0:Int),(0:Int)⟩
def k160:Kd S160:=Kd.iso (Kd.pair (Kd.int .u64) (Kd.int .u8)) (fun x:S160=>(x.f0,x.f1))
theorem Qjf{w:World}{x:S160}{cs:List Value}(h:k160.K w x cs):cs=[.int .u64 x.f0,.int .u8 x.f1]:=by
 obtain⟨_,_,rfl,rfl,rfl⟩:=h
 exact rfl
theorem Qjg(w:World)(base:Nat)(ok:Nat→Prop)(x:S160)  : k160.M w base ok x [.int .u64 x.f0,.int .u8 x.f1]:=⟨[.int .u64 x.f0],[.int .u8 x.f1],rfl,rfl,rfl⟩
def Qjh(xs:List S160)(i:Int):S160:=xs.getD i.toNat z160
theorem Qji{w:World}{A:Option Addr}{n:Nat}{xs:List S160}(h:Kd.C k160 w A n xs)(i:Int)(h0:0≤i)(h1:i<n):∃ad , A=some ad∧w.cell? (ad.add (i.toNat*2))=some (.int .u64 (Qjh xs i).f0)∧w.cell? ⟨(ad.add (i.toNat*2)).block,(ad.add (i.toNat*2)).off+1,none⟩=some (.int .u8 (Qjh xs i).f1):=by
 obtain⟨ad,c,e,_,hK,hc0⟩:=Kd.C_get h z160 i h0 h1
 have hc:∀j u,c[j]? = some u→w.cell? (ad.add (i.toNat*2+j))=some u:=hc0
 obtain rfl:=Qjf hK
 exact⟨ad,e,hc 0 _ rfl,by rw[← Qdj _ _ 1 (by omega)];exact hc 1 _ rfl⟩
structure S147 where
  f0:Int
  f1:Int
  f2:Int
structure S61 where
  f0:Int
  f1:Int
  f2:Int
structure S152 where
  f0:S37
  f1:Int
  f2:Int
  f3:Int
structure S45 where
  f0:(List S37)
  f1:(List Int)
  f2:Int
  f3:Bool
def z45:S45:=⟨([]:List S37),([]:List Int),(0:Int),false⟩
structure S224 where
  f0:Int
  f1:Int
structure S111 where
  f0:Int
  f1:Int
theorem qq_x{W:World}{g:Nat}{t:TypeId}{cs cs':Array Value}(h:W.heap[g]? = some (.cells cs' t (0,0)):=by((with_reducible repeat(first|apply Qec|apply Qeb|apply Qea|apply Qdl));exact Aside0.out (by assumption)))(e:cs'=cs:=by rfl):W.heap[g]? = some (.cells cs t (0,0)):=e ▸ h
theorem qc2{W:World}{g:Nat}{t:TypeId}{v0 v1:Value}(h:W.heap[g]? = some (.cells #[v0,v1] t (0,0))):W.cell? ⟨g,0,none⟩=some v0∧W.cell? ⟨g,1,none⟩=some v1:=⟨(Qdo h 0).trans rfl,(Qdo h 1).trans rfl⟩
theorem qc4{W:World}{g:Nat}{t:TypeId}{v0 v1 v2 v3:Value}(h:W.heap[g]? = some (.cells #[v0,v1,v2,v3] t (0,0))):W.cell? ⟨g,0,none⟩=some v0∧W.cell? ⟨g,1,none⟩=some v1∧W.cell? ⟨g,2,none⟩=some v2∧W.cell? ⟨g,3,none⟩=some v3:=⟨(Qdo h 0).trans rfl,(Qdo h 1).trans rfl,(Qdo h 2).trans rfl,(Qdo h 3).trans rfl⟩
theorem qc5{W:World}{g:Nat}{t:TypeId}{v0 v1 v2 v3 v4:Value}(h:W.heap[g]? = some (.cells #[v0,v1,v2,v3,v4] t (0,0))):W.cell? ⟨g,0,none⟩=some v0∧W.cell? ⟨g,1,none⟩=some v1∧W.cell? ⟨g,2,none⟩=some v2∧W.cell? ⟨g,3,none⟩=some v3∧W.cell? ⟨g,4,none⟩=some v4:=⟨(Qdo h 0).trans rfl,(Qdo h 1).trans rfl,(Qdo h 2).trans rfl,(Qdo h 3).trans rfl,(Qdo h 4).trans rfl⟩
theorem qq_b{b:Nat}{w w':World}(h:Below b w w':=by repeat(first |(with_reducible first|exact HB.out|apply Qcp|apply Qcr|apply Qfj|refine Qff ?_ (Aside0.out (by assumption)))|exact HB.out)):Below b w w':=h
theorem qq_h{w w':World}(hb:Below w.heap.size w w'){p:Addr}{v:Value}(h:w.cell? p=some v):w'.cell? p=some v:=(hb.cell (World.block_lt_of_cell? w _ h)).trans h
theorem qq_s{w W:World}{g:Nat}(hg:g=W.heap.size)(h:Below w.heap.size w W:=by exact qq_b):w.heap.size≤g:=hg ▸ Qfc h
theorem qq_e{P:Program}{ops:Array Oper}{o:Oper}{rest:List Oper}{a:Act}{Q:Exit→Act→World→Prop}{W:World}(N:Tmp)(cs:Array Value)(t:TypeId)(h:∀g,g=W.heap.size→∀w1,w1.heap[g]? = some (.cells cs t (0,0))→Below W.heap.size W w1→wpList P ops Q rest (a.put o.dst (.pointer (some ⟨g,0,none⟩))) w1)(hgd:o.guard=none:=by rfl)(hd:o.dst=some N:=by rfl)(hrun:(execOp a.eval o).run P W=.ok (.value (.pointer (some ⟨W.heap.size,0,none⟩))) (W.alloc (.cells cs t (0,0))):=by first |(go_simp;done) |(go_simp;rfl)):wpList P ops Q (o :: rest) a W:=Qfl hgd hd hrun h
theorem qq_0{p:Prop}(h:p:=by(try simp only[List.map_toArray,List.map_cons,List.map_nil]);first|done|rfl |(simp only[List.length_drop,List.length_take];rfl)):p:=h
theorem qq_1{p:Prop}(h:p:=by(with_reducible repeat(first|apply Qec|apply Qeb|apply Qea));exact Aside0.out (by assumption)):p:=h
theorem qq_2{p:Prop}(h:p:=by kernel_rfl):p:=h
theorem qq_3{p:Prop}(h:p:=by simp only[Act.put,List.setIfInBounds_toArray,List.set_cons_zero,List.set_cons_succ,Qgk,Qgl];rfl):p:=h
theorem qq_4{p:Prop}(h:p:=by first|rfl |(simp;done) |(simp[*];done)):p:=h
theorem qq_5{p:Prop}(h:p:=by first|rfl |(simp[Qik,Qil]<;>rfl) |(simp[*,Qik,Qil]<;>rfl)):p:=h
theorem qq_6{p:Prop}(h:p:=by first |(with_reducible assumption)|assumption):p:=h
theorem qq_7{p:Prop}(h:p:=by(with_reducible repeat(first|apply Kd.R_alloc|apply Kd.R_drewN|apply Kd.R_drew));exact Aside0.out (by assumption)):p:=h
theorem qq_8{p:Prop}(h:p:=by(repeat(first |(with_reducible first|apply Qec|apply Qeb|apply Qea)|refine Qdm ?_ (Aside0.out (by assumption)) _));exact Aside0.out (by assumption)):p:=h
theorem qq_9{p:Prop}(h:p:=by(with_reducible repeat(first|apply Kd.R_alloc|apply Kd.R_drewN|apply Kd.R_drew));exact HO371.out):p:=h
theorem qq_10{p:Prop}(h:p:=by first |(go_simp;done) |(go_simp;rfl)):p:=h
theorem qq_11{p:Prop}(h:p:=by(with_reducible repeat(first|apply Kd.R_alloc|apply Kd.R_drewN|apply Kd.R_drew));exact HO_4.out):p:=h
theorem qq_12{p:Prop}(h:p:=by(with_reducible repeat(first|apply Kd.R_alloc|apply Kd.R_drewN|apply Kd.R_drew));exact HO545.out):p:=h
theorem qq_13{p:Prop}(h:p:=by(with_reducible repeat(first|apply Kd.V_alloc|apply Kd.V_drewN|apply Kd.V_drew));exact HO_5.out):p:=h
theorem qq_14{p:Prop}(h:p:=by(with_reducible repeat(first|apply Kd.V_alloc|apply Kd.V_drewN|apply Kd.V_drew));exact HO_0.out):p:=h
theorem qq_15{p:Prop}(h:p:=by(try simp only[List.map_toArray,List.map_cons,List.map_nil]);first|done |(simp only[hji2];rfl)|rfl |(simp only[List.length_drop,List.length_take];rfl)):p:=h
theorem qq_16{p:Prop}(h:p:=by have:=HN.out;omega):p:=h
theorem qq_17{p:Prop}(h:p:=by(with_reducible repeat(first|apply Kd.V_alloc|apply Kd.V_drewN|apply Kd.V_drew));exact HO111.out):p:=h
theorem qq_18{p:Prop}(h:p:=by(with_reducible repeat(first|apply Kd.R_alloc|apply Kd.R_drewN|apply Kd.R_drew));exact HO548.out):p:=h
theorem qq_19{p:Prop}(h:p:=by(with_reducible repeat(first|apply Kd.R_alloc|apply Kd.R_drewN|apply Kd.R_drew));exact HO374.out):p:=h
theorem qq_20{p:Prop}(h:p:=by(with_reducible repeat(first|apply Kd.R_alloc|apply Kd.R_drewN|apply Kd.R_drew));exact HO_5.out):p:=h
theorem qq_21{p:Prop}(h:p:=by simp;omega):p:=h
def Qar.f(l0_0:List (S158))(a0_1:Int)(a1:Int):Option (Int):=if a0_1<0 then(some a1)else(some (mn a1 a0_1))
theorem Qar.calls(g:Option Addr)(j:Nat)(b:List (S158))(a:Int)(a1:Int)(r:Int)(w:World)(hr0_0:Kd.C k158 w g b.length b)(hc0_0:b.length≤j)(h:Qar.f b a a1=some r) :
  Calls Tryz.prog 83 #[.agg #[.slice g b.length j,.int .i64 a],.int .i64 a1] w fun e w'=>e=.returned (.int .i64 r)∧Below w.heap.size w w':=by
 have hu81:=Tryz.underlying81;have u:=QA hr0_0;have v:=QA hc0_0;clear hr0_0 hc0_0;have HB:=QA (Below.refl w.heap.size w);have H:(if a<0 then(some a1)else(some (mn a1 a)))=some r:=h;clear h
 by_cases c3:a<0
 ·rw[if_pos c3]at H;have o:=decide_eq_true c3;clear c3;obtain rfl:=Option.some.inj H
  go_enter Tryz.func83,Tryz.ntmps83
  go_wp2_with (first |((with_reducible refine Qfn (N:=2) rfl ?_);refine qq_e 2 #[.slice g b.length j,.int .i64 a] 81 ?_;intro c hg w4 hbox hb;have n_:=qn4 (Qfd qq_b hb) (hbox) (qq_s hg:w.heap.size≤c) (qq_s hg:w.heap.size≤c);clear HB;obtain⟨HB,d,l,m⟩:=n_;clear hb hbox hg;obtain⟨p,q⟩:=qc2 d.out;have y:=Qdp d.out))
  go_ret
  exact⟨qq_5,qq_b⟩
 ·rw[if_neg c3]at H;have o:=decide_eq_false c3;clear c3;obtain⟨n,k⟩:∃j_:Int,(mn a1 a)=j_:=⟨_,rfl⟩;replace H:(some n)=some r:=by first |(rw[k]at H;exact H) |(simp only[k]at H ⊢;exact H)
  have x:(if a<a1 then a else a1)=n:=k;obtain rfl:=Option.some.inj H
  go_enter Tryz.func83,Tryz.ntmps83
  go_wp2_with (first |((with_reducible refine Qfn (N:=2) rfl ?_);refine qq_e 2 #[.slice g b.length j,.int .i64 a] 81 ?_;intro c hg w7 hbox hb;have n_:=qn4 (Qfd qq_b hb) (hbox) (qq_s hg:w.heap.size≤c) (qq_s hg:w.heap.size≤c);clear HB;obtain⟨HB,d,l,m⟩:=n_;clear hb hbox hg;obtain⟨s,t⟩:=qc2 d.out;have z:=Qdp d.out))
  go_ret
  exact⟨by first|rfl |(simp[Qik,Qil]<;>rfl) |(simp only[← k];first|rfl |(simp[Qik,Qil]<;>rfl)) |(simp[*,Qik,Qil]<;>rfl),qq_b⟩
def Qcg.j0:Nat→Bool→Bool→Int→ByteArray→ByteArray→Option (Int)
 | 0,_,_,_,_,_=>none
 | k+1,x12,x178000,x178001,x178002,x178003=>if x12=true then(some 4)else(if(x178003.size:Int) > 1048576 then(some 3)else(some 0))
def Qcg.f(k:Nat)(a0_0:Bool)(a0_1:Int)(a0_2:ByteArray)(a0_3:ByteArray):Option (Int):=if a0_2.toList=([]:List UInt8)then(some 4)else(if(a0_2.size:Int) > 4096 then(some 3)else(if a0_0=true then(Qcg.j0 k (a0_3.toList != ([]:List UInt8)) a0_0 a0_1 a0_2 a0_3)else(Qcg.j0 k false a0_0 a0_1 a0_2 a0_3)))
theorem Qcg.calls(k:Nat)(g:Bool)(j:Int)(b:ByteArray)(c:ByteArray)(r:Int)(w:World)(h:Qcg.f k g j b c=some r) :
  Calls Tryz.prog 58 #[.agg #[.bool g,.int .u64 j,.string b,.string c]] w fun e w'=>e=.returned (.int .i64 r)∧Below w.heap.size w w':=by
 have hu37:=Tryz.underlying37;have HB:=QA (Below.refl w.heap.size w);have H:(if b.toList=([]:List UInt8)then(some 4)else(if(b.size:Int) > 4096 then(some 3)else(if g=true then(Qcg.j0 k (c.toList != ([]:List UInt8)) g j b c)else(Qcg.j0 k false g j b c))))=some r:=h;clear h
 by_cases c2:b.toList=([]:List UInt8)
 ·rw[if_pos c2]at H;have I:(b.toList == ([]:List UInt8))=true:=beq_iff_eq.mpr c2;have J:(b.toList != ([]:List UInt8))=false:=bne_eq_false_iff_eq.mpr c2;clear c2;obtain rfl:=Option.some.inj H
  go_enter Tryz.func58,Tryz.ntmps58
  go_wp2_with (first |((with_reducible refine Qfn (N:=1) rfl ?_);refine qq_e 1 #[.bool g,.int .u64 j,.string b,.string c] 37 ?_;intro d hg w3 hbox hb;have n_:=qn4 (Qfd qq_b hb) (hbox) (qq_s hg:w.heap.size≤d) (qq_s hg:w.heap.size≤d);clear HB;obtain⟨HB,a,o,p⟩:=n_;clear hb hbox hg;obtain⟨K,L,M,O⟩:=qc4 a.out;have af:=Qdp a.out))
  go_ret
  exact⟨qq_5,qq_b⟩
 ·rw [if_neg c2]at H;have I:(b.toList == ([]:List UInt8))=false:=beq_eq_false_iff_ne.mpr c2;have J:(b.toList != ([]:List UInt8))=true:=bne_iff_ne.mpr c2
  by_cases c5:(b.size:Int) > 4096
  ·rw[if_pos c5]at H;have P:decide (4096<(b.size:Int))=true:=decide_eq_true c5;have T:decide (4096<b.size)=true:=decide_eq_true (by omega);clear c5;obtain rfl:=Option.some.inj H
   go_enter Tryz.func58,Tryz.ntmps58
   go_wp2_with (first |((with_reducible refine Qfn (N:=1) rfl ?_);refine qq_e 1 #[.bool g,.int .u64 j,.string b,.string c] 37 ?_;intro d hg w6 hbox hb;have n_:=qn4 (Qfd qq_b hb) (hbox) (qq_s hg:w.heap.size≤d) (qq_s hg:w.heap.size≤d);clear HB;obtain⟨HB,a,o,p⟩:=n_;clear hb hbox hg;obtain⟨U,W,X,Y⟩:=qc4 a.out;have ag:=Qdp a.out))
   go_ret
   exact⟨qq_5,qq_b⟩
  ·rw [if_neg c5]at H;have P:decide (4096<(b.size:Int))=false:=decide_eq_false c5;have T:decide (4096<b.size)=false:=decide_eq_false (by omega);clear c5;have Z:=QA H;clear H
   go_enter Tryz.func58,Tryz.ntmps58
   go_upto_region 5 with(first |((with_reducible refine Qfn (N:=1) rfl ?_);refine qq_e 1 #[.bool g,.int .u64 j,.string b,.string c] 37 ?_;intro d hg w9 hbox hb;have n_:=qn4 (Qfd qq_b hb) (hbox) (qq_s hg:w.heap.size≤d) (qq_s hg:w.heap.size≤d);clear HB;obtain⟨HB,a,o,p⟩:=n_;clear hb hbox hg;obtain⟨s,t,u,v⟩:=qc4 a.out;have aa:=Qdp a.out))
   (try simp only[Act.put,List.setIfInBounds_toArray,List.set_cons_zero,List.set_cons_succ])
   go_cut [12] (fun ap wc=>∃(kq:Nat) (l:Bool),ap=.bool l∧Aside0 (Qcg.j0 kq l g j b c=some r)∧Aside0 (kq≤k)∧Aside0 (wc.heap[d]? = some (.cells #[.bool g,.int .u64 j,.string b,.string c] 37 (0,0)))∧Aside0 (Below w.heap.size w wc))
   case first =>
    have H:=Z.out;clear Z
    by_cases n:g=true
    ·subst n;rw[if_pos rfl]at H;have H':=QA H;clear H;obtain⟨x,y,z,A⟩:=qc4 a.out;have ab:=Qdp a.out;go_wp2
     go_meet
     case rel=>exact⟨_,((c.toList != ([]:List UInt8))),(by first|rfl |(simp;done) |(simp[*];done) |(cases c.toList<;>rfl)),H',⟨by first|omega|exact Nat.le_refl _⟩,⟨by(with_reducible repeat(first|apply Qec|apply Qeb|apply Qea));exact a.out⟩,⟨qq_b⟩⟩
    ·replace n:=Bool.eq_false_iff.mpr n;subst n;rw[if_neg (show ¬(false=true)by decide)]at H;have H':=QA H;clear H;obtain⟨B,D,E,G⟩:=qc4 a.out;have ac:=Qdp a.out;go_wp2
     go_meet
     case rel=>exact⟨_,(false),(by first|rfl |(simp;done) |(simp[*];done) |(cases c.toList<;>rfl)),H',⟨by first|omega|exact Nat.le_refl _⟩,⟨by(with_reducible repeat(first|apply Qec|apply Qeb|apply Qea));exact a.out⟩,⟨qq_b⟩⟩
   case rest =>
    clear Z
    try clear c2
    try clear I
    try clear J
    try clear c5
    try clear P
    try clear T
    try clear n
    try clear s
    try clear t
    try clear u
    try clear v
    try clear x
    try clear y
    try clear z
    try clear A
    try clear B
    try clear D
    try clear E
    try clear G
    try clear K
    try clear L
    try clear M
    try clear O
    try clear U
    try clear W
    try clear X
    try clear Y
    try clear aa
    try clear ab
    try clear ac
    try clear af
    try clear ag
    obtain⟨kq,l,rfl,HA,HJ7,a,HB⟩:=hcut
    cases kq with
    | zero=>exact absurd HA.out (by simp[Qcg.j0])
    | succ kj7 =>
     have H:=HA.out;clear HA;simp only[Qcg.j0]at H
     by_cases q:l=true
     ·subst q;rw[if_pos rfl]at H;obtain rfl:=Option.some.inj H;go_wp2;go_ret
      exact⟨qq_5,qq_b⟩
     ·replace q:=Bool.eq_false_iff.mpr q;subst q;rw[if_neg (show ¬(false=true)by decide)]at H
      by_cases m:(c.size:Int) > 1048576
      ·rw[if_pos m]at H;have ad:decide (1048576<(c.size:Int))=true:=decide_eq_true m;have ae:decide (1048576<c.size)=true:=decide_eq_true (by omega);clear m;obtain rfl:=Option.some.inj H;obtain⟨ah,ai,aj,ak⟩:=qc4 a.out;have aq:=Qdp a.out;go_wp2;go_ret
       exact⟨qq_5,qq_b⟩
      ·rw[if_neg m]at H;have ad:decide (1048576<(c.size:Int))=false:=decide_eq_false m;have ae:decide (1048576<c.size)=false:=decide_eq_false (by omega);clear m;obtain rfl:=Option.some.inj H;obtain⟨al,am,an,ao⟩:=qc4 a.out;have ar:=Qdp a.out;go_wp2;go_ret
       exact⟨qq_5,qq_b⟩
def Qal.f(a0:Int):Option (Int):=if a0≤0 then(some 1)else(some (wrap64 ((wrap64 (a0+1))+(wrap64 (Int.tdiv (wrap64 (a0-1)) 254)))))
theorem Qal.calls(a0:Int)(r:Int)(w:World)(h:Qal.f a0=some r) :
  Calls Tryz.prog 196 #[.int .i64 a0] w fun e w'=>e=.returned (.int .i64 r)∧Drawn0 w w':=by
 have H:(if a0≤0 then(some 1)else(some (wrap64 ((wrap64 (a0+1))+(wrap64 (Int.tdiv (wrap64 (a0-1)) 254))))))=some r:=h;clear h
 by_cases c2:a0≤0
 ·rw[if_pos c2]at H;have c2b0:=decide_eq_true c2;clear c2;obtain rfl:=Option.some.inj H
  go_enter Tryz.func196,Tryz.ntmps196
  go_wp2;go_ret
  exact⟨by first|rfl |(simp;done) |(simp[*];done),by repeat(first|exact Drawn0.refl _|apply Drawn0.step)⟩
 ·rw[if_neg c2]at H;have c2b0:=decide_eq_false c2;clear c2;obtain rfl:=Option.some.inj H
  go_enter Tryz.func196,Tryz.ntmps196
  go_wp2;go_ret
  exact⟨by first|rfl |(simp;done) |(simp[*];done),by repeat(first|exact Drawn0.refl _|apply Drawn0.step)⟩
end Go.Proofs.YteaocbonofboeaaGreat.C
end
