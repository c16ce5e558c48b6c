/- Merged texts. -/
import Derived.Test.YteaocbonofboeaaGreatME00
import Derived.Test.YteaocbonofboeaaGreatME01
import Derived.Test.YteaocbonofboeaaGreatProg
import Derived.Below
import Derived.Deep.Draws
import Derived.Deep.AppendLies
import Derived.Maps.AppendAt
import Derived.OwnWalk
import Derived.Laws.BytesArg
import Derived.Laws.MakeOwn
import Derived.Laws.OwnMore
import Derived.Deep.OwnRows
import Derived.Tactics
import Derived.Lib.ConvBytes
import Derived.Laws.Slices
import Derived.WalkKit
import Derived.KernelRfl
import Derived.RowKit3
import Derived.Deep.LoopGhost
import Derived.Deep.QuietTactic
import Derived.BigQuiet
import Derived.WideLaws
import Derived.Deep.DeepCutAuto
import Derived.Deep.CutBlock
import Derived.Deep.RegionHeld3
import Derived.Laws.Rows
import Derived.Lib.AppendStr
import Derived.ArgAppend
import Derived.Laws.IdiomCopy
import Derived.OrdersHeld
import Derived.Laws.BitsLemmas
import Derived.RowKit
set_option linter.unusedVariables false
set_option linter.unusedSimpArgs false
set_option maxHeartbeats 8000000
set_option maxRecDepth 100000
section
namespace Go.Proofs.YteaocbonofboeaaGreatW.PrintWords
open Go.RowKit
namespace Kd
section
variable {α:Type} {n:Nat} {d:Kd α} {hs:0<d.sz} {w:World} {base:Nat} {ok:Nat→Prop} {xs:List α} {cs:List Value}
end
section
variable {α:Type} {n:Nat} {enc:α→Value} {h1:∀x,(enc x).oneCell'=true} {hs:0<(scalar enc h1).sz} {w:World} {base:Nat} {ok:Nat→Prop} {xs:List α} {cs:List Value}
end
structure Heap {α:Type} (d:Kd α):Prop where
  K:∀ {w w1:World} {x:α} {cs:List Value},(∀k,k<w.heap.size→w1.heap[k]? = w.heap[k]?)→d.K w x cs→d.K w1 x cs
section
variable {α:Type} {d:Kd α} {e base g n c:Nat} {ok:Nat→Prop} {w w0 W:World} {A:Option Addr} {xs:List α}
end
end Kd
end Go.Proofs.YteaocbonofboeaaGreatW.PrintWords
end
section
namespace Go.Proofs.YteaocbonofboeaaGreatW.PrintWords
open Go.RowKit
section
variable {P:Program}
end
namespace Kd
section
variable {P:Program} {ops:Array Oper} {rest:List Oper} {o:Oper} {a:Act} {Q:Exit→Act→World→Prop} {Kc:Act→World→Prop} {α:Type}
end
section
variable {α:Type} {d:Kd α} {e:Nat} {w:World} {base:Nat} {ok:Nat→Prop} {v:Value} {xs:List α}
end
section
variable {P:Program} {ops:Array Oper} {rest:List Oper} {o:Oper} {a:Act} {Q:Exit→Act→World→Prop} {Kc:Act→World→Prop} {α:Type}
end
end Kd
section
variable {w W W2:World} {S S2 S':Nat→Prop}
end
namespace Kd
section
variable {α:Type} {d:Kd α} {e base n c:Nat} {ok oki S S2:Nat→Prop} {w w0 W W1 W2:World} {v:Value} {A:Option Addr} {xs:List α} {i:Int} {cs:List Value}
end
end Kd
def Foot(P:World→Prop)(W:World)(ok:Nat→Prop):Prop:=∀W':World,(∀k,ok k→k<W.heap.size→W'.heap[k]? = W.heap[k]?)→P W'
theorem Qhx{W W1:World}{k:Nat}(h:W1.heap[k]? = W.heap[k]?)(hlt:k<W.heap.size):k<W1.heap.size:=by
  rw[Array.getElem?_eq_getElem hlt]at h
  exact(Array.getElem?_eq_some_iff.1 h).1
namespace Foot
variable {P Q:World→Prop} {W W1:World} {ok ok':Nat→Prop}
theorem now(h:Foot P W ok):P W:=h W (fun _ _ _=>rfl)
theorem mono(h:Foot P W ok)(hok:∀k,ok k→ok' k):Foot P W ok':=fun W' hW=>h W' (fun k hk hlt=>hW k (hok k hk) hlt)
theorem bound(h:Foot P W ok):Foot P W (fun k=>ok k∧k<W.heap.size):=fun W' hW=>h W' (fun k hk hlt=>hW k ⟨hk,hlt⟩ hlt)
theorem step(h:Foot P W ok)(hm:∀k,ok k→k<W.heap.size→W1.heap[k]? = W.heap[k]?):Foot P W1 ok:=fun W' hW=>h W' (fun k hk hlt=>(hW k hk (Qhx (hm k hk hlt) hlt)).trans (hm k hk hlt))
theorem imp(h:Foot P W ok)(hi:∀W',P W'→Q W'):Foot Q W ok:=fun W' hW=>hi W' (h W' hW)
theorem old(h:Foot P W ok)(hb:Below W.heap.size W W1):Foot P W1 (fun k=>ok k∧k<W.heap.size):=(h.bound).step (fun k _ hlt=>hb.block k hlt)
end Foot
namespace Kd
def F{α:Type}(d:Kd α)(W:World)(ok:Nat→Prop)(A:Option Addr)(n:Nat)(xs:List α):Prop:=Foot (fun W=>d.C W A n xs) W ok
def FK{α:Type}(d:Kd α)(W:World)(ok:Nat→Prop)(x:α)(c:List Value):Prop:=Foot (fun W=>d.K W x c) W ok
section
variable {α β:Type} {d:Kd α} {e base n n' cc g N:Nat} {ok ok' okp S:Nat→Prop} {w w0 w1 W W1:World} {A A':Option Addr} {u v v1:Value} {xs:List α} {xs':List β} {d':Kd β} {x:α} {c:List Value}
theorem F_now(h:F d W ok A n xs):d.C W A n xs:=Foot.now h
theorem Qhy(h:F d W ok A n xs)(hok:∀k,ok k→ok' k):F d W ok' A n xs:=Foot.mono h hok
theorem F_bound(h:F d W ok A n xs):F d W (fun k=>ok k∧k<W.heap.size) A n xs:=Foot.bound h
theorem F_step(h:F d W ok A n xs)(hm:∀k,ok k→k<W.heap.size→W1.heap[k]? = W.heap[k]?):F d W1 ok A n xs:=Foot.step h hm
theorem F_imp(h:F d W ok A n xs)(hi:∀W',d.C W' A n xs→d'.C W' A' n' xs'):F d' W ok A' n' xs':=Foot.imp h hi
theorem F_below(h:F d W ok A n xs)(hb:Below W.heap.size W W1):F d W1 ok A n xs:=F_step h (fun k _ hlt=>hb.block k hlt)
theorem F_drewN(h:F d W ok A n xs)(m:Nat):F d (W.drewN m) ok A n xs:=F_below h (Qcu (Below.refl _ _) m)
theorem Qhz(h:F d W ok A n xs)(hbase:∀k,v.ownBlock=some k→W.heap.size≤k)(hb:Below W.heap.size W W1):F d W1 (fun k=>ok k∧some k≠v.ownBlock) A n xs :=
  Qhy (Foot.old h hb) (fun k hk=>⟨hk.1,fun he=>by have:=hbase k he.symm;have:=hk.2;omega⟩)
theorem F_after(h:F d W (fun k=>ok k∧some k≠v.ownBlock) A n xs)(hg:W.grownBy W1 v.ownBlock)(hat:v1.ownBlock=v.ownBlock∨∃b,v1.ownBlock=some b∧W.heap.size≤b):F d W1 (fun k=>ok k∧some k≠v1.ownBlock) A n xs:=by
  refine Qhy (Foot.step (F_bound h) (fun k hk hlt=>hg.block k hlt hk.1.2)) (fun k hk=>⟨hk.1.1,?_⟩)
  rcases hat with hat |⟨b,hb,hle⟩
  · rw[hat];exact hk.1.2
  · rw[hb]
    intro he
    injection he with he
    have:=hk.2
    omega
end
end Kd
end Go.Proofs.YteaocbonofboeaaGreatW.PrintWords
end
section
namespace Go.Proofs.YteaocbonofboeaaGreatW.PrintWords
open Go.RowKit
namespace Kd
section
variable {α:Type} {d:Kd α} {e base n cc g:Nat} {ok ok' okp S:Nat→Prop} {w w1 W W1:World} {A:Option Addr} {u v v1:Value} {xs:List α} {x:α} {c:List Value}
def N{α:Type}(d:Kd α)(e:Nat)(w:World)(base:Nat)(ok:Nat→Prop)(v:Value)(xs:List α):Prop :=
  (∀k,v.ownBlock=some k→ok k)∧∃rows:List (List Value),rows.length=xs.length∧(raw d.sz).R e w base (fun k=>some k=v.ownBlock) v rows∧∀(j:Nat) (x:α) (c:List Value),xs[j]? = some x→rows[j]? = some c→FK d w (fun k=>ok k∧some k≠v.ownBlock) x c
end
section
variable {α:Type} {d:Kd α} {W:World} {g n:Nat} {S ok:Nat→Prop} {A:Option Addr} {ad:Addr} {xs:List α}
end
section
variable {α:Type} {d:Kd α} {e base n cap g:Nat} {ok ok' okp:Nat→Prop} {w w1 W:World} {v v1:Value} {xs ys:List α}
end
section
variable {P:Program} {ops:Array Oper} {rest:List Oper} {o:Oper} {a:Act} {Q:Exit→Act→World→Prop} {Kc:Act→World→Prop} {α:Type}
end
end Kd
end Go.Proofs.YteaocbonofboeaaGreatW.PrintWords
end
section
namespace Go.Proofs.YteaocbonofboeaaGreatW.PrintWords
open Go.RowKit
section
variable {w w' u:World} {m B g:Nat} {o:Obj} {row:Option Nat} {S:Nat→Prop} {a:Addr} {v:Value}
end
namespace Kd
section
variable {α:Type} {d:Kd α} {e base n m:Nat} {ok:Nat→Prop} {w w':World} {v:Value} {A:Option Addr} {xs:List α}
end
end Kd
end Go.Proofs.YteaocbonofboeaaGreatW.PrintWords
end
section
namespace Go.Proofs.YteaocbonofboeaaGreatW.PrintWords
theorem Reps.one{α:Type}{R:α→List Value→Prop}{ps:List α}{cs:List Value}{p:α}{v:Value}(hp:R p [v])(h:Reps R 1 ps cs):Reps R 1 (p :: ps) (v :: cs):=by
  refine⟨by simp[h.1],fun j q hq=>?_⟩
  cases j with
  | zero =>
    simp only[List.getElem?_cons_zero,Option.some.injEq]at hq
    subst hq
    simpa using hp
  | succ j =>
    simp only[List.getElem?_cons_succ]at hq
    have h1:=h.2 j q hq
    simpa [Nat.mul_one]using h1
theorem Reps.front{α:Type}{R:α→List Value→Prop}{size:Nat}{ps:List α}{cs c all:List Value}{p:α}(hp:R p c)(hc:c.length=size)(h:Reps R size ps cs)(ha:c++cs=all):Reps R size (p :: ps) all:=by
  subst ha
  refine⟨by rw[List.length_append,hc,h.1,List.length_cons,Nat.succ_mul,Nat.add_comm],fun j q hq=>?_⟩
  cases j with
  | zero =>
    simp only[List.getElem?_cons_zero,Option.some.injEq]at hq
    subst hq
    rw[Nat.zero_mul,List.drop_zero,List.take_append_of_le_length (by omega),List.take_of_length_le (by omega)]
    exact hp
  | succ j =>
    simp only[List.getElem?_cons_succ]at hq
    have h1:=h.2 j q hq
    rw[Nat.succ_mul,List.drop_append,List.drop_of_length_le (by rw[hc];exact Nat.le_add_left _ _),List.nil_append,hc,Nat.add_sub_cancel]
    exact h1
theorem Reps.c2{α:Type}{R:α→List Value→Prop}{ps:List α}{cs:List Value}{p:α}{va vb:Value}(hp:R p [va,vb])(h:Reps R 2 ps cs):Reps R 2 (p :: ps) (va :: vb :: cs):=Reps.front hp rfl h rfl
end Go.Proofs.YteaocbonofboeaaGreatW.PrintWords
end
section
namespace Go.Proofs.YteaocbonofboeaaGreatW.PrintWords
open Go.RowKit
end Go.Proofs.YteaocbonofboeaaGreatW.PrintWords
namespace Go.Proofs.YteaocbonofboeaaGreatW.PrintLast
section
variable {ops:Array Oper} {a:Act} {o og:Oper} {g:Nat} {t:Tmp} {u:Bool}
end
end Go.Proofs.YteaocbonofboeaaGreatW.PrintLast
end
section
namespace Go.Proofs.YteaocbonofboeaaGreatW.PrintMore
open Go.RowKit Go.Proofs.YteaocbonofboeaaGreatW.PrintWords
namespace Kd
open Go.Proofs.YteaocbonofboeaaGreatW.PrintWords.Kd
end Kd
namespace Kd
open Go.Proofs.YteaocbonofboeaaGreatW.PrintWords.Kd
section
variable {α:Type} {d:Kd α} {e base g N:Nat} {ok:Nat→Prop} {W w1:World} {u v:Value} {xs:List α}
end
end Kd
theorem Qie(k k':IntKind)(x y:Int):Builtin.max2 (.int k x) (.int k' y)=pure (.int k (if x<y then y else x)):=by simp only[Builtin.max2,gt_iff_lt]
theorem Qif(k k':IntKind)(x y:Int):Builtin.min2 (.int k x) (.int k' y)=pure (.int k (if y<x then y else x)):=by simp only[Builtin.min2]
theorem Qig(ats:Array TypeId)(ty:TypeId)(a b:Value):Builtin.max_ ats ty #[a,b]=(Builtin.max2 a b >>= fun s=>pure s):=by simp only[Builtin.max_,List.foldlM_cons,List.foldlM_nil]
theorem Qih(ats:Array TypeId)(ty:TypeId)(a b:Value):Builtin.min_ ats ty #[a,b]=(Builtin.min2 a b >>= fun s=>pure s):=by simp only[Builtin.min_,List.foldlM_cons,List.foldlM_nil]
theorem Qii(ats:Array TypeId)(ty:TypeId)(a b c:Value):Builtin.max_ ats ty #[a,b,c]=(Builtin.max2 a b >>= fun s=>Builtin.max2 s c >>= fun s=>pure s):=by simp only[Builtin.max_,List.foldlM_cons,List.foldlM_nil]
theorem Qij(ats:Array TypeId)(ty:TypeId)(a b c:Value):Builtin.min_ ats ty #[a,b,c]=(Builtin.min2 a b >>= fun s=>Builtin.min2 s c >>= fun s=>pure s):=by simp only[Builtin.min_,List.foldlM_cons,List.foldlM_nil]
theorem Qik(ats:Array TypeId)(ty:TypeId)(a b c d:Value):Builtin.max_ ats ty #[a,b,c,d]=(Builtin.max2 a b >>= fun s=>Builtin.max2 s c >>= fun s=>Builtin.max2 s d >>= fun s=>pure s):=by simp only[Builtin.max_,List.foldlM_cons,List.foldlM_nil]
theorem Qil(ats:Array TypeId)(ty:TypeId)(a b c d:Value):Builtin.min_ ats ty #[a,b,c,d]=(Builtin.min2 a b >>= fun s=>Builtin.min2 s c >>= fun s=>Builtin.min2 s d >>= fun s=>pure s):=by simp only[Builtin.min_,List.foldlM_cons,List.foldlM_nil]
end Go.Proofs.YteaocbonofboeaaGreatW.PrintMore
namespace Go.Proofs.YteaocbonofboeaaGreatW.PrintWords
open Go.RowKit
section
variable {P:Program} {ops:Array Oper} {rest:List Oper} {o:Oper} {a:Act} {Q:Exit→Act→World→Prop} {W:World}
theorem Qim{f:FuncId}{as_:Array Operand}{ts:Array TypeId}(_ho:o.op=.call { callee:=.value (.func f),args:=as_,argTypes:=ts })(h:wpList P ops Q (o :: rest) a W):wpList P ops Q (o :: rest) a W:=h
theorem Qin{b:Builtin}{xs:Array Operand}{ts:Array TypeId}(_ho:o.op=.call { callee:=.builtin b,args:=xs,argTypes:=ts })(h:wpList P ops Q (o :: rest) a W):wpList P ops Q (o :: rest) a W:=h
end
def mx(a b:Int):Int:=if a<b then b else a
def mn(a b:Int):Int:=if b<a then b else a
def shl(k:IntKind)(x y:Int):Int:=k.wrap (x*2^min y.toNat k.bits)
def shr(k:IntKind)(x y:Int):Int:=x/2^min y.toNat k.bits
theorem Qio{k:IntKind}{x y j:Int}(h:shl k x y=j)(hy:y≤k.bits):k.wrap (x*2^y.toNat)=j:=by rw[← h];unfold shl;rw[Nat.min_eq_left (by omega)]
theorem Qip{k:IntKind}{x y j:Int}(h:shr k x y=j)(hy:y≤k.bits):x/2^y.toNat=j:=by rw[← h];unfold shr;rw[Nat.min_eq_left (by omega)]
namespace Kd
section
variable {α:Type} {d:Kd α} {e base:Nat} {ok:Nat→Prop} {W w1:World} {v:Value} {xs:List α}
end
section
variable {α:Type} {d:Kd α} {e base g n cap:Nat} {ok oki okp:Nat→Prop} {W:World} {xs:List α} {i:Int} {c:List Value}
end
section
variable {α:Type} {d:Kd α} {e base b b' g N:Nat} {ok ok1:Nat→Prop} {W W2 w1:World} {u v:Value} {xs ys:List α} {S:Nat→Prop}
end
end Kd
end Go.Proofs.YteaocbonofboeaaGreatW.PrintWords
namespace Go.Proofs.YteaocbonofboeaaGreatW.PrintWords
open Go.RowKit
namespace Kd
def V{α:Type}(d:Kd α)(_e:Nat)(W:World)(_base:Nat)(ok:Nat→Prop)(v:Value)(xs:List α):Prop:=∃A c,v=.slice A xs.length c∧xs.length≤c∧F d W ok A xs.length xs
section
variable {α β:Type} {d:Kd α} {e base base' n m c g N' lo hi:Nat} {ok ok' S:Nat→Prop} {w W w1:World} {A:Option Addr} {ad:Addr} {u v v1:Value} {xs:List α}
theorem Qiq(h:V d e W base ok v xs)(hF:∀A,F d W ok A xs.length xs→F d w1 ok' A xs.length xs):V d e w1 base' ok' v xs:=by
  obtain⟨A,c,hv,hl,hf⟩:=h
  exact⟨A,c,hv,hl,hF A hf⟩
theorem V_mk(hl:xs.length≤c)(hf:F d W ok A xs.length xs):V d e W base ok (.slice A xs.length c) xs:=⟨A,c,rfl,hl,hf⟩
theorem V_slice(h:V d e W base ok v xs):∃A c,v=.slice A xs.length c:=by
  obtain⟨A,c,hv,_⟩:=h
  exact⟨A,c,hv⟩
theorem V_at(h:V d e W base ok (.slice A n c) xs):n=xs.length∧n≤c∧F d W ok A xs.length xs:=by
  obtain⟨A',c',hv,hl,hf⟩:=h
  injection hv with ha hn hc
  subst ha;subst hc
  exact⟨hn,by rw[hn];exact hl,hf⟩
theorem V_reads'(h:V d e W base ok (.slice A n c) xs):n=xs.length∧n≤c∧d.C W A xs.length xs:=⟨(V_at h).1,(V_at h).2.1,F_now (V_at h).2.2⟩
theorem V_mono(h:V d e W base ok v xs)(hok:∀k,ok k→ok' k):V d e W base ok' v xs:=Qiq h (fun _ hf=>Qhy hf hok)
theorem V_drewN(h:V d e W base ok v xs)(m:Nat):V d e (W.drewN m) base ok v xs:=Qiq h (fun _ hf=>F_drewN hf m)
theorem V_after(h:V d e W base (fun k=>ok k∧some k≠u.ownBlock) v xs)(hg:W.grownBy w1 u.ownBlock)(hat:v1.ownBlock=u.ownBlock∨∃b,v1.ownBlock=some b∧W.heap.size≤b):V d e w1 base (fun k=>ok k∧some k≠v1.ownBlock) v xs:=Qiq h (fun _ hf=>F_after hf hg hat)
theorem V_afterv(h:V d e W base (fun k=>ok k∧some k≠v.ownBlock) u xs)(hg:W.grownBy w1 v.ownBlock)(hat:v1.ownBlock=v.ownBlock∨∃b,v1.ownBlock=some b∧W.heap.size≤b):V d e w1 base (fun k=>ok k∧some k≠v1.ownBlock) u xs:=V_after h hg hat
theorem V_elder'(h:V d e W base ok v xs)(hbase:∀k,u.ownBlock=some k→W.heap.size≤k)(hb:Below W.heap.size W w1):V d e w1 base (fun k=>ok k∧some k≠u.ownBlock) v xs:=Qiq h (fun _ hf=>Qhz hf hbase hb)
theorem F_cut(h:F d W ok A xs.length xs)(hm:m≤xs.length)(hc:xs.length≤c):F d W ok (if c=m then A else A.map (·.add (m*d.sz))) (xs.drop m).length (xs.drop m):=F_imp h (fun _ hC=>C_drop hC hm hc)
theorem F_mid(h:F d W ok A xs.length xs)(h1:lo≤hi)(h2:hi≤xs.length)(hc:xs.length≤c):F d W ok (if c=lo then A else A.map (·.add (lo*d.sz))) ((xs.take hi).drop lo).length ((xs.take hi).drop lo):=F_imp h (fun _ hC=>C_mid hC h1 h2 hc)
theorem R_newM{M:Nat→Prop}(h:d.R e w1 W.heap.size ok v xs)(hle:w.heap.size≤W.heap.size)(hM:∀k,w.heap.size≤k→M k):d.R e w1 W.heap.size (fun k=>M k∧ok k) v xs:=R_mono (R_bound h) (fun k hk=>⟨hM k (Nat.le_trans hle hk.2.1),hk.1⟩)
end
end Kd
end Go.Proofs.YteaocbonofboeaaGreatW.PrintWords
end
section
namespace Go.Proofs.YteaocbonofboeaaGreat.C
open Go.RowKit Go.Proofs.YteaocbonofboeaaGreatW.PrintWords Go.Proofs.YteaocbonofboeaaGreatW.PrintLast Go.Proofs.YteaocbonofboeaaGreatW.PrintMore
attribute [local go_sem] Qie Qif Qig Qih Qii Qij Qik Qil
def errW:Option Int→Value
 | none=>.nilIface
 | some c=>.iface 0 (.int .i64 c)
theorem Qir:errW none=.nilIface:=rfl
theorem Qis(c:Int):errW (some c)=.iface 0 (.int .i64 c):=rfl
theorem info3:(Tryz.prog.info? 3).map (fun i=>(i.zero,i.size,i.bytes))=some (some (.int .i64 0),1,8):=by kernel_rfl
theorem Qit:(Tryz.prog.info? 5).map (fun i=>(i.zero,i.size,i.bytes))=some (some (.int .u8 0),1,1):=by kernel_rfl
theorem Qiu:(Tryz.prog.info? 26).map (fun i=>(i.zero,i.size,i.bytes))=some (some (.int .u32 0),1,4):=by kernel_rfl
theorem info35:(Tryz.prog.info? 35).map (fun i=>(i.zero,i.size,i.bytes))=some (some (.int .u64 0),1,8):=by kernel_rfl
theorem info37:(Tryz.prog.info? 37).map (fun i=>(i.zero,i.size,i.bytes))=some (some (.agg #[(.bool false),(.int .u64 0),(.string ⟨#[]⟩),(.string ⟨#[]⟩)]),4,48):=by kernel_rfl
theorem Qiv:(Tryz.prog.info? 76).map (fun i=>(i.zero,i.size,i.bytes))=some (some (.agg #[(.int .u32 0),(.int .u32 0)]),2,8):=by kernel_rfl
structure S37 where
  f0:Bool
  f1:Int
  f2:ByteArray
  f3:ByteArray
def z37:S37:=⟨false,(0:Int),(⟨#[]⟩:ByteArray),(⟨#[]⟩:ByteArray)⟩
def k37:Kd S37:=Kd.iso (Kd.pair Kd.bool (Kd.pair (Kd.int .u64) (Kd.pair Kd.string Kd.string))) (fun x:S37=>(x.f0,x.f1,x.f2,x.f3))
theorem Qiw{w:World}{x:S37}{cs:List Value}(h:k37.K w x cs):cs=[.bool x.f0,.int .u64 x.f1,.string x.f2,.string x.f3]:=by
 obtain⟨_,_,rfl,rfl,⟨_,_,rfl,rfl,⟨_,_,rfl,rfl,rfl⟩⟩⟩:=h
 exact rfl
theorem Qix(w:World)(base:Nat)(ok:Nat→Prop)(x:S37)  : k37.M w base ok x [.bool x.f0,.int .u64 x.f1,.string x.f2,.string x.f3]:=⟨[.bool x.f0],[.int .u64 x.f1,.string x.f2,.string x.f3],rfl,rfl,⟨[.int .u64 x.f1],[.string x.f2,.string x.f3],rfl,rfl,⟨[.string x.f2],[.string x.f3],rfl,rfl,rfl⟩⟩⟩
def Qiy(xs:List S37)(i:Int):S37:=xs.getD i.toNat z37
theorem Qiz{w:World}{A:Option Addr}{n:Nat}{xs:List S37}(h:Kd.C k37 w A n xs)(i:Int)(h0:0≤i)(h1:i<n):∃ad , A=some ad∧w.cell? (ad.add (i.toNat*4))=some (.bool (Qiy xs i).f0)∧w.cell? ⟨(ad.add (i.toNat*4)).block,(ad.add (i.toNat*4)).off+1,none⟩=some (.int .u64 (Qiy xs i).f1)∧w.cell? ⟨(ad.add (i.toNat*4)).block,(ad.add (i.toNat*4)).off+2,none⟩=some (.string (Qiy xs i).f2)∧w.cell? ⟨(ad.add (i.toNat*4)).block,(ad.add (i.toNat*4)).off+3,none⟩=some (.string (Qiy xs i).f3):=by
 obtain⟨ad,c,e,_,hK,hc0⟩:=Kd.C_get h z37 i h0 h1
 have hc:∀j u,c[j]? = some u→w.cell? (ad.add (i.toNat*4+j))=some u:=hc0
 obtain rfl:=Qiw hK
 exact⟨ad,e,hc 0 _ rfl,by rw[← Qdm _ _ 1 (by omega)];exact hc 1 _ rfl,by rw[← Qdm _ _ 2 (by omega)];exact hc 2 _ rfl,by rw[← Qdm _ _ 3 (by omega)];exact hc 3 _ rfl⟩
structure S28 where
  f0:Int
  f1:Int
structure S74 where
  f0:S37
  f1:Int
  f2:Int
  f3:Int
def z74:S74:=⟨z37,(0:Int),(0:Int),(0:Int)⟩
def k74:Kd S74:=Kd.iso (Kd.pair k37 (Kd.pair (Kd.int .u64) (Kd.pair (Kd.int .i64) (Kd.int .i64)))) (fun x:S74=>(x.f0,x.f1,x.f2,x.f3))
theorem Qja{w:World}{x:S74}{cs:List Value}(h:k74.K w x cs):cs=[.bool x.f0.f0,.int .u64 x.f0.f1,.string x.f0.f2,.string x.f0.f3,.int .u64 x.f1,.int .i64 x.f2,.int .i64 x.f3]:=by
 obtain⟨_,_,rfl,s0,⟨_,_,rfl,rfl,⟨_,_,rfl,rfl,rfl⟩⟩⟩:=h
 obtain rfl:=Qiw s0
 exact rfl
theorem k74_mkM(w:World)(base:Nat)(ok:Nat→Prop)(x:S74)  : k74.M w base ok x [.bool x.f0.f0,.int .u64 x.f0.f1,.string x.f0.f2,.string x.f0.f3,.int .u64 x.f1,.int .i64 x.f2,.int .i64 x.f3]:=⟨[.bool x.f0.f0,.int .u64 x.f0.f1,.string x.f0.f2,.string x.f0.f3],[.int .u64 x.f1,.int .i64 x.f2,.int .i64 x.f3],rfl,(Qix w base ok x.f0 ),⟨[.int .u64 x.f1],[.int .i64 x.f2,.int .i64 x.f3],rfl,rfl,⟨[.int .i64 x.f2],[.int .i64 x.f3],rfl,rfl,rfl⟩⟩⟩
def Qjb(xs:List S74)(i:Int):S74:=xs.getD i.toNat z74
theorem Qjc{w:World}{A:Option Addr}{n:Nat}{xs:List S74}(h:Kd.C k74 w A n xs)(i:Int)(h0:0≤i)(h1:i<n):∃ad , A=some ad∧w.cell? (ad.add (i.toNat*7))=some (.bool (Qjb xs i).f0.f0)∧w.cell? ⟨(ad.add (i.toNat*7)).block,(ad.add (i.toNat*7)).off+1,none⟩=some (.int .u64 (Qjb xs i).f0.f1)∧w.cell? ⟨(ad.add (i.toNat*7)).block,(ad.add (i.toNat*7)).off+2,none⟩=some (.string (Qjb xs i).f0.f2)∧w.cell? ⟨(ad.add (i.toNat*7)).block,(ad.add (i.toNat*7)).off+3,none⟩=some (.string (Qjb xs i).f0.f3)∧w.cell? ⟨(ad.add (i.toNat*7)).block,(ad.add (i.toNat*7)).off+4,none⟩=some (.int .u64 (Qjb xs i).f1)∧w.cell? ⟨(ad.add (i.toNat*7)).block,(ad.add (i.toNat*7)).off+5,none⟩=some (.int .i64 (Qjb xs i).f2)∧w.cell? ⟨(ad.add (i.toNat*7)).block,(ad.add (i.toNat*7)).off+6,none⟩=some (.int .i64 (Qjb xs i).f3):=by
 obtain⟨ad,c,e,_,hK,hc0⟩:=Kd.C_get h z74 i h0 h1
 have hc:∀j u,c[j]? = some u→w.cell? (ad.add (i.toNat*7+j))=some u:=hc0
 obtain rfl:=Qja hK
 exact⟨ad,e,hc 0 _ rfl,by rw[← Qdm _ _ 1 (by omega)];exact hc 1 _ rfl,by rw[← Qdm _ _ 2 (by omega)];exact hc 2 _ rfl,by rw[← Qdm _ _ 3 (by omega)];exact hc 3 _ rfl,by rw[← Qdm _ _ 4 (by omega)];exact hc 4 _ rfl,by rw[← Qdm _ _ 5 (by omega)];exact hc 5 _ rfl,by rw[← Qdm _ _ 6 (by omega)];exact hc 6 _ rfl⟩
structure S129 where
  f0:Int
  f1:Int
def z129:S129:=⟨(0:Int),(0:Int)⟩
def k129:Kd S129:=Kd.iso (Kd.pair (Kd.int .u64) (Kd.int .u32)) (fun x:S129=>(x.f0,x.f1))
theorem Qjd{w:World}{x:S129}{cs:List Value}(h:k129.K w x cs):cs=[.int .u64 x.f0,.int .u32 x.f1]:=by
 obtain⟨_,_,rfl,rfl,rfl⟩:=h
 exact rfl
theorem Qje{w:World}{base:Nat}{ok:Nat→Prop}{x:S129}{cs:List Value}(h:k129.M w base ok x cs):cs=[.int .u64 x.f0,.int .u32 x.f1]:=by
 obtain⟨_,_,rfl,rfl,rfl⟩:=h
 exact rfl
theorem Qjf(w:World)(base:Nat)(ok:Nat→Prop)(x:S129)  : k129.M w base ok x [.int .u64 x.f0,.int .u32 x.f1]:=⟨[.int .u64 x.f0],[.int .u32 x.f1],rfl,rfl,rfl⟩
def Qjg(xs:List S129)(i:Int):S129:=xs.getD i.toNat z129
theorem Qjh{w:World}{A:Option Addr}{n:Nat}{xs:List S129}(h:Kd.C k129 w A n xs)(i:Int)(h0:0≤i)(h1:i<n):∃ad , A=some ad∧w.cell? (ad.add (i.toNat*2))=some (.int .u64 (Qjg xs i).f0)∧w.cell? ⟨(ad.add (i.toNat*2)).block,(ad.add (i.toNat*2)).off+1,none⟩=some (.int .u32 (Qjg xs i).f1):=by
 obtain⟨ad,c,e,_,hK,hc0⟩:=Kd.C_get h z129 i h0 h1
 have hc:∀j u,c[j]? = some u→w.cell? (ad.add (i.toNat*2+j))=some u:=hc0
 obtain rfl:=Qjd hK
 exact⟨ad,e,hc 0 _ rfl,by rw[← Qdm _ _ 1 (by omega)];exact hc 1 _ rfl⟩
structure S76 where
  f0:Int
  f1:Int
def z76:S76:=⟨(0:Int),(0:Int)⟩
def k76:Kd S76:=Kd.iso (Kd.pair (Kd.int .u32) (Kd.int .u32)) (fun x:S76=>(x.f0,x.f1))
theorem Qji{w:World}{x:S76}{cs:List Value}(h:k76.K w x cs):cs=[.int .u32 x.f0,.int .u32 x.f1]:=by
 obtain⟨_,_,rfl,rfl,rfl⟩:=h
 exact rfl
theorem Qjj(w:World)(base:Nat)(ok:Nat→Prop)(x:S76)  : k76.M w base ok x [.int .u32 x.f0,.int .u32 x.f1]:=⟨[.int .u32 x.f0],[.int .u32 x.f1],rfl,rfl,rfl⟩
def Qjk(xs:List S76)(i:Int):S76:=xs.getD i.toNat z76
theorem Qjl{w:World}{A:Option Addr}{n:Nat}{xs:List S76}(h:Kd.C k76 w A n xs)(i:Int)(h0:0≤i)(h1:i<n):∃ad , A=some ad∧w.cell? (ad.add (i.toNat*2))=some (.int .u32 (Qjk xs i).f0)∧w.cell? ⟨(ad.add (i.toNat*2)).block,(ad.add (i.toNat*2)).off+1,none⟩=some (.int .u32 (Qjk xs i).f1):=by
 obtain⟨ad,c,e,_,hK,hc0⟩:=Kd.C_get h z76 i h0 h1
 have hc:∀j u,c[j]? = some u→w.cell? (ad.add (i.toNat*2+j))=some u:=hc0
 obtain rfl:=Qji hK
 exact⟨ad,e,hc 0 _ rfl,by rw[← Qdm _ _ 1 (by omega)];exact hc 1 _ rfl⟩
structure S158 where
  f0:Int
  f1:Int
def z158:S158:=⟨(0:Int),(0:Int)⟩
def k158:Kd S158:=Kd.iso (Kd.pair (Kd.int .u64) (Kd.int .u8)) (fun x:S158=>(x.f0,x.f1))
theorem Qjm{w:World}{x:S158}{cs:List Value}(h:k158.K w x cs):cs=[.int .u64 x.f0,.int .u8 x.f1]:=by
 obtain⟨_,_,rfl,rfl,rfl⟩:=h
 exact rfl
theorem Qjn(w:World)(base:Nat)(ok:Nat→Prop)(x:S158)  : k158.M w base ok x [.int .u64 x.f0,.int .u8 x.f1]:=⟨[.int .u64 x.f0],[.int .u8 x.f1],rfl,rfl,rfl⟩
def Qjo(xs:List S158)(i:Int):S158:=xs.getD i.toNat z158
theorem Qjp{w:World}{A:Option Addr}{n:Nat}{xs:List S158}(h:Kd.C k158 w A n xs)(i:Int)(h0:0≤i)(h1:i<n):∃ad , A=some ad∧w.cell? (ad.add (i.toNat*2))=some (.int .u64 (Qjo xs i).f0)∧w.cell? ⟨(ad.add (i.toNat*2)).block,(ad.add (i.toNat*2)).off+1,none⟩=some (.int .u8 (Qjo xs i).f1):=by
 obtain⟨ad,c,e,_,hK,hc0⟩:=Kd.C_get h z158 i h0 h1
 have hc:∀j u,c[j]? = some u→w.cell? (ad.add (i.toNat*2+j))=some u:=hc0
 obtain rfl:=Qjm hK
 exact⟨ad,e,hc 0 _ rfl,by rw[← Qdm _ _ 1 (by omega)];exact hc 1 _ rfl⟩
structure S81 where
  f0:(List S158)
  f1:Int
def k81:Kd S81:=Kd.iso (Kd.pair (Kd.slice 158 k158) (Kd.int .i64)) (fun x:S81=>(x.f0,x.f1))
theorem Qjq{w:World}{x:S81}{cs:List Value}(h:k81.K w x cs):∃A0 c0,cs=[.slice A0 x.f0.length c0,.int .i64 x.f1]∧x.f0.length≤c0∧k158.C w A0 x.f0.length x.f0:=by
 obtain⟨_,_,rfl,⟨A0,c0,rfl,l0,g0⟩,rfl⟩:=h
 exact⟨A0,c0,rfl,l0,g0⟩
structure S160 where
  f0:Int
  f1:Int
structure S147 where
  f0:Int
  f1:Int
  f2:Int
structure S61 where
  f0:Int
  f1:Int
  f2:Int
structure S152 where
  f0:S37
  f1:Int
  f2:Int
  f3:Int
structure S45 where
  f0:(List S37)
  f1:(List Int)
  f2:Int
  f3:Bool
def z45:S45:=⟨([]:List S37),([]:List Int),(0:Int),false⟩
structure S224 where
  f0:Int
  f1:Int
structure S111 where
  f0:Int
  f1:Int
theorem qq_x{W:World}{g:Nat}{t:TypeId}{cs cs':Array Value}(h:W.heap[g]? = some (.cells cs' t (0,0)):=by((with_reducible repeat(first|apply Qef|apply Qee|apply Qed|apply Qdo));exact Aside0.out (by assumption)))(e:cs'=cs:=by rfl):W.heap[g]? = some (.cells cs t (0,0)):=e ▸ h
theorem qc2{W:World}{g:Nat}{t:TypeId}{v0 v1:Value}(h:W.heap[g]? = some (.cells #[v0,v1] t (0,0))):W.cell? ⟨g,0,none⟩=some v0∧W.cell? ⟨g,1,none⟩=some v1:=⟨(Qdr h 0).trans rfl,(Qdr h 1).trans rfl⟩
theorem qc4{W:World}{g:Nat}{t:TypeId}{v0 v1 v2 v3:Value}(h:W.heap[g]? = some (.cells #[v0,v1,v2,v3] t (0,0))):W.cell? ⟨g,0,none⟩=some v0∧W.cell? ⟨g,1,none⟩=some v1∧W.cell? ⟨g,2,none⟩=some v2∧W.cell? ⟨g,3,none⟩=some v3:=⟨(Qdr h 0).trans rfl,(Qdr h 1).trans rfl,(Qdr h 2).trans rfl,(Qdr h 3).trans rfl⟩
theorem qc5{W:World}{g:Nat}{t:TypeId}{v0 v1 v2 v3 v4:Value}(h:W.heap[g]? = some (.cells #[v0,v1,v2,v3,v4] t (0,0))):W.cell? ⟨g,0,none⟩=some v0∧W.cell? ⟨g,1,none⟩=some v1∧W.cell? ⟨g,2,none⟩=some v2∧W.cell? ⟨g,3,none⟩=some v3∧W.cell? ⟨g,4,none⟩=some v4:=⟨(Qdr h 0).trans rfl,(Qdr h 1).trans rfl,(Qdr h 2).trans rfl,(Qdr h 3).trans rfl,(Qdr h 4).trans rfl⟩
theorem qc7{W:World}{g:Nat}{t:TypeId}{v0 v1 v2 v3 v4 v5 v6:Value}(h:W.heap[g]? = some (.cells #[v0,v1,v2,v3,v4,v5,v6] t (0,0))):W.cell? ⟨g,0,none⟩=some v0∧W.cell? ⟨g,1,none⟩=some v1∧W.cell? ⟨g,2,none⟩=some v2∧W.cell? ⟨g,3,none⟩=some v3∧W.cell? ⟨g,4,none⟩=some v4∧W.cell? ⟨g,5,none⟩=some v5∧W.cell? ⟨g,6,none⟩=some v6:=⟨(Qdr h 0).trans rfl,(Qdr h 1).trans rfl,(Qdr h 2).trans rfl,(Qdr h 3).trans rfl,(Qdr h 4).trans rfl,(Qdr h 5).trans rfl,(Qdr h 6).trans rfl⟩
theorem qq_b{b:Nat}{w w':World}(h:Below b w w':=by repeat(first |(with_reducible first|exact HB.out|apply Qcs|apply Qcu|apply Qfo|refine Qfk ?_ (Aside0.out (by assumption)))|exact HB.out)):Below b w w':=h
theorem qq_h{w w':World}(hb:Below w.heap.size w w'){p:Addr}{v:Value}(h:w.cell? p=some v):w'.cell? p=some v:=(hb.cell (World.block_lt_of_cell? w _ h)).trans h
theorem qq_s{w W:World}{g:Nat}(hg:g=W.heap.size)(h:Below w.heap.size w W:=by exact qq_b):w.heap.size≤g:=hg ▸ Qfh h
theorem qq_e{P:Program}{ops:Array Oper}{o:Oper}{rest:List Oper}{a:Act}{Q:Exit→Act→World→Prop}{W:World}(N:Tmp)(cs:Array Value)(t:TypeId)(h:∀g,g=W.heap.size→∀w1,w1.heap[g]? = some (.cells cs t (0,0))→Below W.heap.size W w1→wpList P ops Q rest (a.put o.dst (.pointer (some ⟨g,0,none⟩))) w1)(hgd:o.guard=none:=by rfl)(hd:o.dst=some N:=by rfl)(hrun:(execOp a.eval o).run P W=.ok (.value (.pointer (some ⟨W.heap.size,0,none⟩))) (W.alloc (.cells cs t (0,0))):=by first |(go_simp;done) |(go_simp;rfl)):wpList P ops Q (o :: rest) a W:=Qfr hgd hd hrun h
theorem qq_0{p:Prop}(h:p:=by(with_reducible repeat(first|apply Qef|apply Qee|apply Qed));exact Aside0.out (by assumption)):p:=h
theorem qq_1{p:Prop}(h:p:=by(try simp only[List.map_toArray,List.map_cons,List.map_nil]);first|done|rfl |(simp only[List.length_drop,List.length_take];rfl)):p:=h
theorem qq_2{p:Prop}(h:p:=by first |(with_reducible assumption)|assumption):p:=h
theorem qq_3{p:Prop}(h:p:=by simp only[Act.put,List.setIfInBounds_toArray,List.set_cons_zero,List.set_cons_succ,Qgq,Qgr];rfl):p:=h
theorem qq_4{p:Prop}(h:p:=by kernel_rfl):p:=h
theorem qq_5{p:Prop}(h:p:=by first|rfl |(simp;done) |(simp[*];done)):p:=h
theorem qq_6{p:Prop}(h:p:=by first|rfl |(simp[Qir,Qis]<;>rfl) |(simp[*,Qir,Qis]<;>rfl)):p:=h
theorem qq_7{p:Prop}(h:p:=by(repeat(first |(with_reducible first|apply Qef|apply Qee|apply Qed)|refine Qdp ?_ (Aside0.out (by assumption)) _));exact Aside0.out (by assumption)):p:=h
theorem qq_8{p:Prop}(h:p:=by(with_reducible repeat(first|apply Kd.R_alloc|apply Kd.R_drewN|apply Kd.R_drew));exact Aside0.out (by assumption)):p:=h
theorem qq_9{p:Prop}(h:p:=by(with_reducible repeat(first|apply Kd.R_alloc|apply Kd.R_drewN|apply Kd.R_drew));exact HO_46.out):p:=h
theorem qq_10{p:Prop}(h:p:=by(with_reducible repeat(first|apply Kd.R_alloc|apply Kd.R_drewN|apply Kd.R_drew));exact HO_8.out):p:=h
theorem qq_11{p:Prop}(h:p:=by(with_reducible repeat(first|apply Kd.R_alloc|apply Kd.R_drewN|apply Kd.R_drew));exact HO_10.out):p:=h
theorem qq_12{p:Prop}(h:p:=by(with_reducible repeat(first|apply Kd.R_alloc|apply Kd.R_drewN|apply Kd.R_drew));exact(Kd.R_mono (Kd.R_far (p:=⟨gb318,4,none⟩) (Kd.R_far (p:=⟨gb318,3,none⟩) (Kd.R_far (p:=⟨gb318,2,none⟩) (Kd.R_far (p:=⟨gb318,1,none⟩) (Kd.R_far (p:=⟨gb318,0,none⟩) (Kd.R_types HO_9.out BK318.out (by decide)) (fun _ hk=>hk.2) (.int .u8 t312)) (fun _ hk=>hk.2) (.int .u32 t313)) (fun _ hk=>hk.2) (.int .u32 t314)) (fun _ hk=>hk.2) (.int .i64 t315)) (fun _ hk=>hk.2) (.int .i64 t316)) (fun _ h_=>h_.1))):p:=h
theorem qq_13{p:Prop}(h:p:=by(with_reducible repeat(first|apply Kd.R_alloc|apply Kd.R_drewN|apply Kd.R_drew));exact(Kd.R_mono (Kd.R_far (p:=⟨gb302,4,none⟩) (Kd.R_far (p:=⟨gb302,3,none⟩) (Kd.R_far (p:=⟨gb302,2,none⟩) (Kd.R_far (p:=⟨gb302,1,none⟩) (Kd.R_far (p:=⟨gb302,0,none⟩) (Kd.R_types HO_9.out BK302.out (by decide)) (fun _ hk=>hk.2) (.int .u8 t296)) (fun _ hk=>hk.2) (.int .u32 t297)) (fun _ hk=>hk.2) (.int .u32 t298)) (fun _ hk=>hk.2) (.int .i64 t299)) (fun _ hk=>hk.2) (.int .i64 t300)) (fun _ h_=>h_.1))):p:=h
theorem qq_14{p:Prop}(h:p:=by(with_reducible repeat(first|apply Kd.R_alloc|apply Kd.R_drewN|apply Kd.R_drew));exact HO371.out):p:=h
theorem qq_15{p:Prop}(h:p:=by(with_reducible repeat(first|apply Kd.R_alloc|apply Kd.R_drewN|apply Kd.R_drew));exact HO_9.out):p:=h
theorem qq_16{p:Prop}(h:p:=by first |(go_simp;done) |(go_simp;rfl)):p:=h
theorem qq_17{p:Prop}(h:p:=by(with_reducible repeat(first|apply Kd.R_alloc|apply Kd.R_drewN|apply Kd.R_drew));exact HO_4.out):p:=h
theorem qq_18{p:Prop}(h:p:=by(with_reducible repeat(first|apply Kd.V_alloc|apply Kd.V_drewN|apply Kd.V_drew));exact HO_5.out):p:=h
theorem qq_19{p:Prop}(h:p:=by(with_reducible repeat(first|apply Kd.V_alloc|apply Kd.V_drewN|apply Kd.V_drew));exact HO_0.out):p:=h
theorem qq_20{p:Prop}(h:p:=by(with_reducible repeat(first|apply Kd.R_alloc|apply Kd.R_drewN|apply Kd.R_drew));exact HO_25.out):p:=h
theorem qq_21{p:Prop}(h:p:=by(with_reducible repeat(first|apply Kd.R_alloc|apply Kd.R_drewN|apply Kd.R_drew));exact HO614.out):p:=h
theorem qq_22{p:Prop}(h:p:=by(with_reducible repeat(first|apply Kd.R_alloc|apply Kd.R_drewN|apply Kd.R_drew));exact HO_7.out):p:=h
theorem qq_23{p:Prop}(h:p:=by(with_reducible repeat(first|apply Kd.R_alloc|apply Kd.R_drewN|apply Kd.R_drew));exact HO_6.out):p:=h
theorem qq_24{p:Prop}(h:p:=by rw[List.length_drop];omega):p:=h
theorem qq_25{p:Prop}(h:p:=by(try simp only[List.map_toArray,List.map_cons,List.map_nil]);first|done |(simp only[hji2];rfl)|rfl |(simp only[List.length_drop,List.length_take];rfl)):p:=h
theorem qq_26{p:Prop}(h:p:=by have:=HN.out;omega):p:=h
theorem qq_27{p:Prop}(h:p:=by(with_reducible repeat(first|apply Kd.V_alloc|apply Kd.V_drewN|apply Kd.V_drew));exact HO111.out):p:=h
theorem qq_28{p:Prop}(h:p:=by(with_reducible repeat(first|apply Kd.R_alloc|apply Kd.R_drewN|apply Kd.R_drew));exact HO374.out):p:=h
theorem qq_29{p:Prop}(h:p:=by(with_reducible repeat(first|apply Kd.R_alloc|apply Kd.R_drewN|apply Kd.R_drew));exact HO_5.out):p:=h
theorem qq_30{p:Prop}(h:p:=by simp;omega):p:=h
theorem Qjr(d:Nat)(w:World)(x0 y0:Bool)(x1 y1:Int)(x2 y2:ByteArray)(x3 y3:ByteArray) :
  (Op.equalIn (d+2) 37 (.agg #[.bool x0,.int .u64 x1,.string x2,.string x3]) (.agg #[.bool y0,.int .u64 y1,.string y2,.string y3])).run Tryz.prog w=.ok (x0 == y0 && (x1 == y1 && (x2.toList == y2.toList && (x3.toList == y3.toList)))) w:=by
 refine Qic Tryz.underlying37 qq_4 ?_;refine Qib (by rfl) (by go_simp;rfl) (by go_simp;rfl) (by go_simp) ?_;refine Qib (by rfl) (by go_simp;rfl) (by go_simp;rfl) (by go_simp) ?_;refine Qib (by rfl) (by go_simp;rfl) (by go_simp;rfl) (by go_simp) ?_;exact Qia (by rfl) (by go_simp;rfl) (by go_simp;rfl) (by go_simp)
def Qar.f(l0_0:List (S158))(a0_1:Int)(a1:Int):Option (Int):=if a0_1<0 then(some a1)else(some (mn a1 a0_1))
theorem Qar.calls(g:Option Addr)(j:Nat)(b:List (S158))(a:Int)(a1:Int)(r:Int)(w:World)(hr0_0:Kd.C k158 w g b.length b)(hc0_0:b.length≤j)(h:Qar.f b a a1=some r) :
  Calls Tryz.prog 83 #[.agg #[.slice g b.length j,.int .i64 a],.int .i64 a1] w fun e w'=>e=.returned (.int .i64 r)∧Below w.heap.size w w':=by
 have hu81:=Tryz.underlying81;have u:=QA hr0_0;have v:=QA hc0_0;clear hr0_0 hc0_0;have HB:=QA (Below.refl w.heap.size w);have H:(if a<0 then(some a1)else(some (mn a1 a)))=some r:=h;clear h
 by_cases c3:a<0
 ·rw[if_pos c3]at H;have o:=decide_eq_true c3;clear c3;obtain rfl:=Option.some.inj H
  go_enter Tryz.func83,Tryz.ntmps83
  go_wp2_with (first |((with_reducible refine Qft (N:=2) rfl ?_);refine qq_e 2 #[.slice g b.length j,.int .i64 a] 81 ?_;intro c hg w4 hbox hb;have n_:=qn4 (Qfi qq_b hb) (hbox) (qq_s hg:w.heap.size≤c) (qq_s hg:w.heap.size≤c);clear HB;obtain⟨HB,d,l,m⟩:=n_;clear hb hbox hg;obtain⟨p,q⟩:=qc2 d.out;have y:=Qds d.out))
  go_ret
  exact⟨qq_6,qq_b⟩
 ·rw[if_neg c3]at H;have o:=decide_eq_false c3;clear c3;obtain⟨n,k⟩:∃j_:Int,(mn a1 a)=j_:=⟨_,rfl⟩;replace H:(some n)=some r:=by first |(rw[k]at H;exact H) |(simp only[k]at H ⊢;exact H)
  have x:(if a<a1 then a else a1)=n:=k;obtain rfl:=Option.some.inj H
  go_enter Tryz.func83,Tryz.ntmps83
  go_wp2_with (first |((with_reducible refine Qft (N:=2) rfl ?_);refine qq_e 2 #[.slice g b.length j,.int .i64 a] 81 ?_;intro c hg w7 hbox hb;have n_:=qn4 (Qfi qq_b hb) (hbox) (qq_s hg:w.heap.size≤c) (qq_s hg:w.heap.size≤c);clear HB;obtain⟨HB,d,l,m⟩:=n_;clear hb hbox hg;obtain⟨s,t⟩:=qc2 d.out;have z:=Qds d.out))
  go_ret
  exact⟨by first|rfl |(simp[Qir,Qis]<;>rfl) |(simp only[← k];first|rfl |(simp[Qir,Qis]<;>rfl)) |(simp[*,Qir,Qis]<;>rfl),qq_b⟩
def Qat.l0:Nat→List (S37)→Int→Int→List (S37)→Int→Int→Option (Bool)
 | 0,_,_,_,_,_,_=>none
 | k+1,x0,x1,x2,x9,x10,x11=>if x11<x10 then(if 0≤x11 then(if x11<(x9.length:Int)then(if(((Qiy x9 x11).f2).size:Int) > x2 then(some false)else(if(((Qiy x9 x11).f3).size:Int) > x2 then(some false)else(Qat.l0 k x0 x1 x2 x9 x10 (wrap64 (x11+1)))))else(none))else(none))else(some (decide ((x0.length:Int)≤x1)))
def Qat.f(k:Nat)(l0:List (S37))(a1:Int)(a2:Int):Option (Bool):=Qat.l0 k l0 a1 a2 l0 (l0.length:Int) 0
theorem Qat.calls (k:Nat) (A0:Option Addr) (c0:Nat) (l0:List (S37)) (a1:Int) (a2:Int) (r:Bool) (w:World) (hr0:Kd.C k37 w A0 l0.length l0) (hc0:l0.length≤c0) (h:Qat.f k l0 a1 a2=some r) :
  Calls Tryz.prog 15 #[.slice A0 l0.length c0,.int .i64 a1,.int .i64 a2] w fun e w'=>e=.returned (.bool r)∧Below w.heap.size w w':=by
 have hu37:=Tryz.underlying37;have t:=QA hr0;have Y:=QA hc0;clear hr0 hc0;have HB:=QA (Below.refl w.heap.size w);have H:(Qat.l0 k l0 a1 a2 l0 (l0.length:Int) 0)=some r:=h;clear h;have H':=QA H;clear H
 go_enter Tryz.func15,Tryz.ntmps15
 go_wp2
 go_loopg [11] k (fun kq J w'=>∃(a:Int),J=.int .i64 a∧Aside0 (Qat.l0 kq l0 a1 a2 l0 (l0.length:Int) a=some r)∧Aside0 (kq≤k)∧Aside0 (Below w.heap.size w w'))
 case atStart=>exact⟨(0),qq_5,H',⟨Nat.le_refl _⟩,⟨qq_b⟩⟩
 case round =>
  clear H';obtain⟨a,rfl,HA,HK1,HB⟩:=hrel
  cases gk with
  | zero=>exact absurd HA.out (by simp[Qat.l0])
  | succ k1 =>
   have H:=HA.out;clear HA;simp only[Qat.l0]at H
   by_cases c4:a<(l0.length:Int)
   ·rw [if_pos c4]at H;have v:=decide_eq_true c4;clear c4
    by_cases c5:0≤a
    ·rw [if_pos c5]at H;have U:=decide_eq_true c5;clear c5
     by_cases c6:a<(l0.length:Int)
     ·rw[if_pos c6]at H;have W:=decide_eq_true c6;clear c6
      by_cases c7:(((Qiy l0 a).f2).size:Int) > a2
      ·rw[if_pos c7]at H;have x:decide (a2<(((Qiy l0 a).f2).size:Int))=true:=decide_eq_true c7;clear c7;obtain rfl:=Option.some.inj H;have j:0≤(a:Int):=of_decide_eq_true qq_2;have l:a<(l0.length:Int):=of_decide_eq_true qq_2;obtain⟨p,o,b,c,d,g⟩:=Qiz t.out a j l
       cases o
       replace b:=qq_h HB.out b;replace c:=qq_h HB.out c;replace d:=qq_h HB.out d;replace g:=qq_h HB.out g;replace j:=eq_true j;replace l:=eq_true l
       go_wp2_with (first |((with_reducible refine Qft (N:=8) rfl ?_);(try(refine Qid (by rfl) ?_;dsimp only));refine qq_e 8 #[.bool false,.int .u64 0,.string (⟨#[]⟩:ByteArray),.string (⟨#[]⟩:ByteArray)] 37 ?_;intro m hg w8 hbox hb;have n_:=qn4 (Qfi qq_b hb) (hbox) (qq_s hg:w.heap.size≤m) (qq_s hg:w.heap.size≤m);clear HB;obtain⟨HB,n,q,s⟩:=n_;clear hb hbox hg;obtain⟨K,L,M,O⟩:=qc4 n.out;have X:=Qds n.out))
       go_ret
       exact⟨qq_6,qq_b⟩
      ·rw[if_neg c7]at H;have x:decide (a2<(((Qiy l0 a).f2).size:Int))=false:=decide_eq_false c7;clear c7
       by_cases c10:(((Qiy l0 a).f3).size:Int) > a2
       ·rw[if_pos c10]at H;have u:decide (a2<(((Qiy l0 a).f3).size:Int))=true:=decide_eq_true c10;clear c10;obtain rfl:=Option.some.inj H;have j:0≤(a:Int):=of_decide_eq_true qq_2;have l:a<(l0.length:Int):=of_decide_eq_true qq_2;obtain⟨p,o,b,c,d,g⟩:=Qiz t.out a j l
        cases o
        replace b:=qq_h HB.out b;replace c:=qq_h HB.out c;replace d:=qq_h HB.out d;replace g:=qq_h HB.out g;replace j:=eq_true j;replace l:=eq_true l
        go_wp2_with (first |((with_reducible refine Qft (N:=8) rfl ?_);(try(refine Qid (by rfl) ?_;dsimp only));refine qq_e 8 #[.bool false,.int .u64 0,.string (⟨#[]⟩:ByteArray),.string (⟨#[]⟩:ByteArray)] 37 ?_;intro m hg Z hbox hb;have n_:=qn4 (Qfi qq_b hb) (hbox) (qq_s hg:w.heap.size≤m) (qq_s hg:w.heap.size≤m);clear HB;obtain⟨HB,n,q,s⟩:=n_;clear hb hbox hg;obtain⟨y,z,A,B⟩:=qc4 n.out;have P:=Qds n.out))
        go_ret
        exact⟨qq_6,qq_b⟩
       ·rw[if_neg c10]at H;have u:decide (a2<(((Qiy l0 a).f3).size:Int))=false:=decide_eq_false c10;clear c10;have H':=QA H;clear H;have j:0≤(a:Int):=of_decide_eq_true qq_2;have l:a<(l0.length:Int):=of_decide_eq_true qq_2;obtain⟨p,o,b,c,d,g⟩:=Qiz t.out a j l
        cases o
        replace b:=qq_h HB.out b;replace c:=qq_h HB.out c;replace d:=qq_h HB.out d;replace g:=qq_h HB.out g;replace j:=eq_true j;replace l:=eq_true l
        go_wp2_with (first |((with_reducible refine Qft (N:=8) rfl ?_);(try(refine Qid (by rfl) ?_;dsimp only));refine qq_e 8 #[.bool false,.int .u64 0,.string (⟨#[]⟩:ByteArray),.string (⟨#[]⟩:ByteArray)] 37 ?_;intro m hg aa hbox hb;have n_:=qn4 (Qfi qq_b hb) (hbox) (qq_s hg:w.heap.size≤m) (qq_s hg:w.heap.size≤m);clear HB;obtain⟨HB,n,q,s⟩:=n_;clear hb hbox hg;obtain⟨D,E,G,I⟩:=qc4 n.out;have T:=Qds n.out))
        go_roundg k1
        case measure=>have:=HK1.out;omega
        case rel=>exact⟨(wrap64 (a+1)),qq_5,H',⟨by have:=HK1.out;omega⟩,⟨qq_b⟩⟩
     ·rw[if_neg c6]at H;exact absurd H (by simp)
    ·rw[if_neg c5]at H;exact absurd H (by simp)
   ·rw[if_neg c4]at H;have v:=decide_eq_false c4;clear c4;obtain rfl:=Option.some.inj H;go_wp2;go_ret
    exact⟨qq_6,qq_b⟩
end Go.Proofs.YteaocbonofboeaaGreat.C
end
