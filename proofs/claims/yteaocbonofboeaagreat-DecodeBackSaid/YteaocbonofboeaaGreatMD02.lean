/- Merged texts. -/
import Derived.Test.YteaocbonofboeaaGreatMD00
import Derived.Test.YteaocbonofboeaaGreatMD01
import Derived.Test.YteaocbonofboeaaGreatProg
import Derived.Below
import Derived.Deep.Draws
import Derived.Deep.AppendLies
import Derived.Maps.AppendAt
import Derived.OwnWalk
import Derived.Laws.BytesArg
import Derived.Laws.MakeOwn
import Derived.Laws.OwnMore
import Derived.Deep.OwnRows
import Derived.Tactics
import Derived.Lib.ConvBytes
import Derived.Laws.Slices
import Derived.WalkKit
import Derived.KernelRfl
import Derived.RowKit3
import Derived.Deep.LoopGhost
import Derived.Deep.QuietTactic
import Derived.BigQuiet
import Derived.WideLaws
import Derived.Deep.DeepCutAuto
import Derived.Deep.CutBlock
import Derived.Deep.RegionHeld3
import Derived.Laws.Rows
import Derived.Lib.AppendStr
import Derived.ArgAppend
import Derived.Laws.IdiomCopy
import Derived.OrdersHeld
import Derived.Laws.BitsLemmas
import Derived.RowKit
set_option linter.unusedVariables false
set_option linter.unusedSimpArgs false
set_option maxHeartbeats 8000000
set_option maxRecDepth 100000
section
namespace Go.Proofs.YteaocbonofboeaaGreatW.PrintWords
open Go.RowKit
namespace Kd
def tag{α:Type}(f:Nat→Nat)(d:Kd α):Kd (α × Nat) where
  sz:=d.sz
  E:=d.E
  K:=fun w x cs=>d.K w x.1 cs
  M:=fun w base ok x cs=>d.M w base (fun k=>ok k∧f k=x.2) x.1 cs
  K_len:=fun h=>d.K_len h
  K_one:=fun h=>d.K_one h
  K_below:=fun hb h=>d.K_below hb h
  K_of_M:=fun h=>d.K_of_M h
  M_mono:=fun hok h=>d.M_mono (fun k hk=>⟨hok k hk.1,hk.2⟩) h
  M_bound:=fun h=>d.M_mono (fun _ hk=>⟨⟨hk.1.1,hk.2⟩,hk.1.2⟩) (d.M_bound h)
  M_move:=fun hm h=>d.M_move (fun k hk=>hm k hk.1) h
  M_lower:=fun hb h=>d.M_lower hb h
def raw(sz:Nat):Kd (List Value) where
  sz:=sz
  E:=[]
  K:=fun _ x cs=>cs=x∧cs.length=sz∧∀u∈cs,u.oneCell'=true
  M:=fun _ _ _ x cs=>cs=x∧cs.length=sz∧∀u∈cs,u.oneCell'=true
  K_len:=fun h=>h.2.1
  K_one:=fun h=>h.2.2
  K_below:=fun _ h=>h
  K_of_M:=fun h=>h
  M_mono:=fun _ h=>h
  M_bound:=fun h=>h
  M_move:=fun _ h=>h
  M_lower:=fun _ h=>h
def S{α:Type}(d:Kd α)(e:Nat)(w:World)(base:Nat)(ok:Nat→Prop)(v:Value)(xs:List α):Prop:=∃f,(tag f d).R e w base ok v xs.zipIdx
section
variable {α β:Type} {d:Kd α} {d':Kd β} {e e':Nat} {w w1 W:World} {base b:Nat} {ok ok' okv oku:Nat→Prop} {u v:Value} {xs:List α} {ys:List β}
theorem zip_at{xs:List α}{j:Nat}{p:α}(h:xs[j]? = some p):xs.zipIdx[j]? = some (p,j):=by rw[List.getElem?_zipIdx,h,Nat.zero_add];rfl
theorem S_R(h:S d e w base ok v xs):d.R e w base ok v xs:=by
  obtain⟨f,h0,inner,ho,hr⟩:=h
  rw[List.length_zipIdx]at ho
  exact⟨h0,inner,ho,by have:=hr.1;rw[List.length_zipIdx]at this;exact this,fun j p hj=>d.M_mono (fun _ hk=>hk.1) (hr.2 j (p,j) (zip_at hj))⟩
theorem R_head{ad:Addr}{n cap:Nat}(h:d.R e w base ok (.slice (some ad) n cap) xs):∃g,ad=⟨g,0,none⟩:=by
  obtain⟨_,inner,ho,hr⟩:=h
  rcases ho.2 with⟨hv,_⟩ |⟨g,cap',cur,hv,_⟩
  · cases hv
  · injection hv with ha _ _
    injection ha with ha
    exact⟨g,ha⟩
theorem R_getA{ad:Addr}{n cap:Nat}(h:d.R e W base ok (.slice (some ad) n cap) xs)(z:α)(i:Int)(h0:0≤i)(h1:i<n) :
    ∃c,c.length=d.sz∧d.M W base (fun k=>ok k∧some k≠(Value.slice (some ad) n cap).ownBlock) (xs.getD i.toNat z) c∧∀j u,c[j]? = some u→W.cell? (ad.add (i.toNat*d.sz+j))=some u:=by
  obtain⟨g,rfl⟩:=R_head h
  obtain⟨c,hcl,hM,hcc,_⟩:=R_elem h z i h0 h1
  refine⟨c,hcl,d.M_mono (fun k hk=>⟨hk.1,fun he=>hk.2 (by simpa [Value.ownBlock]using he)⟩) hM,fun j u hu=>?_⟩
  rw[Qef,Nat.zero_add]
  exact hcc j u hu
theorem R_tight(hE:d.E=[])(h:d.R e w base ok v xs):d.R e w base (fun k=>some k=v.ownBlock) v xs:=by
  obtain⟨h0,inner,ho,hr⟩:=h
  refine⟨fun k hk=>hk.symm,inner,ho,hr.imp_ (fun p c hp=>d.M_mono (fun k hk=>?_) (d.M_bound hp))⟩
  obtain⟨_,_,_,q,hq,_⟩:=hk
  rw[hE]at hq
  cases hq
theorem S_nil(d:Kd α)(e:Nat)(w:World)(base:Nat)(ok:Nat→Prop):S d e w base ok (.slice none 0 0) []:=⟨fun _=>0,R_nil _ _ _ _ _⟩
theorem S_mono(h:S d e w base ok v xs)(hok:∀k,ok k→ok' k):S d e w base ok' v xs:=by
  obtain⟨f,h⟩:=h
  exact⟨f,R_mono h hok⟩
theorem Qhb(h:S d e w base ok v xs):S d e w base (fun k=>ok k∧base≤k∧k<w.heap.size∧∃q,q∈e :: d.E∧∃cells,w.heap[k]? = some (.cells cells q (0,0))) v xs:=by
  obtain⟨f,h⟩:=h
  exact⟨f,R_bound h⟩
theorem S_move(h:S d e w base ok v xs)(hm:∀k,ok k→w1.heap[k]? = w.heap[k]?):S d e w1 base ok v xs:=by
  obtain⟨f,h⟩:=h
  exact⟨f,Qdu h hm⟩
theorem S_lower{base':Nat}(h:S d e w base ok v xs)(hb:base'≤base):S d e w base' ok v xs:=by
  obtain⟨f,h⟩:=h
  exact⟨f,R_lower h hb⟩
theorem Qhc(h:S d e w base ok v xs)(hm:∀k,ok k→k<w.heap.size→w1.heap[k]? = w.heap[k]?):S d e w1 base ok v xs :=
  S_mono (S_move (Qhb h) (fun k hk=>hm k hk.1 hk.2.2.1)) (fun _ hk=>hk.1)
theorem S_below(h:S d e w base ok v xs)(hb:Below w.heap.size w w1):S d e w1 base ok v xs:=Qhc h (fun k _ hk=>hb.block k hk)
theorem S_drew(h:S d e w base ok v xs):S d e w.drew base ok v xs:=S_below h (Qcf (Below.refl _ _))
theorem S_far(h:S d e w base ok v xs){p:Addr}(hok:∀k,ok k→k≠p.block)(u:Value):S d e (w.setCell p u) base ok v xs:=Qhc h (fun k ho _=>Below.heap_setCell w p u k (hok k ho))
theorem S_typed(h:S d e w base ok v xs):∀k,v.ownBlock=some k→∃cells,w.heap[k]? = some (.cells cells e (0,0)):=R_typed (S_R h)
theorem S_after{v1:Value}(h:S d e W base (fun k=>ok k∧some k≠v.ownBlock) u xs)(hg:W.grownBy w1 v.ownBlock)(hat:v1.ownBlock=v.ownBlock∨∃b,v1.ownBlock=some b∧W.heap.size≤b):S d e w1 base (fun k=>ok k∧some k≠v1.ownBlock) u xs:=by
  obtain⟨f,h⟩:=h
  exact⟨f,R_after h hg hat⟩
theorem S_old(h:S d e W base ok u xs)(hb:Below W.heap.size W w1):S d e w1 base (fun k=>ok k∧k<W.heap.size) u xs :=
  S_mono (S_below (Qhb h) hb) (fun _ hk=>⟨hk.1,hk.2.2.1⟩)
theorem R_tag{f f':Nat→Nat}{zs:List (α × Nat)}(h:(tag f d).R e w base ok v zs)(hf:∀k,ok k→k<w.heap.size→f' k=f k):(tag f' d).R e w base ok v zs:=by
  obtain⟨h0,inner,ho,hr⟩:=R_bound h
  exact⟨fun k hk=>(h0 k hk).1,inner,ho,hr.1,fun j p hj=>d.M_mono (fun k hk=>⟨⟨hk.1.1.1,hk.1.2⟩,(hf k hk.1.1.1 hk.1.1.2.2.1).trans hk.2⟩) (hr.2 j p hj)⟩
end
section
variable {α β:Type} {d:Kd α} {d':Kd β} {e e' g:Nat} {w w1 W:World} {base b:Nat} {ok ok' okv oku:Nat→Prop} {u v:Value} {xs:List α} {ys:List β}
theorem S_ne(h:S d e w base ok v xs){t:Nat}{cells:Array Value}(hb:w.heap[g]? = some (.cells cells t (0,0)))(ht:e≠t):some g≠v.ownBlock:=R_ne (S_R h) hb ht
theorem S_away(h:S d e w base ok v xs)(hok:∀k,ok k→k≠g):some g≠v.ownBlock:=R_away (S_R h) hok
theorem S_slice(h:S d e w base ok v xs):∃A c,v=.slice A xs.length c:=R_slice (S_R h)
theorem S_reads'{A:Option Addr}{n c:Nat}(h:S d e w base ok (.slice A n c) xs):n=xs.length∧n≤c∧d.C w A xs.length xs:=R_reads' (S_R h)
theorem S_get{ad:Addr}{n cap:Nat}(h:S d e W base ok (.slice (some ad) n cap) xs)(z:α)(i:Int)(h0:0≤i)(h1:i<n) :
    ∃c,c.length=d.sz∧d.M W base (fun k=>ok k∧some k≠(Value.slice (some ad) n cap).ownBlock) (xs.getD i.toNat z) c∧∀j u,c[j]? = some u→W.cell? (ad.add (i.toNat*d.sz+j))=some u:=R_getA (S_R h) z i h0 h1
theorem S_elderB(h:S d e w base ok v xs)(a:Nat)(ha:w.heap.size≤a):S d e w base (fun k=>ok k∧k≠a) v xs:=S_mono (Qhb h) (fun k hk=>⟨hk.1,by have:=hk.2.2.1;omega⟩)
theorem S_told{N:Nat}(h:S d e w1 base (fun k=>ok k∧k<N) u xs)(hbase:∀k,v.ownBlock=some k→N≤k):S d e w1 base (fun k=>(ok k∧some k≠v.ownBlock)∧k<N) u xs :=
  S_mono h (fun k hk=>⟨⟨hk.1,fun e=>Nat.lt_irrefl _ (Nat.lt_of_lt_of_le hk.2 (hbase k e.symm))⟩,hk.2⟩)
theorem Qhd(xs:List α)(p:α):(xs++[p]).zipIdx=xs.zipIdx++[(p,xs.length)]:=by rw[List.zipIdx_append];simp
end
section
open Classical in
theorem S_tag{α:Type}{d:Kd α}{e base:Nat}{okv:Nat→Prop}{w:World}{v:Value}{xs:List α}(h:S d e w base okv v xs)(m:Nat)(okp:Nat→Prop)(hap:∀k,okp k→¬okv k):∃f,(∀k,okp k→f k=m)∧(tag f d).R e w base okv v xs.zipIdx:=by
  obtain⟨f,h⟩:=h
  exact⟨fun k=>if okp k then m else f k,fun k hk=>if_pos hk,R_tag h (fun k hk _=>if_neg (fun h2=>hap k h2 hk))⟩
variable {P:Program} {ops:Array Oper} {rest:List Oper} {o:Oper} {a:Act} {Q:Exit→Act→World→Prop} {Kc:Act→World→Prop} {α:Type}
theorem S_append(d:Kd α){w0 W:World}(base:Nat)(hgd:o.guard=none)(s x:Operand)(t e:TypeId)(z:Value)(bytes:Nat)
    (ho:o.op=.call { callee:=.builtin .append,args:=#[s,x],argTypes:=#[t,t] })
    (ht:P.underlying t=some (.slice e)) (hinfo:(P.info? e).map (fun i=>(i.zero,i.size,i.bytes))=some (some z,d.sz,bytes)) (hz:z.cells.size=d.sz) (hs0:0<d.sz) (hb0:0<bytes)
    (v:Value) (xs:List α) (p:α) (cs:List Value) (ok okp:Nat→Prop) (hs:a.eval s=v) (hx:a.eval x=.slice (some ⟨W.heap.size,0,none⟩) 1 1) (hp:d.M W base okp p cs) (hokp:∀k,okp k→ok k∧some k≠v.ownBlock) (hfresh:∀k,W.heap.size≤k→ok k)
    (HO:S d e W base (fun k=>ok k∧¬okp k) v xs) (HB:Below base w0 W) (hbase:base≤W.heap.size) (hl:(xs.length+1)*bytes≤140737488355328)
    (h:∀v1 w1,S d e w1 base ok v1 (xs++[p])→Below base w0 w1→W.grownBy w1 v.ownBlock→(v1.ownBlock=v.ownBlock∨∃b,v1.ownBlock=some b∧W.heap.size≤b)→wpList P ops Q rest (a.put o.dst v1) w1) :
    wpList P ops Q (o :: rest) a (W.alloc (.cells cs.toArray e)):=by
  obtain⟨f,hf,hR⟩:=S_tag HO xs.length okp (fun _ hk h2=>h2.2 hk)
  refine R_append (tag f d) base hgd s x t e z bytes ho ht hinfo hz hs0 hb0 v xs.zipIdx (p,xs.length) cs ok okp hs hx (d.M_mono (fun k hk=>⟨hk,hf k hk⟩) hp) hokp hfresh (R_mono hR (fun _ hk=>hk.1)) HB hbase (by rw[List.length_zipIdx];exact hl) ?_
  intro v1 w1 hr
  rw[← Qhd]at hr
  exact h v1 w1 ⟨f,hr⟩
end
def gap {α:Type} (f:Nat→Nat) (d:Kd α) (i:Nat) (c:List Value):Kd (α × Nat) where
  sz:=d.sz
  E:=d.E
  K:=fun w x cs=>(x.2=i→cs=c∧cs.length=d.sz∧∀u∈cs,u.oneCell'=true)∧(x.2≠i→d.K w x.1 cs)
  M:=fun w base ok x cs=>(x.2=i→cs=c∧cs.length=d.sz∧∀u∈cs,u.oneCell'=true)∧(x.2≠i→d.M w base (fun k=>ok k∧f k=x.2) x.1 cs)
  K_len:=fun {w x cs} h=>by
    by_cases hx:x.2=i
    · exact(h.1 hx).2.1
    · exact d.K_len (h.2 hx)
  K_one:=fun {w x cs} h=>by
    by_cases hx:x.2=i
    · exact(h.1 hx).2.2
    · exact d.K_one (h.2 hx)
  K_below:=fun hb h=>⟨h.1,fun hx=>d.K_below hb (h.2 hx)⟩
  K_of_M:=fun h=>⟨h.1,fun hx=>d.K_of_M (h.2 hx)⟩
  M_mono:=fun hok h=>⟨h.1,fun hx=>d.M_mono (fun k hk=>⟨hok k hk.1,hk.2⟩) (h.2 hx)⟩
  M_bound:=fun h=>⟨h.1,fun hx=>d.M_mono (fun _ hk=>⟨⟨hk.1.1,hk.2⟩,hk.1.2⟩) (d.M_bound (h.2 hx))⟩
  M_move:=fun hm h=>⟨h.1,fun hx=>d.M_move (fun k hk=>hm k hk.1) (h.2 hx)⟩
  M_lower:=fun hb h=>⟨h.1,fun hx=>d.M_lower hb (h.2 hx)⟩
def H{α:Type}(d:Kd α)(e:Nat)(w:World)(base:Nat)(ok:Nat→Prop)(v:Value)(xs:List α)(i:Int)(oki:Nat→Prop)(c:List Value):Prop :=
  (∀k,oki k→ok k)∧∃f,(gap f d i.toNat c).R e w base (fun k=>ok k∧¬oki k) v xs.zipIdx
section
variable {α β:Type} {d:Kd α} {e e' g n cap:Nat} {w w1 W:World} {base:Nat} {ok ok' oki okp:Nat→Prop} {u v:Value} {xs:List α} {i:Int} {c:List Value}
open Classical in
end
section
variable {P:Program} {ops:Array Oper} {rest:List Oper} {o:Oper} {a:Act} {Q:Exit→Act→World→Prop} {α:Type}
end
section
variable {α:Type} {n:Nat} {d:Kd α} {hs:0<d.sz} {w:World} {base:Nat} {ok:Nat→Prop} {xs:List α} {cs:List Value}
end
section
variable {α:Type} {n:Nat} {enc:α→Value} {h1:∀x,(enc x).oneCell'=true} {hs:0<(scalar enc h1).sz} {w:World} {base:Nat} {ok:Nat→Prop} {xs:List α} {cs:List Value}
end
structure Heap {α:Type} (d:Kd α):Prop where
  K:∀ {w w1:World} {x:α} {cs:List Value},(∀k,k<w.heap.size→w1.heap[k]? = w.heap[k]?)→d.K w x cs→d.K w1 x cs
section
variable {α:Type} {d:Kd α} {e base g n c:Nat} {ok:Nat→Prop} {w w0 W:World} {A:Option Addr} {xs:List α}
end
end Kd
end Go.Proofs.YteaocbonofboeaaGreatW.PrintWords
end
section
namespace Go.Proofs.YteaocbonofboeaaGreatW.PrintWords
open Go.RowKit
section
variable {P:Program}
end
namespace Kd
section
variable {P:Program} {ops:Array Oper} {rest:List Oper} {o:Oper} {a:Act} {Q:Exit→Act→World→Prop} {Kc:Act→World→Prop} {α:Type}
end
section
variable {α:Type} {d:Kd α} {e:Nat} {w:World} {base:Nat} {ok:Nat→Prop} {v:Value} {xs:List α}
end
section
variable {P:Program} {ops:Array Oper} {rest:List Oper} {o:Oper} {a:Act} {Q:Exit→Act→World→Prop} {Kc:Act→World→Prop} {α:Type}
end
end Kd
section
variable {w W W2:World} {S S2 S':Nat→Prop}
end
namespace Kd
section
variable {α:Type} {d:Kd α} {e base n c:Nat} {ok oki S S2:Nat→Prop} {w w0 W W1 W2:World} {v:Value} {A:Option Addr} {xs:List α} {i:Int} {cs:List Value}
end
end Kd
def Foot(P:World→Prop)(W:World)(ok:Nat→Prop):Prop:=∀W':World,(∀k,ok k→k<W.heap.size→W'.heap[k]? = W.heap[k]?)→P W'
theorem Qhe{W W1:World}{k:Nat}(h:W1.heap[k]? = W.heap[k]?)(hlt:k<W.heap.size):k<W1.heap.size:=by
  rw[Array.getElem?_eq_getElem hlt]at h
  exact(Array.getElem?_eq_some_iff.1 h).1
namespace Foot
variable {P Q:World→Prop} {W W1:World} {ok ok':Nat→Prop}
theorem now(h:Foot P W ok):P W:=h W (fun _ _ _=>rfl)
theorem mono(h:Foot P W ok)(hok:∀k,ok k→ok' k):Foot P W ok':=fun W' hW=>h W' (fun k hk hlt=>hW k (hok k hk) hlt)
theorem bound(h:Foot P W ok):Foot P W (fun k=>ok k∧k<W.heap.size):=fun W' hW=>h W' (fun k hk hlt=>hW k ⟨hk,hlt⟩ hlt)
theorem step(h:Foot P W ok)(hm:∀k,ok k→k<W.heap.size→W1.heap[k]? = W.heap[k]?):Foot P W1 ok:=fun W' hW=>h W' (fun k hk hlt=>(hW k hk (Qhe (hm k hk hlt) hlt)).trans (hm k hk hlt))
theorem imp(h:Foot P W ok)(hi:∀W',P W'→Q W'):Foot Q W ok:=fun W' hW=>hi W' (h W' hW)
theorem old(h:Foot P W ok)(hb:Below W.heap.size W W1):Foot P W1 (fun k=>ok k∧k<W.heap.size):=(h.bound).step (fun k _ hlt=>hb.block k hlt)
end Foot
namespace Kd
def F{α:Type}(d:Kd α)(W:World)(ok:Nat→Prop)(A:Option Addr)(n:Nat)(xs:List α):Prop:=Foot (fun W=>d.C W A n xs) W ok
def FK{α:Type}(d:Kd α)(W:World)(ok:Nat→Prop)(x:α)(c:List Value):Prop:=Foot (fun W=>d.K W x c) W ok
section
variable {α β:Type} {d:Kd α} {e base n n' cc g N:Nat} {ok ok' okp S:Nat→Prop} {w w0 w1 W W1:World} {A A':Option Addr} {u v v1:Value} {xs:List α} {xs':List β} {d':Kd β} {x:α} {c:List Value}
theorem F_now(h:F d W ok A n xs):d.C W A n xs:=Foot.now h
theorem Qhf(h:F d W ok A n xs)(hok:∀k,ok k→ok' k):F d W ok' A n xs:=Foot.mono h hok
theorem F_bound(h:F d W ok A n xs):F d W (fun k=>ok k∧k<W.heap.size) A n xs:=Foot.bound h
theorem F_step(h:F d W ok A n xs)(hm:∀k,ok k→k<W.heap.size→W1.heap[k]? = W.heap[k]?):F d W1 ok A n xs:=Foot.step h hm
theorem F_imp(h:F d W ok A n xs)(hi:∀W',d.C W' A n xs→d'.C W' A' n' xs'):F d' W ok A' n' xs':=Foot.imp h hi
theorem F_below(h:F d W ok A n xs)(hb:Below W.heap.size W W1):F d W1 ok A n xs:=F_step h (fun k _ hlt=>hb.block k hlt)
theorem F_drewN(h:F d W ok A n xs)(m:Nat):F d (W.drewN m) ok A n xs:=F_below h (Qcg (Below.refl _ _) m)
theorem Qhg(h:F d W ok A n xs)(hbase:∀k,v.ownBlock=some k→W.heap.size≤k)(hb:Below W.heap.size W W1):F d W1 (fun k=>ok k∧some k≠v.ownBlock) A n xs :=
  Qhf (Foot.old h hb) (fun k hk=>⟨hk.1,fun he=>by have:=hbase k he.symm;have:=hk.2;omega⟩)
theorem F_after(h:F d W (fun k=>ok k∧some k≠v.ownBlock) A n xs)(hg:W.grownBy W1 v.ownBlock)(hat:v1.ownBlock=v.ownBlock∨∃b,v1.ownBlock=some b∧W.heap.size≤b):F d W1 (fun k=>ok k∧some k≠v1.ownBlock) A n xs:=by
  refine Qhf (Foot.step (F_bound h) (fun k hk hlt=>hg.block k hlt hk.1.2)) (fun k hk=>⟨hk.1.1,?_⟩)
  rcases hat with hat |⟨b,hb,hle⟩
  · rw[hat];exact hk.1.2
  · rw[hb]
    intro he
    injection he with he
    have:=hk.2
    omega
end
end Kd
end Go.Proofs.YteaocbonofboeaaGreatW.PrintWords
end
section
namespace Go.Proofs.YteaocbonofboeaaGreatW.PrintWords
open Go.RowKit
namespace Kd
section
variable {α:Type} {d:Kd α} {e base n cc g:Nat} {ok ok' okp S:Nat→Prop} {w w1 W W1:World} {A:Option Addr} {u v v1:Value} {xs:List α} {x:α} {c:List Value}
def N{α:Type}(d:Kd α)(e:Nat)(w:World)(base:Nat)(ok:Nat→Prop)(v:Value)(xs:List α):Prop :=
  (∀k,v.ownBlock=some k→ok k)∧∃rows:List (List Value),rows.length=xs.length∧(raw d.sz).R e w base (fun k=>some k=v.ownBlock) v rows∧∀(j:Nat) (x:α) (c:List Value),xs[j]? = some x→rows[j]? = some c→FK d w (fun k=>ok k∧some k≠v.ownBlock) x c
end
section
variable {α:Type} {d:Kd α} {W:World} {g n:Nat} {S ok:Nat→Prop} {A:Option Addr} {ad:Addr} {xs:List α}
end
section
variable {α:Type} {d:Kd α} {e base n cap g:Nat} {ok ok' okp:Nat→Prop} {w w1 W:World} {v v1:Value} {xs ys:List α}
end
section
variable {P:Program} {ops:Array Oper} {rest:List Oper} {o:Oper} {a:Act} {Q:Exit→Act→World→Prop} {Kc:Act→World→Prop} {α:Type}
end
end Kd
end Go.Proofs.YteaocbonofboeaaGreatW.PrintWords
end
section
namespace Go.Proofs.YteaocbonofboeaaGreatW.PrintWords
open Go.RowKit
section
variable {w w' u:World} {m B g:Nat} {o:Obj} {row:Option Nat} {S:Nat→Prop} {a:Addr} {v:Value}
end
namespace Kd
section
variable {α:Type} {d:Kd α} {e base n m:Nat} {ok:Nat→Prop} {w w':World} {v:Value} {A:Option Addr} {xs:List α}
end
end Kd
end Go.Proofs.YteaocbonofboeaaGreatW.PrintWords
end
section
namespace Go.Proofs.YteaocbonofboeaaGreatW.PrintWords
theorem Reps.one{α:Type}{R:α→List Value→Prop}{ps:List α}{cs:List Value}{p:α}{v:Value}(hp:R p [v])(h:Reps R 1 ps cs):Reps R 1 (p :: ps) (v :: cs):=by
  refine⟨by simp[h.1],fun j q hq=>?_⟩
  cases j with
  | zero =>
    simp only[List.getElem?_cons_zero,Option.some.injEq]at hq
    subst hq
    simpa using hp
  | succ j =>
    simp only[List.getElem?_cons_succ]at hq
    have h1:=h.2 j q hq
    simpa [Nat.mul_one]using h1
end Go.Proofs.YteaocbonofboeaaGreatW.PrintWords
end
section
namespace Go.Proofs.YteaocbonofboeaaGreatW.PrintWords
open Go.RowKit
end Go.Proofs.YteaocbonofboeaaGreatW.PrintWords
namespace Go.Proofs.YteaocbonofboeaaGreatW.PrintLast
section
variable {ops:Array Oper} {a:Act} {o og:Oper} {g:Nat} {t:Tmp} {u:Bool}
end
end Go.Proofs.YteaocbonofboeaaGreatW.PrintLast
end
section
namespace Go.Proofs.YteaocbonofboeaaGreatW.PrintMore
open Go.RowKit Go.Proofs.YteaocbonofboeaaGreatW.PrintWords
namespace Kd
open Go.Proofs.YteaocbonofboeaaGreatW.PrintWords.Kd
end Kd
namespace Kd
open Go.Proofs.YteaocbonofboeaaGreatW.PrintWords.Kd
section
variable {α:Type} {d:Kd α} {e base g N:Nat} {ok:Nat→Prop} {W w1:World} {u v:Value} {xs:List α}
end
end Kd
theorem Qhl(k k':IntKind)(x y:Int):Builtin.max2 (.int k x) (.int k' y)=pure (.int k (if x<y then y else x)):=by simp only[Builtin.max2,gt_iff_lt]
theorem Qhm(k k':IntKind)(x y:Int):Builtin.min2 (.int k x) (.int k' y)=pure (.int k (if y<x then y else x)):=by simp only[Builtin.min2]
theorem Qhn(ats:Array TypeId)(ty:TypeId)(a b:Value):Builtin.max_ ats ty #[a,b]=(Builtin.max2 a b >>= fun s=>pure s):=by simp only[Builtin.max_,List.foldlM_cons,List.foldlM_nil]
theorem Qho(ats:Array TypeId)(ty:TypeId)(a b:Value):Builtin.min_ ats ty #[a,b]=(Builtin.min2 a b >>= fun s=>pure s):=by simp only[Builtin.min_,List.foldlM_cons,List.foldlM_nil]
theorem Qhp(ats:Array TypeId)(ty:TypeId)(a b c:Value):Builtin.max_ ats ty #[a,b,c]=(Builtin.max2 a b >>= fun s=>Builtin.max2 s c >>= fun s=>pure s):=by simp only[Builtin.max_,List.foldlM_cons,List.foldlM_nil]
theorem Qhq(ats:Array TypeId)(ty:TypeId)(a b c:Value):Builtin.min_ ats ty #[a,b,c]=(Builtin.min2 a b >>= fun s=>Builtin.min2 s c >>= fun s=>pure s):=by simp only[Builtin.min_,List.foldlM_cons,List.foldlM_nil]
theorem Qhr(ats:Array TypeId)(ty:TypeId)(a b c d:Value):Builtin.max_ ats ty #[a,b,c,d]=(Builtin.max2 a b >>= fun s=>Builtin.max2 s c >>= fun s=>Builtin.max2 s d >>= fun s=>pure s):=by simp only[Builtin.max_,List.foldlM_cons,List.foldlM_nil]
theorem Qhs(ats:Array TypeId)(ty:TypeId)(a b c d:Value):Builtin.min_ ats ty #[a,b,c,d]=(Builtin.min2 a b >>= fun s=>Builtin.min2 s c >>= fun s=>Builtin.min2 s d >>= fun s=>pure s):=by simp only[Builtin.min_,List.foldlM_cons,List.foldlM_nil]
end Go.Proofs.YteaocbonofboeaaGreatW.PrintMore
namespace Go.Proofs.YteaocbonofboeaaGreatW.PrintWords
open Go.RowKit
section
variable {P:Program} {ops:Array Oper} {rest:List Oper} {o:Oper} {a:Act} {Q:Exit→Act→World→Prop} {W:World}
theorem Qht{f:FuncId}{as_:Array Operand}{ts:Array TypeId}(_ho:o.op=.call { callee:=.value (.func f),args:=as_,argTypes:=ts })(h:wpList P ops Q (o :: rest) a W):wpList P ops Q (o :: rest) a W:=h
theorem Qhu{b:Builtin}{xs:Array Operand}{ts:Array TypeId}(_ho:o.op=.call { callee:=.builtin b,args:=xs,argTypes:=ts })(h:wpList P ops Q (o :: rest) a W):wpList P ops Q (o :: rest) a W:=h
end
def mx(a b:Int):Int:=if a<b then b else a
def shl(k:IntKind)(x y:Int):Int:=k.wrap (x*2^min y.toNat k.bits)
def shr(k:IntKind)(x y:Int):Int:=x/2^min y.toNat k.bits
theorem Qhv{k:IntKind}{x y j:Int}(h:shl k x y=j)(hy:y≤k.bits):k.wrap (x*2^y.toNat)=j:=by rw[← h];unfold shl;rw[Nat.min_eq_left (by omega)]
theorem Qhw{k:IntKind}{x y j:Int}(h:shr k x y=j)(hy:y≤k.bits):x/2^y.toNat=j:=by rw[← h];unfold shr;rw[Nat.min_eq_left (by omega)]
namespace Kd
section
variable {α:Type} {d:Kd α} {e base:Nat} {ok:Nat→Prop} {W w1:World} {v:Value} {xs:List α}
end
section
variable {α:Type} {d:Kd α} {e base g n cap:Nat} {ok oki okp:Nat→Prop} {W:World} {xs:List α} {i:Int} {c:List Value}
end
section
variable {α:Type} {d:Kd α} {e base b b' g N:Nat} {ok ok1:Nat→Prop} {W W2 w1:World} {u v:Value} {xs ys:List α} {S:Nat→Prop}
end
end Kd
end Go.Proofs.YteaocbonofboeaaGreatW.PrintWords
namespace Go.Proofs.YteaocbonofboeaaGreatW.PrintWords
open Go.RowKit
namespace Kd
def V{α:Type}(d:Kd α)(_e:Nat)(W:World)(_base:Nat)(ok:Nat→Prop)(v:Value)(xs:List α):Prop:=∃A c,v=.slice A xs.length c∧xs.length≤c∧F d W ok A xs.length xs
section
variable {α β:Type} {d:Kd α} {e base base' n m c g N' lo hi:Nat} {ok ok' S:Nat→Prop} {w W w1:World} {A:Option Addr} {ad:Addr} {u v v1:Value} {xs:List α}
theorem Qhx(h:V d e W base ok v xs)(hF:∀A,F d W ok A xs.length xs→F d w1 ok' A xs.length xs):V d e w1 base' ok' v xs:=by
  obtain⟨A,c,hv,hl,hf⟩:=h
  exact⟨A,c,hv,hl,hF A hf⟩
theorem V_mk(hl:xs.length≤c)(hf:F d W ok A xs.length xs):V d e W base ok (.slice A xs.length c) xs:=⟨A,c,rfl,hl,hf⟩
theorem V_slice(h:V d e W base ok v xs):∃A c,v=.slice A xs.length c:=by
  obtain⟨A,c,hv,_⟩:=h
  exact⟨A,c,hv⟩
theorem V_at(h:V d e W base ok (.slice A n c) xs):n=xs.length∧n≤c∧F d W ok A xs.length xs:=by
  obtain⟨A',c',hv,hl,hf⟩:=h
  injection hv with ha hn hc
  subst ha;subst hc
  exact⟨hn,by rw[hn];exact hl,hf⟩
theorem V_reads'(h:V d e W base ok (.slice A n c) xs):n=xs.length∧n≤c∧d.C W A xs.length xs:=⟨(V_at h).1,(V_at h).2.1,F_now (V_at h).2.2⟩
theorem V_mono(h:V d e W base ok v xs)(hok:∀k,ok k→ok' k):V d e W base ok' v xs:=Qhx h (fun _ hf=>Qhf hf hok)
theorem V_drewN(h:V d e W base ok v xs)(m:Nat):V d e (W.drewN m) base ok v xs:=Qhx h (fun _ hf=>F_drewN hf m)
theorem V_after(h:V d e W base (fun k=>ok k∧some k≠u.ownBlock) v xs)(hg:W.grownBy w1 u.ownBlock)(hat:v1.ownBlock=u.ownBlock∨∃b,v1.ownBlock=some b∧W.heap.size≤b):V d e w1 base (fun k=>ok k∧some k≠v1.ownBlock) v xs:=Qhx h (fun _ hf=>F_after hf hg hat)
theorem V_afterv(h:V d e W base (fun k=>ok k∧some k≠v.ownBlock) u xs)(hg:W.grownBy w1 v.ownBlock)(hat:v1.ownBlock=v.ownBlock∨∃b,v1.ownBlock=some b∧W.heap.size≤b):V d e w1 base (fun k=>ok k∧some k≠v1.ownBlock) u xs:=V_after h hg hat
theorem V_elder'(h:V d e W base ok v xs)(hbase:∀k,u.ownBlock=some k→W.heap.size≤k)(hb:Below W.heap.size W w1):V d e w1 base (fun k=>ok k∧some k≠u.ownBlock) v xs:=Qhx h (fun _ hf=>Qhg hf hbase hb)
theorem F_cut(h:F d W ok A xs.length xs)(hm:m≤xs.length)(hc:xs.length≤c):F d W ok (if c=m then A else A.map (·.add (m*d.sz))) (xs.drop m).length (xs.drop m):=F_imp h (fun _ hC=>C_drop hC hm hc)
theorem F_mid(h:F d W ok A xs.length xs)(h1:lo≤hi)(h2:hi≤xs.length)(hc:xs.length≤c):F d W ok (if c=lo then A else A.map (·.add (lo*d.sz))) ((xs.take hi).drop lo).length ((xs.take hi).drop lo):=F_imp h (fun _ hC=>C_mid hC h1 h2 hc)
theorem R_newM{M:Nat→Prop}(h:d.R e w1 W.heap.size ok v xs)(hle:w.heap.size≤W.heap.size)(hM:∀k,w.heap.size≤k→M k):d.R e w1 W.heap.size (fun k=>M k∧ok k) v xs:=R_mono (R_bound h) (fun k hk=>⟨hM k (Nat.le_trans hle hk.2.1),hk.1⟩)
end
end Kd
end Go.Proofs.YteaocbonofboeaaGreatW.PrintWords
end
section
namespace Go.Proofs.YteaocbonofboeaaGreat.C
open Go.RowKit Go.Proofs.YteaocbonofboeaaGreatW.PrintWords Go.Proofs.YteaocbonofboeaaGreatW.PrintLast Go.Proofs.YteaocbonofboeaaGreatW.PrintMore
attribute [local go_sem] Qhl Qhm Qhn Qho Qhp Qhq Qhr Qhs
def errW:Option Int→Value
 | none=>.nilIface
 | some c=>.iface 0 (.int .i64 c)
theorem Qhy:errW none=.nilIface:=rfl
theorem Qhz(c:Int):errW (some c)=.iface 0 (.int .i64 c):=rfl
theorem info3:(Tryz.prog.info? 3).map (fun i=>(i.zero,i.size,i.bytes))=some (some (.int .i64 0),1,8):=by kernel_rfl
theorem Qia:(Tryz.prog.info? 5).map (fun i=>(i.zero,i.size,i.bytes))=some (some (.int .u8 0),1,1):=by kernel_rfl
theorem Qib:(Tryz.prog.info? 26).map (fun i=>(i.zero,i.size,i.bytes))=some (some (.int .u32 0),1,4):=by kernel_rfl
theorem Qic:(Tryz.prog.info? 35).map (fun i=>(i.zero,i.size,i.bytes))=some (some (.int .u64 0),1,8):=by kernel_rfl
theorem Qid:(Tryz.prog.info? 37).map (fun i=>(i.zero,i.size,i.bytes))=some (some (.agg #[(.bool false),(.int .u64 0),(.string ⟨#[]⟩),(.string ⟨#[]⟩)]),4,48):=by kernel_rfl
theorem info45:(Tryz.prog.info? 45).map (fun i=>(i.zero,i.size,i.bytes))=some (some (.agg #[(.slice none 0 0),(.slice none 0 0),(.int .u32 0),(.bool false)]),4,56):=by kernel_rfl
structure S37 where
  f0:Bool
  f1:Int
  f2:ByteArray
  f3:ByteArray
def z37:S37:=⟨false,(0:Int),(⟨#[]⟩:ByteArray),(⟨#[]⟩:ByteArray)⟩
def k37:Kd S37:=Kd.iso (Kd.pair Kd.bool (Kd.pair (Kd.int .u64) (Kd.pair Kd.string Kd.string))) (fun x:S37=>(x.f0,x.f1,x.f2,x.f3))
theorem Qie{w:World}{x:S37}{cs:List Value}(h:k37.K w x cs):cs=[.bool x.f0,.int .u64 x.f1,.string x.f2,.string x.f3]:=by
 obtain⟨_,_,rfl,rfl,⟨_,_,rfl,rfl,⟨_,_,rfl,rfl,rfl⟩⟩⟩:=h
 exact rfl
theorem Qif(w:World)(base:Nat)(ok:Nat→Prop)(x:S37)  : k37.M w base ok x [.bool x.f0,.int .u64 x.f1,.string x.f2,.string x.f3]:=⟨[.bool x.f0],[.int .u64 x.f1,.string x.f2,.string x.f3],rfl,rfl,⟨[.int .u64 x.f1],[.string x.f2,.string x.f3],rfl,rfl,⟨[.string x.f2],[.string x.f3],rfl,rfl,rfl⟩⟩⟩
def Qig(xs:List S37)(i:Int):S37:=xs.getD i.toNat z37
theorem Qih{w:World}{A:Option Addr}{n:Nat}{xs:List S37}(h:Kd.C k37 w A n xs)(i:Int)(h0:0≤i)(h1:i<n):∃ad , A=some ad∧w.cell? (ad.add (i.toNat*4))=some (.bool (Qig xs i).f0)∧w.cell? ⟨(ad.add (i.toNat*4)).block,(ad.add (i.toNat*4)).off+1,none⟩=some (.int .u64 (Qig xs i).f1)∧w.cell? ⟨(ad.add (i.toNat*4)).block,(ad.add (i.toNat*4)).off+2,none⟩=some (.string (Qig xs i).f2)∧w.cell? ⟨(ad.add (i.toNat*4)).block,(ad.add (i.toNat*4)).off+3,none⟩=some (.string (Qig xs i).f3):=by
 obtain⟨ad,c,e,_,hK,hc0⟩:=Kd.C_get h z37 i h0 h1
 have hc:∀j u,c[j]? = some u→w.cell? (ad.add (i.toNat*4+j))=some u:=hc0
 obtain rfl:=Qie hK
 exact⟨ad,e,hc 0 _ rfl,by rw[← Qcw _ _ 1 (by omega)];exact hc 1 _ rfl,by rw[← Qcw _ _ 2 (by omega)];exact hc 2 _ rfl,by rw[← Qcw _ _ 3 (by omega)];exact hc 3 _ rfl⟩
structure S28 where
  f0:Int
  f1:Int
structure S74 where
  f0:S37
  f1:Int
  f2:Int
  f3:Int
structure S129 where
  f0:Int
  f1:Int
def z129:S129:=⟨(0:Int),(0:Int)⟩
def k129:Kd S129:=Kd.iso (Kd.pair (Kd.int .u64) (Kd.int .u32)) (fun x:S129=>(x.f0,x.f1))
theorem Qii{w:World}{x:S129}{cs:List Value}(h:k129.K w x cs):cs=[.int .u64 x.f0,.int .u32 x.f1]:=by
 obtain⟨_,_,rfl,rfl,rfl⟩:=h
 exact rfl
theorem Qij{w:World}{base:Nat}{ok:Nat→Prop}{x:S129}{cs:List Value}(h:k129.M w base ok x cs):cs=[.int .u64 x.f0,.int .u32 x.f1]:=by
 obtain⟨_,_,rfl,rfl,rfl⟩:=h
 exact rfl
theorem Qik(w:World)(base:Nat)(ok:Nat→Prop)(x:S129)  : k129.M w base ok x [.int .u64 x.f0,.int .u32 x.f1]:=⟨[.int .u64 x.f0],[.int .u32 x.f1],rfl,rfl,rfl⟩
def Qil(xs:List S129)(i:Int):S129:=xs.getD i.toNat z129
theorem Qim{w:World}{A:Option Addr}{n:Nat}{xs:List S129}(h:Kd.C k129 w A n xs)(i:Int)(h0:0≤i)(h1:i<n):∃ad , A=some ad∧w.cell? (ad.add (i.toNat*2))=some (.int .u64 (Qil xs i).f0)∧w.cell? ⟨(ad.add (i.toNat*2)).block,(ad.add (i.toNat*2)).off+1,none⟩=some (.int .u32 (Qil xs i).f1):=by
 obtain⟨ad,c,e,_,hK,hc0⟩:=Kd.C_get h z129 i h0 h1
 have hc:∀j u,c[j]? = some u→w.cell? (ad.add (i.toNat*2+j))=some u:=hc0
 obtain rfl:=Qii hK
 exact⟨ad,e,hc 0 _ rfl,by rw[← Qcw _ _ 1 (by omega)];exact hc 1 _ rfl⟩
structure S76 where
  f0:Int
  f1:Int
def z76:S76:=⟨(0:Int),(0:Int)⟩
structure S158 where
  f0:Int
  f1:Int
structure S81 where
  f0:(List S158)
  f1:Int
structure S160 where
  f0:Int
  f1:Int
structure S147 where
  f0:Int
  f1:Int
  f2:Int
structure S61 where
  f0:Int
  f1:Int
  f2:Int
structure S152 where
  f0:S37
  f1:Int
  f2:Int
  f3:Int
structure S45 where
  f0:(List S37)
  f1:(List Int)
  f2:Int
  f3:Bool
def z45:S45:=⟨([]:List S37),([]:List Int),(0:Int),false⟩
def k45:Kd S45:=Kd.iso (Kd.pair (Kd.slice 37 k37) (Kd.pair (Kd.slice 26 (Kd.int .u32)) (Kd.pair (Kd.int .u32) Kd.bool))) (fun x:S45=>(x.f0,x.f1,x.f2,x.f3))
theorem Qin{w:World}{x:S45}{cs:List Value}(h:k45.K w x cs):∃A0 c0 A1 c1,cs=[.slice A0 x.f0.length c0,.slice A1 x.f1.length c1,.int .u32 x.f2,.bool x.f3]∧x.f0.length≤c0∧k37.C w A0 x.f0.length x.f0∧x.f1.length≤c1∧(Kd.int .u32).C w A1 x.f1.length x.f1:=by
 obtain⟨_,_,rfl,⟨A0,c0,rfl,l0,g0⟩,⟨_,_,rfl,⟨A1,c1,rfl,l1,g1⟩,⟨_,_,rfl,rfl,rfl⟩⟩⟩:=h
 exact⟨A0,c0,A1,c1,rfl,l0,g0,l1,g1⟩
theorem Qio{w:World}{base:Nat}{ok:Nat→Prop}{x:S45}{cs:List Value}(h:k45.M w base ok x cs):∃v0 v1,cs=[v0,v1,.int .u32 x.f2,.bool x.f3]∧k37.R 37 w base ok v0 x.f0∧(Kd.int .u32).R 26 w base ok v1 x.f1:=by
 obtain⟨_,_,rfl,⟨v0,rfl,g0⟩,⟨_,_,rfl,⟨v1,rfl,g1⟩,⟨_,_,rfl,rfl,rfl⟩⟩⟩:=h
 exact⟨v0,v1,rfl,g0,g1⟩
theorem k45_mkM(w:World)(base:Nat)(ok:Nat→Prop)(x:S45){v0:Value}(g0:k37.R 37 w base ok v0 x.f0){v1:Value}(g1:(Kd.int .u32).R 26 w base ok v1 x.f1):k45.M w base ok x [v0,v1,.int .u32 x.f2,.bool x.f3]:=⟨[v0],[v1,.int .u32 x.f2,.bool x.f3],rfl,⟨v0,rfl,g0⟩,⟨[v1],[.int .u32 x.f2,.bool x.f3],rfl,⟨v1,rfl,g1⟩,⟨[.int .u32 x.f2],[.bool x.f3],rfl,rfl,rfl⟩⟩⟩
def Qip(xs:List S45)(i:Int):S45:=xs.getD i.toNat z45
theorem at_T45{w:World}{A:Option Addr}{n:Nat}{xs:List S45}(h:Kd.C k45 w A n xs)(i:Int)(h0:0≤i)(h1:i<n):∃ad A0 c0 A1 c1,A=some ad∧w.cell? (ad.add (i.toNat*4))=some (.slice A0 (Qip xs i).f0.length c0)∧w.cell? ⟨(ad.add (i.toNat*4)).block,(ad.add (i.toNat*4)).off+1,none⟩=some (.slice A1 (Qip xs i).f1.length c1)∧w.cell? ⟨(ad.add (i.toNat*4)).block,(ad.add (i.toNat*4)).off+2,none⟩=some (.int .u32 (Qip xs i).f2)∧w.cell? ⟨(ad.add (i.toNat*4)).block,(ad.add (i.toNat*4)).off+3,none⟩=some (.bool (Qip xs i).f3)∧(Qip xs i).f0.length≤c0∧k37.C w A0 (Qip xs i).f0.length (Qip xs i).f0∧(Qip xs i).f1.length≤c1∧(Kd.int .u32).C w A1 (Qip xs i).f1.length (Qip xs i).f1:=by
 obtain⟨ad,c,e,_,hK,hc0⟩:=Kd.C_get h z45 i h0 h1
 have hc:∀j u,c[j]? = some u→w.cell? (ad.add (i.toNat*4+j))=some u:=hc0
 obtain⟨A0,c0,A1,c1,rfl,l0,g0,l1,g1⟩:=Qin hK
 exact⟨ad,A0,c0,A1,c1,e,hc 0 _ rfl,by rw[← Qcw _ _ 1 (by omega)];exact hc 1 _ rfl,by rw[← Qcw _ _ 2 (by omega)];exact hc 2 _ rfl,by rw[← Qcw _ _ 3 (by omega)];exact hc 3 _ rfl,l0,g0,l1,g1⟩
structure S224 where
  f0:Int
  f1:Int
structure S111 where
  f0:Int
  f1:Int
theorem qq_x{W:World}{g:Nat}{t:TypeId}{cs cs':Array Value}(h:W.heap[g]? = some (.cells cs' t (0,0)):=by((with_reducible repeat(first|apply Qdn|apply Qdm|apply Qdl|apply Qcy));exact Aside0.out (by assumption)))(e:cs'=cs:=by rfl):W.heap[g]? = some (.cells cs t (0,0)):=e ▸ h
theorem qc2{W:World}{g:Nat}{t:TypeId}{v0 v1:Value}(h:W.heap[g]? = some (.cells #[v0,v1] t (0,0))):W.cell? ⟨g,0,none⟩=some v0∧W.cell? ⟨g,1,none⟩=some v1:=⟨(Qdb h 0).trans rfl,(Qdb h 1).trans rfl⟩
theorem qc4{W:World}{g:Nat}{t:TypeId}{v0 v1 v2 v3:Value}(h:W.heap[g]? = some (.cells #[v0,v1,v2,v3] t (0,0))):W.cell? ⟨g,0,none⟩=some v0∧W.cell? ⟨g,1,none⟩=some v1∧W.cell? ⟨g,2,none⟩=some v2∧W.cell? ⟨g,3,none⟩=some v3:=⟨(Qdb h 0).trans rfl,(Qdb h 1).trans rfl,(Qdb h 2).trans rfl,(Qdb h 3).trans rfl⟩
theorem qc5{W:World}{g:Nat}{t:TypeId}{v0 v1 v2 v3 v4:Value}(h:W.heap[g]? = some (.cells #[v0,v1,v2,v3,v4] t (0,0))):W.cell? ⟨g,0,none⟩=some v0∧W.cell? ⟨g,1,none⟩=some v1∧W.cell? ⟨g,2,none⟩=some v2∧W.cell? ⟨g,3,none⟩=some v3∧W.cell? ⟨g,4,none⟩=some v4:=⟨(Qdb h 0).trans rfl,(Qdb h 1).trans rfl,(Qdb h 2).trans rfl,(Qdb h 3).trans rfl,(Qdb h 4).trans rfl⟩
theorem qq_b{b:Nat}{w w':World}(h:Below b w w':=by repeat(first |(with_reducible first|exact HB.out|apply Qce|apply Qcg|apply Qev|refine Qeq ?_ (Aside0.out (by assumption)))|exact HB.out)):Below b w w':=h
theorem qq_h{w w':World}(hb:Below w.heap.size w w'){p:Addr}{v:Value}(h:w.cell? p=some v):w'.cell? p=some v:=(hb.cell (World.block_lt_of_cell? w _ h)).trans h
theorem qq_s{w W:World}{g:Nat}(hg:g=W.heap.size)(h:Below w.heap.size w W:=by exact qq_b):w.heap.size≤g:=hg ▸ Qen h
theorem qq_e{P:Program}{ops:Array Oper}{o:Oper}{rest:List Oper}{a:Act}{Q:Exit→Act→World→Prop}{W:World}(N:Tmp)(cs:Array Value)(t:TypeId)(h:∀g,g=W.heap.size→∀w1,w1.heap[g]? = some (.cells cs t (0,0))→Below W.heap.size W w1→wpList P ops Q rest (a.put o.dst (.pointer (some ⟨g,0,none⟩))) w1)(hgd:o.guard=none:=by rfl)(hd:o.dst=some N:=by rfl)(hrun:(execOp a.eval o).run P W=.ok (.value (.pointer (some ⟨W.heap.size,0,none⟩))) (W.alloc (.cells cs t (0,0))):=by first |(go_simp;done) |(go_simp;rfl)):wpList P ops Q (o :: rest) a W:=Qex hgd hd hrun h
theorem qq_0{p:Prop}(h:p:=by(with_reducible repeat(first|apply Qdn|apply Qdm|apply Qdl));exact Aside0.out (by assumption)):p:=h
theorem qq_1{p:Prop}(h:p:=by(try simp only[List.map_toArray,List.map_cons,List.map_nil]);first|done|rfl |(simp only[List.length_drop,List.length_take];rfl)):p:=h
theorem qq_2{p:Prop}(h:p:=by first |(with_reducible assumption)|assumption):p:=h
theorem qq_3{p:Prop}(h:p:=by first|rfl |(simp[Qhy,Qhz]<;>rfl) |(simp[*,Qhy,Qhz]<;>rfl)):p:=h
theorem qq_4{p:Prop}(h:p:=by kernel_rfl):p:=h
theorem qq_5{p:Prop}(h:p:=by(with_reducible repeat(first|apply Kd.R_alloc|apply Kd.R_drewN|apply Kd.R_drew));exact HO829.out):p:=h
theorem qq_6{p:Prop}(h:p:=by(with_reducible repeat(first|apply Kd.R_alloc|apply Kd.R_drewN|apply Kd.R_drew));exact Aside0.out (by assumption)):p:=h
theorem qq_7{p:Prop}(h:p:=by(repeat(first |(with_reducible first|apply Qdn|apply Qdm|apply Qdl)|refine Qcz ?_ (Aside0.out (by assumption)) _));exact Aside0.out (by assumption)):p:=h
theorem qq_8{p:Prop}(h:p:=by first|rfl |(simp;done) |(simp[*];done)):p:=h
theorem qq_9{p:Prop}(h:p:=by(with_reducible repeat(first|apply Kd.S_alloc|apply Kd.S_drewN|apply Kd.S_drew));exact HO_8.out):p:=h
theorem qq_10{p:Prop}(h:p:=by(with_reducible repeat(first|apply Kd.R_alloc|apply Kd.R_drewN|apply Kd.R_drew));exact HO_4.out):p:=h
theorem qq_11{p:Prop}(h:p:=by(with_reducible repeat(first|apply Kd.R_alloc|apply Kd.R_drewN|apply Kd.R_drew));exact HO836.out):p:=h
theorem qq_12{p:Prop}(h:p:=by(with_reducible repeat(first|apply Kd.R_alloc|apply Kd.R_drewN|apply Kd.R_drew));exact HO788.out):p:=h
theorem qq_13{p:Prop}(h:p:=by(with_reducible repeat(first|apply Kd.R_alloc|apply Kd.R_drewN|apply Kd.R_drew));exact HO785.out):p:=h
theorem qq_14{p:Prop}(h:p:=by(with_reducible repeat(first|apply Kd.V_alloc|apply Kd.V_drewN|apply Kd.V_drew));exact HO_5.out):p:=h
theorem qq_15{p:Prop}(h:p:=by(with_reducible repeat(first|apply Kd.V_alloc|apply Kd.V_drewN|apply Kd.V_drew));exact HO_0.out):p:=h
theorem qq_16{p:Prop}(h:p:=by have:=HN.out;omega):p:=h
theorem qq_17{p:Prop}(h:p:=by first |(go_simp;done) |(go_simp;rfl)):p:=h
theorem qq_18{p:Prop}(h:p:=by(with_reducible repeat(first|apply Kd.R_alloc|apply Kd.R_drewN|apply Kd.R_drew));exact Kd.R_mono HO833.out (fun _ hk=>hk.2)):p:=h
theorem qq_19{p:Prop}(h:p:=by(try simp only[List.map_toArray,List.map_cons,List.map_nil]);first|done |(simp only[hji2];rfl)|rfl |(simp only[List.length_drop,List.length_take];rfl)):p:=h
theorem qq_20{p:Prop}(h:p:=by(with_reducible repeat(first|apply Kd.V_alloc|apply Kd.V_drewN|apply Kd.V_drew));exact HO111.out):p:=h
theorem qq_21{p:Prop}(h:p:=by(with_reducible repeat(first|apply Kd.S_alloc|apply Kd.S_drewN|apply Kd.S_drew));exact HO_21.out):p:=h
theorem qq_22{p:Prop}(h:p:=by(with_reducible repeat(first|apply Kd.R_alloc|apply Kd.R_drewN|apply Kd.R_drew));exact HO_8.out):p:=h
theorem qq_23{p:Prop}(h:p:=by(with_reducible repeat(first|apply Kd.R_alloc|apply Kd.R_drewN|apply Kd.R_drew));exact HO_5.out):p:=h
theorem qq_24{p:Prop}(h:p:=by rw[List.length_drop];omega):p:=h
theorem qq_25{p:Prop}(h:p:=by simp only[Qfp,Act.put,List.setIfInBounds_toArray,List.set_cons_zero,List.set_cons_succ]):p:=h
theorem qq_26{p:Prop}(h:p:=by(try simp only[List.map_toArray,List.map_cons,List.map_nil]);first|done |(rw[show((l1.take ((wrap64 (((x27_1+1)%4294967296)*t781)):Int).toNat).drop ((ji12):Int).toNat).length=((wrap64 (((x27_1+1)%4294967296)*t781)).toNat-(ji12).toNat) from(by rw[List.length_drop,List.length_take];have h_:((wrap64 (((x27_1+1)%4294967296)*t781)):Int)≤(l1.length:Int):=of_decide_eq_true qq_2;omega)]<;>rfl) |(simp only[hji12];rfl)|rfl |(simp only[List.length_drop,List.length_take];rfl)):p:=h
def Qad.f(l0:List Int)(l1:List Int):Option (Bool):=some ((strOfNums l0).toList == (strOfNums l1).toList)
theorem Qad.calls(A0:Option Addr)(c0:Nat)(l0:List Int)(A1:Option Addr)(c1:Nat)(l1:List Int)(r:Bool)(w:World)(hr0:Kd.C (Kd.int .u8) w A0 l0.length l0)(hc0:l0.length≤c0)(hr1:Kd.C (Kd.int .u8) w A1 l1.length l1)(hc1:l1.length≤c1)(h:Qad.f l0 l1=some r) :
  Calls Tryz.prog 96 #[.slice A0 l0.length c0,.slice A1 l1.length c1] w fun e w'=>e=.returned (.bool r)∧Drawn0 w w':=by
 have HR0:=QA hr0;have HC0:=QA hc0;clear hr0 hc0;have HR1:=QA hr1;have HC1:=QA hc1;clear hr1 hc1;have H:(some ((strOfNums l0).toList == (strOfNums l1).toList))=some r:=h;clear h;obtain rfl:=Option.some.inj H;have hcv3:=Kd.C_string (P:=Tryz.prog) (A:=A0) (c:=c0) Tryz.underlying40 Tryz.underlying5 Tryz.underlying9 HR0.out;have hcv4:=Kd.C_string (P:=Tryz.prog) (A:=A1) (c:=c1) Tryz.underlying40 Tryz.underlying5 Tryz.underlying9 HR1.out
 go_enter Tryz.func96,Tryz.ntmps96
 go_wp2;go_ret
 exact⟨by first|rfl |(simp;done) |(simp[*];done),by repeat(first|exact Drawn0.refl _|apply Drawn0.step)⟩
end Go.Proofs.YteaocbonofboeaaGreat.C
end
