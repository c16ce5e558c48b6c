/- Merged texts. -/
import Derived.Test.YtepkfjmjidjedaaGreatProg
import Derived.Below
import Derived.Deep.Draws
import Derived.Deep.AppendLies
import Derived.Maps.AppendAt
import Derived.OwnWalk
import Derived.Laws.BytesArg
import Derived.Laws.MakeOwn
import Derived.Laws.OwnMore
import Derived.Deep.OwnRows
import Derived.Tactics
import Derived.Lib.ConvBytes
import Derived.Laws.Slices
import Derived.WalkKit
import Derived.KernelRfl
import Derived.RowKit3
import Derived.Deep.LoopGhost
import Derived.Deep.QuietTactic
import Derived.BigQuiet
import Derived.WideLaws
import Derived.Deep.DeepCutAuto
import Derived.Deep.CutBlock
import Derived.Deep.RegionHeld3
import Derived.Laws.Rows
import Derived.Lib.AppendStr
import Derived.ArgAppend
import Derived.Laws.IdiomCopy
import Derived.OrdersHeld
import Derived.Laws.BitsLemmas
import Derived.RowKit
import Derived.Test.YtepkfjmjidjedaaGreatMB00
import Derived.Test.YtepkfjmjidjedaaGreatMB01
set_option linter.unusedVariables false
set_option linter.unusedSimpArgs false
set_option maxHeartbeats 8000000
set_option maxRecDepth 100000
section
namespace Go.Proofs.YtepkfjmjidjedaaGreat.C
open Go.RowKit Go.Proofs.YtepkfjmjidjedaaGreatW.PrintWords Go.Proofs.YtepkfjmjidjedaaGreatW.PrintLast Go.Proofs.YtepkfjmjidjedaaGreatW.PrintMore
attribute [local go_sem] Qhj Qhk Qhl Qhm Qhn Qho Qhp Qhq
def errW:Option Int→Value
 | none=>.nilIface
 | some c=>.iface 0 (.int .i64 c)
theorem Qhv:errW none=.nilIface:=rfl
theorem Qhw(c:Int):errW (some c)=.iface 0 (.int .i64 c):=rfl
theorem info3:(Tryz.prog.info? 3).map (fun i=>(i.zero,i.size,i.bytes))=some (some (.int .i64 0),1,8):=by kernel_rfl
theorem Qhx:(Tryz.prog.info? 5).map (fun i=>(i.zero,i.size,i.bytes))=some (some (.int .u8 0),1,1):=by kernel_rfl
theorem info32:(Tryz.prog.info? 32).map (fun i=>(i.zero,i.size,i.bytes))=some (some (.int .u64 0),1,8):=by kernel_rfl
theorem Qhy:(Tryz.prog.info? 36).map (fun i=>(i.zero,i.size,i.bytes))=some (some (.agg #[(.bool false),(.int .u64 0),(.string ⟨#[]⟩),(.string ⟨#[]⟩)]),4,48):=by kernel_rfl
theorem Qhz:(Tryz.prog.info? 38).map (fun i=>(i.zero,i.size,i.bytes))=some (some (.int .u32 0),1,4):=by kernel_rfl
theorem info132:(Tryz.prog.info? 132).map (fun i=>(i.zero,i.size,i.bytes))=some (some (.agg #[(.string ⟨#[]⟩),(.string ⟨#[]⟩)]),2,32):=by kernel_rfl
structure S36 where
  f0:Bool
  f1:Int
  f2:ByteArray
  f3:ByteArray
def z36:S36:=⟨false,(0:Int),(⟨#[]⟩:ByteArray),(⟨#[]⟩:ByteArray)⟩
def k36:Kd S36:=Kd.iso (Kd.pair Kd.bool (Kd.pair (Kd.int .u64) (Kd.pair Kd.string Kd.string))) (fun x:S36=>(x.f0,x.f1,x.f2,x.f3))
theorem Qia{w:World}{x:S36}{cs:List Value}(h:k36.K w x cs):cs=[.bool x.f0,.int .u64 x.f1,.string x.f2,.string x.f3]:=by
 obtain⟨_,_,rfl,rfl,⟨_,_,rfl,rfl,⟨_,_,rfl,rfl,rfl⟩⟩⟩:=h
 exact rfl
theorem Qib(w:World)(base:Nat)(ok:Nat→Prop)(x:S36)  : k36.M w base ok x [.bool x.f0,.int .u64 x.f1,.string x.f2,.string x.f3]:=⟨[.bool x.f0],[.int .u64 x.f1,.string x.f2,.string x.f3],rfl,rfl,⟨[.int .u64 x.f1],[.string x.f2,.string x.f3],rfl,rfl,⟨[.string x.f2],[.string x.f3],rfl,rfl,rfl⟩⟩⟩
def Qic(xs:List S36)(i:Int):S36:=xs.getD i.toNat z36
theorem Qid{w:World}{A:Option Addr}{n:Nat}{xs:List S36}(h:Kd.C k36 w A n xs)(i:Int)(h0:0≤i)(h1:i<n):∃ad , A=some ad∧w.cell? (ad.add (i.toNat*4))=some (.bool (Qic xs i).f0)∧w.cell? ⟨(ad.add (i.toNat*4)).block,(ad.add (i.toNat*4)).off+1,none⟩=some (.int .u64 (Qic xs i).f1)∧w.cell? ⟨(ad.add (i.toNat*4)).block,(ad.add (i.toNat*4)).off+2,none⟩=some (.string (Qic xs i).f2)∧w.cell? ⟨(ad.add (i.toNat*4)).block,(ad.add (i.toNat*4)).off+3,none⟩=some (.string (Qic xs i).f3):=by
 obtain⟨ad,c,e,_,hK,hc0⟩:=Kd.C_get h z36 i h0 h1
 have hc:∀j u,c[j]? = some u→w.cell? (ad.add (i.toNat*4+j))=some u:=hc0
 obtain rfl:=Qia hK
 exact⟨ad,e,hc 0 _ rfl,by rw[← Qdg _ _ 1 (by omega)];exact hc 1 _ rfl,by rw[← Qdg _ _ 2 (by omega)];exact hc 2 _ rfl,by rw[← Qdg _ _ 3 (by omega)];exact hc 3 _ rfl⟩
structure S40 where
  f0:Int
  f1:Int
structure S177 where
  f0:Int
  f1:Int
def z177:S177:=⟨(0:Int),(0:Int)⟩
def k177:Kd S177:=Kd.iso (Kd.pair (Kd.int .u64) (Kd.int .u32)) (fun x:S177=>(x.f0,x.f1))
theorem Qie{w:World}{x:S177}{cs:List Value}(h:k177.K w x cs):cs=[.int .u64 x.f0,.int .u32 x.f1]:=by
 obtain⟨_,_,rfl,rfl,rfl⟩:=h
 exact rfl
theorem Qif{w:World}{base:Nat}{ok:Nat→Prop}{x:S177}{cs:List Value}(h:k177.M w base ok x cs):cs=[.int .u64 x.f0,.int .u32 x.f1]:=by
 obtain⟨_,_,rfl,rfl,rfl⟩:=h
 exact rfl
theorem Qig(w:World)(base:Nat)(ok:Nat→Prop)(x:S177)  : k177.M w base ok x [.int .u64 x.f0,.int .u32 x.f1]:=⟨[.int .u64 x.f0],[.int .u32 x.f1],rfl,rfl,rfl⟩
def Qih(xs:List S177)(i:Int):S177:=xs.getD i.toNat z177
theorem Qii{w:World}{A:Option Addr}{n:Nat}{xs:List S177}(h:Kd.C k177 w A n xs)(i:Int)(h0:0≤i)(h1:i<n):∃ad , A=some ad∧w.cell? (ad.add (i.toNat*2))=some (.int .u64 (Qih xs i).f0)∧w.cell? ⟨(ad.add (i.toNat*2)).block,(ad.add (i.toNat*2)).off+1,none⟩=some (.int .u32 (Qih xs i).f1):=by
 obtain⟨ad,c,e,_,hK,hc0⟩:=Kd.C_get h z177 i h0 h1
 have hc:∀j u,c[j]? = some u→w.cell? (ad.add (i.toNat*2+j))=some u:=hc0
 obtain rfl:=Qie hK
 exact⟨ad,e,hc 0 _ rfl,by rw[← Qdg _ _ 1 (by omega)];exact hc 1 _ rfl⟩
structure S132 where
  f0:ByteArray
  f1:ByteArray
def z132:S132:=⟨(⟨#[]⟩:ByteArray),(⟨#[]⟩:ByteArray)⟩
def k132:Kd S132:=Kd.iso (Kd.pair Kd.string Kd.string) (fun x:S132=>(x.f0,x.f1))
theorem Qij{w:World}{x:S132}{cs:List Value}(h:k132.K w x cs):cs=[.string x.f0,.string x.f1]:=by
 obtain⟨_,_,rfl,rfl,rfl⟩:=h
 exact rfl
theorem Qik(w:World)(base:Nat)(ok:Nat→Prop)(x:S132)  : k132.M w base ok x [.string x.f0,.string x.f1]:=⟨[.string x.f0],[.string x.f1],rfl,rfl,rfl⟩
def Qil(xs:List S132)(i:Int):S132:=xs.getD i.toNat z132
theorem Qim{w:World}{A:Option Addr}{n:Nat}{xs:List S132}(h:Kd.C k132 w A n xs)(i:Int)(h0:0≤i)(h1:i<n):∃ad , A=some ad∧w.cell? (ad.add (i.toNat*2))=some (.string (Qil xs i).f0)∧w.cell? ⟨(ad.add (i.toNat*2)).block,(ad.add (i.toNat*2)).off+1,none⟩=some (.string (Qil xs i).f1):=by
 obtain⟨ad,c,e,_,hK,hc0⟩:=Kd.C_get h z132 i h0 h1
 have hc:∀j u,c[j]? = some u→w.cell? (ad.add (i.toNat*2+j))=some u:=hc0
 obtain rfl:=Qij hK
 exact⟨ad,e,hc 0 _ rfl,by rw[← Qdg _ _ 1 (by omega)];exact hc 1 _ rfl⟩
structure S65 where
  f0:Int
  f1:Int
  f2:Int
structure S139 where
  f0:(List S36)
  f1:(List Int)
  f2:Int
  f3:Bool
structure S93 where
  f0:S36
  f1:Int
  f2:Int
  f3:Int
structure S259 where
  f0:Int
  f1:Int
  f2:Int
structure S84 where
  f0:Int
  f1:Int
structure S94 where
  f0:S36
  f1:Int
  f2:Int
  f3:Int
structure S46 where
  f0:Int
  f1:Int
def z46:S46:=⟨(0:Int),(0:Int)⟩
structure S228 where
  f0:Int
  f1:Int
theorem qq_x{W:World}{g:Nat}{t:TypeId}{cs cs':Array Value}(h:W.heap[g]? = some (.cells cs' t (0,0)):=by((with_reducible repeat(first|apply Qdx|apply Qdw|apply Qdv|apply Qdi));exact Aside0.out (by assumption)))(e:cs'=cs:=by rfl):W.heap[g]? = some (.cells cs t (0,0)):=e ▸ h
theorem qc2{W:World}{g:Nat}{t:TypeId}{v0 v1:Value}(h:W.heap[g]? = some (.cells #[v0,v1] t (0,0))):W.cell? ⟨g,0,none⟩=some v0∧W.cell? ⟨g,1,none⟩=some v1:=⟨(Qdl h 0).trans rfl,(Qdl h 1).trans rfl⟩
theorem qc4{W:World}{g:Nat}{t:TypeId}{v0 v1 v2 v3:Value}(h:W.heap[g]? = some (.cells #[v0,v1,v2,v3] t (0,0))):W.cell? ⟨g,0,none⟩=some v0∧W.cell? ⟨g,1,none⟩=some v1∧W.cell? ⟨g,2,none⟩=some v2∧W.cell? ⟨g,3,none⟩=some v3:=⟨(Qdl h 0).trans rfl,(Qdl h 1).trans rfl,(Qdl h 2).trans rfl,(Qdl h 3).trans rfl⟩
theorem qc5{W:World}{g:Nat}{t:TypeId}{v0 v1 v2 v3 v4:Value}(h:W.heap[g]? = some (.cells #[v0,v1,v2,v3,v4] t (0,0))):W.cell? ⟨g,0,none⟩=some v0∧W.cell? ⟨g,1,none⟩=some v1∧W.cell? ⟨g,2,none⟩=some v2∧W.cell? ⟨g,3,none⟩=some v3∧W.cell? ⟨g,4,none⟩=some v4:=⟨(Qdl h 0).trans rfl,(Qdl h 1).trans rfl,(Qdl h 2).trans rfl,(Qdl h 3).trans rfl,(Qdl h 4).trans rfl⟩
theorem qq_b{b:Nat}{w w':World}(h:Below b w w':=by repeat(first |(with_reducible first|exact HB.out|apply Qcn|apply Qcp|apply Qfb|refine Qew ?_ (Aside0.out (by assumption)))|exact HB.out)):Below b w w':=h
theorem qq_h{w w':World}(hb:Below w.heap.size w w'){p:Addr}{v:Value}(h:w.cell? p=some v):w'.cell? p=some v:=(hb.cell (World.block_lt_of_cell? w _ h)).trans h
theorem qq_s{w W:World}{g:Nat}(hg:g=W.heap.size)(h:Below w.heap.size w W:=by exact qq_b):w.heap.size≤g:=hg ▸ Qet h
theorem qq_e{P:Program}{ops:Array Oper}{o:Oper}{rest:List Oper}{a:Act}{Q:Exit→Act→World→Prop}{W:World}(N:Tmp)(cs:Array Value)(t:TypeId)(h:∀g,g=W.heap.size→∀w1,w1.heap[g]? = some (.cells cs t (0,0))→Below W.heap.size W w1→wpList P ops Q rest (a.put o.dst (.pointer (some ⟨g,0,none⟩))) w1)(hgd:o.guard=none:=by rfl)(hd:o.dst=some N:=by rfl)(hrun:(execOp a.eval o).run P W=.ok (.value (.pointer (some ⟨W.heap.size,0,none⟩))) (W.alloc (.cells cs t (0,0))):=by first |(go_simp;done) |(go_simp;rfl)):wpList P ops Q (o :: rest) a W:=Qfd hgd hd hrun h
theorem qq_0{p:Prop}(h:p:=by(with_reducible repeat(first|apply Qdx|apply Qdw|apply Qdv));exact Aside0.out (by assumption)):p:=h
theorem qq_1{p:Prop}(h:p:=by first |(simp only[Qfu,Act.put,List.setIfInBounds_toArray,List.set_cons_zero,List.set_cons_succ];done) |(simp only[Qfu,Act.put,List.setIfInBounds_toArray,List.set_cons_zero,List.set_cons_succ];rfl)):p:=h
theorem qq_2{p:Prop}(h:p:=by(try simp only[List.map_toArray,List.map_cons,List.map_nil]);first|done|rfl |(simp only[List.length_drop,List.length_take];rfl)):p:=h
theorem qq_3{p:Prop}(h:p:=by first |(rw[Qey];assumption) |(show(Addr.add _ _).block≠_;rw[Qey];assumption)|assumption):p:=h
theorem qq_4{p:Prop}(h:p:=by first |(with_reducible assumption)|assumption):p:=h
theorem qq_5{p:Prop}(h:p:=by first|rfl |(simp[Qhv,Qhw]<;>rfl) |(simp[*,Qhv,Qhw]<;>rfl)):p:=h
theorem qq_6{p:Prop}(h:p:=by kernel_rfl):p:=h
theorem qq_7{p:Prop}(h:p:=by first|rfl |(simp;done) |(simp[*];done)):p:=h
theorem qq_8{p:Prop}(h:p:=by(repeat(first |(with_reducible first|apply Qdx|apply Qdw|apply Qdv)|refine Qdj ?_ (Aside0.out (by assumption)) _));exact Aside0.out (by assumption)):p:=h
theorem qq_9{p:Prop}(h:p:=by(with_reducible repeat(first|apply Kd.R_alloc|apply Kd.R_drewN|apply Kd.R_drew));exact Aside0.out (by assumption)):p:=h
theorem qq_10{p:Prop}(h:p:=by have:=World.block_lt_of_cell? _ _ hx276_0;first|rwa [Qey]at this|exact this):p:=h
theorem qq_11{p:Prop}(h:p:=by simp only[List.map_toArray,List.map_cons,List.map_nil];rfl):p:=h
theorem qq_12{p:Prop}(h:p:=by(with_reducible repeat(first|apply Kd.R_alloc|apply Kd.R_drewN|apply Kd.R_drew));exact Kd.R_mono (Kd.R_far (p:=⟨gb289,3,none⟩) (Kd.R_far (p:=⟨gb289,2,none⟩) (Kd.R_far (p:=⟨gb289,1,none⟩) (Kd.R_far (p:=⟨gb289,0,none⟩) (Kd.R_mono HO_17.out (fun k_ hk=>(⟨hk,hk.2⟩:_∧k_≠gb289))) (fun _ hk=>hk.2) (.bool ((Qic x3_1 x19_2).f0))) (fun _ hk=>hk.2) (.int .u64 ((Qic x3_1 x19_2).f1))) (fun _ hk=>hk.2) (.string ((Qic x3_1 x19_2).f2))) (fun _ hk=>hk.2) (.string ((Qic x3_1 x19_2).f3))) (fun _ hk=>⟨⟨hk.1.1.2.1,⟨hk.1.1.2.2,hk.1.2⟩⟩,hk.1.1.1⟩)):p:=h
theorem qq_13{p:Prop}(h:p:=by(with_reducible repeat(first|apply Kd.R_alloc|apply Kd.R_drewN|apply Kd.R_drew));exact Kd.R_mono (Kd.R_far (p:=⟨gb289,3,none⟩) (Kd.R_far (p:=⟨gb289,2,none⟩) (Kd.R_far (p:=⟨gb289,1,none⟩) (Kd.R_far (p:=⟨gb289,0,none⟩) (Kd.R_mono HO_11.out (fun k_ hk=>(⟨hk,hk.2⟩:_∧k_≠gb289))) (fun _ hk=>hk.2) (.bool ((Qic x3_1 x19_2).f0))) (fun _ hk=>hk.2) (.int .u64 ((Qic x3_1 x19_2).f1))) (fun _ hk=>hk.2) (.string ((Qic x3_1 x19_2).f2))) (fun _ hk=>hk.2) (.string ((Qic x3_1 x19_2).f3))) (fun _ hk=>⟨⟨hk.1.1.2.1,⟨hk.1.1.2.2,hk.1.2⟩⟩,hk.1.1.1⟩)):p:=h
theorem qq_14{p:Prop}(h:p:=by(with_reducible repeat(first|apply Kd.R_alloc|apply Kd.R_drewN|apply Kd.R_drew));exact Kd.R_mono (Kd.R_far (p:=⟨gb289,3,none⟩) (Kd.R_far (p:=⟨gb289,2,none⟩) (Kd.R_far (p:=⟨gb289,1,none⟩) (Kd.R_far (p:=⟨gb289,0,none⟩) (Kd.R_mono HO_6.out (fun k_ hk=>(⟨hk,hk.2⟩:_∧k_≠gb289))) (fun _ hk=>hk.2) (.bool ((Qic x3_1 x19_2).f0))) (fun _ hk=>hk.2) (.int .u64 ((Qic x3_1 x19_2).f1))) (fun _ hk=>hk.2) (.string ((Qic x3_1 x19_2).f2))) (fun _ hk=>hk.2) (.string ((Qic x3_1 x19_2).f3))) (fun _ hk=>⟨hk.1.1.1,⟨hk.1.1.2.1,⟨hk.1.1.2.2,hk.1.2⟩⟩⟩)):p:=h
theorem qq_15{p:Prop}(h:p:=by(with_reducible repeat(first|apply Kd.R_alloc|apply Kd.R_drewN|apply Kd.R_drew));exact(Kd.R_mono (Kd.R_far (p:=⟨gb289,3,none⟩) (Kd.R_far (p:=⟨gb289,2,none⟩) (Kd.R_far (p:=⟨gb289,1,none⟩) (Kd.R_far (p:=⟨gb289,0,none⟩) (Kd.R_mono HO_17.out (fun k_ hk=>(⟨hk,hk.2⟩:_∧k_≠gb289))) (fun _ hk=>hk.2) (.bool ((Qic x3_1 x19_2).f0))) (fun _ hk=>hk.2) (.int .u64 ((Qic x3_1 x19_2).f1))) (fun _ hk=>hk.2) (.string ((Qic x3_1 x19_2).f2))) (fun _ hk=>hk.2) (.string ((Qic x3_1 x19_2).f3))) (fun _ h_=>h_.1))):p:=h
theorem qq_16{p:Prop}(h:p:=by(with_reducible repeat(first|apply Kd.R_alloc|apply Kd.R_drewN|apply Kd.R_drew));exact(Kd.R_mono (Kd.R_far (p:=⟨gb289,3,none⟩) (Kd.R_far (p:=⟨gb289,2,none⟩) (Kd.R_far (p:=⟨gb289,1,none⟩) (Kd.R_far (p:=⟨gb289,0,none⟩) (Kd.R_mono HO_11.out (fun k_ hk=>(⟨hk,hk.2⟩:_∧k_≠gb289))) (fun _ hk=>hk.2) (.bool ((Qic x3_1 x19_2).f0))) (fun _ hk=>hk.2) (.int .u64 ((Qic x3_1 x19_2).f1))) (fun _ hk=>hk.2) (.string ((Qic x3_1 x19_2).f2))) (fun _ hk=>hk.2) (.string ((Qic x3_1 x19_2).f3))) (fun _ h_=>h_.1))):p:=h
theorem qq_17{p:Prop}(h:p:=by(with_reducible repeat(first|apply Kd.R_alloc|apply Kd.R_drewN|apply Kd.R_drew));exact HO_11.out):p:=h
theorem qq_18{p:Prop}(h:p:=by(with_reducible repeat(first|apply Kd.R_alloc|apply Kd.R_drewN|apply Kd.R_drew));exact HO_17.out):p:=h
theorem qq_19{p:Prop}(h:p:=by first |(go_simp;done) |(go_simp;rfl)):p:=h
theorem qq_20{p:Prop}(h:p:=by(try simp only[List.map_toArray,List.map_cons,List.map_nil]);first|done |(simp only[hji2];rfl)|rfl |(simp only[List.length_drop,List.length_take];rfl)):p:=h
theorem qq_21{p:Prop}(h:p:=by have:=HN.out;omega):p:=h
theorem qq_22{p:Prop}(h:p:=by simp[Qin,Qcy]<;>(have:=HSZ.out;omega)):p:=h
theorem qq_23{p:Prop}(h:p:=by(with_reducible repeat(first|apply Kd.R_alloc|apply Kd.R_drewN|apply Kd.R_drew));exact HO_6.out):p:=h
theorem qq_24{p:Prop}(h:p:=by(with_reducible repeat(first|apply Kd.R_alloc|apply Kd.R_drewN|apply Kd.R_drew));exact HO_5.out):p:=h
theorem qq_25{p:Prop}(h:p:=by simp[Qin]):p:=h
theorem qq_26{p:Prop}(h:p:=by simp;omega):p:=h
theorem qq_27{p:Prop}(h:p:=by rw[List.length_drop];omega):p:=h
def Qar.l0:Nat→List (S36)→Int→Int→List (S36)→Int→Int→Option (Bool)
 | 0,_,_,_,_,_,_=>none
 | k+1,x0,x1,x2,x9,x10,x11=>if x11<x10 then(if 0≤x11 then(if x11<(x9.length:Int)then(if(((Qic x9 x11).f2).size:Int) > x2 then(some false)else(if(((Qic x9 x11).f3).size:Int) > x2 then(some false)else(Qar.l0 k x0 x1 x2 x9 x10 (wrap64 (x11+1)))))else(none))else(none))else(some (decide ((x0.length:Int)≤x1)))
def Qar.f(k:Nat)(l0:List (S36))(a1:Int)(a2:Int):Option (Bool):=Qar.l0 k l0 a1 a2 l0 (l0.length:Int) 0
theorem Qar.calls (k:Nat) (A0:Option Addr) (c0:Nat) (l0:List (S36)) (a1:Int) (a2:Int) (r:Bool) (w:World) (hr0:Kd.C k36 w A0 l0.length l0) (hc0:l0.length≤c0) (h:Qar.f k l0 a1 a2=some r) :
  Calls Tryz.prog 11 #[.slice A0 l0.length c0,.int .i64 a1,.int .i64 a2] w fun e w'=>e=.returned (.bool r)∧Below w.heap.size w w':=by
 have hu36:=Tryz.underlying36;have t:=QA hr0;have Z:=QA hc0;clear hr0 hc0;have HB:=QA (Below.refl w.heap.size w);have H:(Qar.l0 k l0 a1 a2 l0 (l0.length:Int) 0)=some r:=h;clear h;have H':=QA H;clear H
 go_enter Tryz.func11,Tryz.ntmps11
 go_wp2
 go_loopg [11] k (fun kq J w'=>∃(a:Int),J=.int .i64 a∧Aside0 (Qar.l0 kq l0 a1 a2 l0 (l0.length:Int) a=some r)∧Aside0 (kq≤k)∧Aside0 (Below w.heap.size w w'))
 case atStart=>exact⟨(0),qq_7,H',⟨Nat.le_refl _⟩,⟨qq_b⟩⟩
 case round =>
  clear H';obtain⟨a,rfl,HA,HK1,HB⟩:=hrel
  cases gk with
  | zero=>exact absurd HA.out (by simp[Qar.l0])
  | succ k1 =>
   have H:=HA.out;clear HA;simp only[Qar.l0]at H
   by_cases c4:a<(l0.length:Int)
   ·rw [if_pos c4]at H;have v:=decide_eq_true c4;clear c4
    by_cases c5:0≤a
    ·rw [if_pos c5]at H;have W:=decide_eq_true c5;clear c5
     by_cases c6:a<(l0.length:Int)
     ·rw[if_pos c6]at H;have X:=decide_eq_true c6;clear c6
      by_cases c7:(((Qic l0 a).f2).size:Int) > a2
      ·rw[if_pos c7]at H;have x:decide (a2<(((Qic l0 a).f2).size:Int))=true:=decide_eq_true c7;clear c7;obtain rfl:=Option.some.inj H;have j:0≤(a:Int):=of_decide_eq_true qq_4;have l:a<(l0.length:Int):=of_decide_eq_true qq_4;obtain⟨p,o,b,c,d,g⟩:=Qid t.out a j l
       cases o
       replace b:=qq_h HB.out b;replace c:=qq_h HB.out c;replace d:=qq_h HB.out d;replace g:=qq_h HB.out g;replace j:=eq_true j;replace l:=eq_true l
       go_wp2_with (first |((with_reducible refine Qfe (N:=8) rfl ?_);(try(refine Qhi (by rfl) ?_;dsimp only));refine qq_e 8 #[.bool false,.int .u64 0,.string (⟨#[]⟩:ByteArray),.string (⟨#[]⟩:ByteArray)] 36 ?_;intro m hg w8 hbox hb;have n_:=qn4 (Qeu qq_b hb) (hbox) (qq_s hg:w.heap.size≤m) (qq_s hg:w.heap.size≤m);clear HB;obtain⟨HB,n,q,s⟩:=n_;clear hb hbox hg;obtain⟨L,M,O,P⟩:=qc4 n.out;have Y:=Qdm n.out))
       go_ret
       exact⟨qq_5,qq_b⟩
      ·rw[if_neg c7]at H;have x:decide (a2<(((Qic l0 a).f2).size:Int))=false:=decide_eq_false c7;clear c7
       by_cases c10:(((Qic l0 a).f3).size:Int) > a2
       ·rw[if_pos c10]at H;have u:decide (a2<(((Qic l0 a).f3).size:Int))=true:=decide_eq_true c10;clear c10;obtain rfl:=Option.some.inj H;have j:0≤(a:Int):=of_decide_eq_true qq_4;have l:a<(l0.length:Int):=of_decide_eq_true qq_4;obtain⟨p,o,b,c,d,g⟩:=Qid t.out a j l
        cases o
        replace b:=qq_h HB.out b;replace c:=qq_h HB.out c;replace d:=qq_h HB.out d;replace g:=qq_h HB.out g;replace j:=eq_true j;replace l:=eq_true l
        go_wp2_with (first |((with_reducible refine Qfe (N:=8) rfl ?_);(try(refine Qhi (by rfl) ?_;dsimp only));refine qq_e 8 #[.bool false,.int .u64 0,.string (⟨#[]⟩:ByteArray),.string (⟨#[]⟩:ByteArray)] 36 ?_;intro m hg aa hbox hb;have n_:=qn4 (Qeu qq_b hb) (hbox) (qq_s hg:w.heap.size≤m) (qq_s hg:w.heap.size≤m);clear HB;obtain⟨HB,n,q,s⟩:=n_;clear hb hbox hg;obtain⟨y,z,A,B⟩:=qc4 n.out;have T:=Qdm n.out))
        go_ret
        exact⟨qq_5,qq_b⟩
       ·rw[if_neg c10]at H;have u:decide (a2<(((Qic l0 a).f3).size:Int))=false:=decide_eq_false c10;clear c10;have H':=QA H;clear H;have j:0≤(a:Int):=of_decide_eq_true qq_4;have l:a<(l0.length:Int):=of_decide_eq_true qq_4;obtain⟨p,o,b,c,d,g⟩:=Qid t.out a j l
        cases o
        replace b:=qq_h HB.out b;replace c:=qq_h HB.out c;replace d:=qq_h HB.out d;replace g:=qq_h HB.out g;replace j:=eq_true j;replace l:=eq_true l
        go_wp2_with (first |((with_reducible refine Qfe (N:=8) rfl ?_);(try(refine Qhi (by rfl) ?_;dsimp only));refine qq_e 8 #[.bool false,.int .u64 0,.string (⟨#[]⟩:ByteArray),.string (⟨#[]⟩:ByteArray)] 36 ?_;intro m hg ab hbox hb;have n_:=qn4 (Qeu qq_b hb) (hbox) (qq_s hg:w.heap.size≤m) (qq_s hg:w.heap.size≤m);clear HB;obtain⟨HB,n,q,s⟩:=n_;clear hb hbox hg;obtain⟨D,E,G,I⟩:=qc4 n.out;have U:=Qdm n.out))
        go_roundg k1
        case measure=>have:=HK1.out;omega
        case rel=>exact⟨(wrap64 (a+1)),qq_7,H',⟨by have:=HK1.out;omega⟩,⟨qq_b⟩⟩
     ·rw[if_neg c6]at H;exact absurd H (by simp)
    ·rw[if_neg c5]at H;exact absurd H (by simp)
   ·rw[if_neg c4]at H;have v:=decide_eq_false c4;clear c4;obtain rfl:=Option.some.inj H;go_wp2;go_ret
    exact⟨qq_5,qq_b⟩
def Qal.f(a0_0:Int)(a0_1:Int):Option (Int):=if a0_0<12 then(some 1)else(if a0_0 > 24 then(some 1)else(if a0_1<1 then(some 1)else(if a0_1 > 65536 then(some 1)else(some 0))))
theorem Qal.calls(c:Int)(d:Int)(r:Int)(w:World)(h:Qal.f c d=some r) :
  Calls Tryz.prog 82 #[.agg #[.int .u8 c,.int .u32 d]] w fun e w'=>e=.returned (.int .i64 r)∧Below w.heap.size w w':=by
 have hu40:=Tryz.underlying40;have HB:=QA (Below.refl w.heap.size w);have H:(if c<12 then(some 1)else(if c > 24 then(some 1)else(if d<1 then(some 1)else(if d > 65536 then(some 1)else(some 0)))))=some r:=h;clear h
 by_cases c2:c<12
 ·rw[if_pos c2]at H;have m:=decide_eq_true c2;clear c2;obtain rfl:=Option.some.inj H
  go_enter Tryz.func82,Tryz.ntmps82
  go_wp2_with (first |((with_reducible refine Qfe (N:=1) rfl ?_);refine qq_e 1 #[.int .u8 c,.int .u32 d] 40 ?_;intro a hg w3 hbox hb;have n_:=qn4 (Qeu qq_b hb) (hbox) (qq_s hg:w.heap.size≤a) (qq_s hg:w.heap.size≤a);clear HB;obtain⟨HB,b,g,j⟩:=n_;clear hb hbox hg;obtain⟨x,y⟩:=qc2 b.out;have G:=Qdm b.out))
  go_ret
  exact⟨qq_5,qq_b⟩
 ·rw [if_neg c2]at H;have m:=decide_eq_false c2;clear c2
  by_cases c5:c > 24
  ·rw[if_pos c5]at H;have n:decide (24<c)=true:=decide_eq_true c5;clear c5;obtain rfl:=Option.some.inj H
   go_enter Tryz.func82,Tryz.ntmps82
   go_wp2_with (first |((with_reducible refine Qfe (N:=1) rfl ?_);refine qq_e 1 #[.int .u8 c,.int .u32 d] 40 ?_;intro a hg w6 hbox hb;have n_:=qn4 (Qeu qq_b hb) (hbox) (qq_s hg:w.heap.size≤a) (qq_s hg:w.heap.size≤a);clear HB;obtain⟨HB,b,g,j⟩:=n_;clear hb hbox hg;obtain⟨z,A⟩:=qc2 b.out;have I:=Qdm b.out))
   go_ret
   exact⟨qq_5,qq_b⟩
  ·rw[if_neg c5]at H;have n:decide (24<c)=false:=decide_eq_false c5;clear c5
   by_cases c8:d<1
   ·rw[if_pos c8]at H;have o:=decide_eq_true c8;clear c8;obtain rfl:=Option.some.inj H
    go_enter Tryz.func82,Tryz.ntmps82
    go_wp2_with (first |((with_reducible refine Qfe (N:=1) rfl ?_);refine qq_e 1 #[.int .u8 c,.int .u32 d] 40 ?_;intro a hg w9 hbox hb;have n_:=qn4 (Qeu qq_b hb) (hbox) (qq_s hg:w.heap.size≤a) (qq_s hg:w.heap.size≤a);clear HB;obtain⟨HB,b,g,j⟩:=n_;clear hb hbox hg;obtain⟨p,q⟩:=qc2 b.out;have B:=Qdm b.out))
    go_ret
    exact⟨qq_5,qq_b⟩
   ·rw[if_neg c8]at H;have o:=decide_eq_false c8;clear c8
    by_cases k:d > 65536
    ·rw[if_pos k]at H;have l:decide (65536<d)=true:=decide_eq_true k;clear k;obtain rfl:=Option.some.inj H
     go_enter Tryz.func82,Tryz.ntmps82
     go_wp2_with (first |((with_reducible refine Qfe (N:=1) rfl ?_);refine qq_e 1 #[.int .u8 c,.int .u32 d] 40 ?_;intro a hg J hbox hb;have n_:=qn4 (Qeu qq_b hb) (hbox) (qq_s hg:w.heap.size≤a) (qq_s hg:w.heap.size≤a);clear HB;obtain⟨HB,b,g,j⟩:=n_;clear hb hbox hg;obtain⟨s,t⟩:=qc2 b.out;have D:=Qdm b.out))
     go_ret
     exact⟨qq_5,qq_b⟩
    ·rw[if_neg k]at H;have l:decide (65536<d)=false:=decide_eq_false k;clear k;obtain rfl:=Option.some.inj H
     go_enter Tryz.func82,Tryz.ntmps82
     go_wp2_with (first |((with_reducible refine Qfe (N:=1) rfl ?_);refine qq_e 1 #[.int .u8 c,.int .u32 d] 40 ?_;intro a hg L hbox hb;have n_:=qn4 (Qeu qq_b hb) (hbox) (qq_s hg:w.heap.size≤a) (qq_s hg:w.heap.size≤a);clear HB;obtain⟨HB,b,g,j⟩:=n_;clear hb hbox hg;obtain⟨u,v⟩:=qc2 b.out;have E:=Qdm b.out))
     go_ret
     exact⟨qq_5,qq_b⟩
def Qbu.l0:Nat→List (S36)→List (S132)→Int→Int→Option ((List (S36)))
 | 0,_,_,_,_=>none
 | k+1,x3,x6,x7,x8=>if x8<x7 then(if 0≤x8 then(if x8<(x6.length:Int)then(if x3.length<2932031007402 then(Qbu.l0 k (x3++[(⟨false,IntKind.u64.wrap ((IntKind.u64.wrap (x8))+1),(Qil x6 x8).f0,(Qil x6 x8).f1⟩:S36)]) x6 x7 (wrap64 (x8+1)))else(none))else(none))else(none))else(some x3)
def Qbu.f(k:Nat)(l0:List (S132)):Option ((List (S36))):=Qbu.l0 k ([]:List (S36)) l0 (l0.length:Int) 0
theorem Qbu.calls(k:Nat)(A0:Option Addr)(c0:Nat)(l0:List (S132))(r:List (S36))(w:World)(hr0:Kd.C k132 w A0 l0.length l0)(hc0:l0.length≤c0)(h:Qbu.f k l0=some r) :
  Calls Tryz.prog 114 #[.slice A0 l0.length c0] w fun e w'=>∃y:Value,e=.returned (y)∧Kd.R k36 36 w' w.heap.size (fun _=>True) y r∧Below w.heap.size w w':=by
 have hu132:=Tryz.underlying132;have hu36:=Tryz.underlying36;have D:=QA hr0;have U:=QA hc0;clear hr0 hc0;have HB:=QA (Below.refl w.heap.size w);have H:(Qbu.l0 k ([]:List (S36)) l0 (l0.length:Int) 0)=some r:=h;clear h;have H':=QA H;clear H
 go_enter Tryz.func114,Tryz.ntmps114
 go_wp2
 go_loopg [3,8] k (fun kq v3 v8 w'=>∃(x3_1:List (S36)) (a:Int),v8=.int .i64 a∧Aside0 (Qbu.l0 kq x3_1 l0 (l0.length:Int) a=some r)∧Aside0 (kq≤k)∧Aside0 (Kd.R k36 36 w' w.heap.size (fun _=>True) v3 x3_1)∧Aside0 (Below w.heap.size w w'))
 case atStart=>exact⟨(([]:List (S36))),(0),qq_7,H',⟨Nat.le_refl _⟩,⟨by first|exact Kd.R_nil _ _ _ _ _|exact Kd.N_nil _ _ _ _ _|exact Kd.V_nil _ _ _ _ _|exact Kd.Q_nil _ _ _ _ _|exact Kd.S_nil _ _ _ _ _⟩,⟨qq_b⟩⟩
 case round =>
  clear H';obtain⟨x3_1,a,rfl,HA,HK1,l,HB⟩:=hrel
  cases gk with
  | zero=>exact absurd HA.out (by simp[Qbu.l0])
  | succ k1 =>
   have H:=HA.out;clear HA;simp only[Qbu.l0]at H
   by_cases c2:a<(l0.length:Int)
   ·rw [if_pos c2]at H;have z:=decide_eq_true c2;clear c2
    by_cases c3:0≤a
    ·rw[if_pos c3]at H;have M:=decide_eq_true c3;clear c3
     by_cases c4:a<(l0.length:Int)
     ·rw[if_pos c4]at H;have O:=decide_eq_true c4;clear c4
      by_cases c5:x3_1.length<2932031007402
      ·rw[if_pos c5]at H;have A:=QA c5;clear c5;obtain⟨t,d⟩:∃y_:List (S36),y_=(x3_1++[(⟨false,IntKind.u64.wrap ((IntKind.u64.wrap (a))+1),(Qil l0 a).f0,(Qil l0 a).f1⟩:S36)]):=⟨_,rfl⟩;replace H:(Qbu.l0 k1 t l0 (l0.length:Int) (wrap64 (a+1)))=some r:=by first |(rw[d];with_reducible exact H) |(have u:=(Option.bind_some _ _).symm.trans H;rw[d];with_reducible exact u) |(have u:=(Option.bind_some _ _).symm.trans H;with_reducible exact u)|with_reducible exact H |(rw[d];exact H)|exact H
       have v:=QA d;clear d;have H':=QA H;clear H;have q:0≤(a:Int):=of_decide_eq_true qq_4;have s:a<(l0.length:Int):=of_decide_eq_true qq_4;obtain⟨I,B,m,n⟩:=Qim D.out a q s
       cases B
       replace m:=qq_h HB.out m;replace n:=qq_h HB.out n;replace q:=eq_true q;replace s:=eq_true s
       go_wp2_with (first |((with_reducible refine Qfe (N:=5) rfl ?_);refine qq_e 5 #[.string (⟨#[]⟩:ByteArray),.string (⟨#[]⟩:ByteArray)] 132 ?_;intro j hg w6 hbox hb;have n_:=qn5 (Kd.R_below qq_9 hb) (Qeu qq_b hb) (hbox) (qq_s hg:w.heap.size≤j) (qq_s hg:w.heap.size≤j);clear l HB;obtain⟨l,HB,c,J,L⟩:=n_;clear hb hbox hg;obtain⟨E,G⟩:=qc2 c.out;have P:=Qdm c.out) |((with_reducible refine Qhs (b:=.append) (xs:=#[.tmp 13,.tmp 22]) rfl ?_);at_builtin;refine Kd.R_append k36 (w0:=w) w.heap.size rfl (.tmp 13) (.tmp 22) 22 36 (.agg #[(.bool false),(.int .u64 0),(.string ⟨#[]⟩),(.string ⟨#[]⟩)]) 48 rfl Tryz.underlying22 Qhy rfl (by decide) (by omega) u3 x3_1 (⟨false,IntKind.u64.wrap ((IntKind.u64.wrap (a))+1),(Qil l0 a).f0,(Qil l0 a).f1⟩:S36) [.bool false,.int .u64 (IntKind.u64.wrap ((IntKind.u64.wrap (a))+1)),.string ((Qil l0 a).f0),.string ((Qil l0 a).f1)] (fun _=>True) (fun _=>False) rfl qq_19 ?aP (fun _ hk=>hk.elim) ?aF ?aO ?aB ?aS ?aL ?_;(case aP=>exact Qib _ _ _ (⟨false,IntKind.u64.wrap ((IntKind.u64.wrap (a))+1),(Qil l0 a).f0,(Qil l0 a).f1⟩:S36));(case aB=>exact qq_b);(case aF=>exact(fun _ _=>trivial));(case aO=>exact(by(with_reducible repeat(first|apply Kd.R_alloc|apply Kd.R_drewN|apply Kd.R_drew));exact Kd.R_mono (Kd.R_far (p:=⟨j,1,none⟩) (Kd.R_far (p:=⟨j,0,none⟩) (Kd.R_types l.out c.out (by decide)) (fun _ hk=>hk.2) (.string ((Qil l0 a).f0))) (fun _ hk=>hk.2) (.string ((Qil l0 a).f1))) (fun _ hk=>trivial)));(case aS=>exact(Qet qq_b));(case aL=>have:=A.out;omega);intro T w8 ho hb hg hat;rw[← v.out]at ho;have n_:=qn3 (Qdn (g:=j) (o:=.cells #[.string ((Qil l0 a).f0),.string ((Qil l0 a).f1)] 132 (0,0)) qq_x hg (Kd.R_ne l.out c.out (by decide))) (hb) (ho);clear c HB l;obtain⟨c,HB,x⟩:=n_;clear ho hb hg hat))
       go_roundg k1
       case measure=>have:=HK1.out;omega
       case rel=>exact⟨(t),(wrap64 (a+1)),qq_7,H',⟨by have:=HK1.out;omega⟩,⟨by(with_reducible repeat(first|apply Kd.R_alloc|apply Kd.R_drewN|apply Kd.R_drew));exact x.out⟩,⟨qq_b⟩⟩
      ·rw[if_neg c5]at H;exact absurd H (by simp)
     ·rw[if_neg c4]at H;exact absurd H (by simp)
    ·rw[if_neg c3]at H;exact absurd H (by simp)
   ·rw[if_neg c2]at H;have z:=decide_eq_false c2;clear c2;obtain rfl:=Option.some.inj H;go_wp2;go_ret
    exact⟨_,by first|rfl |(simp[Qhv,Qhw]<;>rfl) |(simp[*,Qhv,Qhw]<;>rfl),by(with_reducible repeat(first|apply Kd.R_alloc|apply Kd.R_drewN|apply Kd.R_drew));exact l.out,qq_b⟩
def Qak.f(a0:Int):Option (Int):=if a0≤0 then(some 1)else(some (wrap64 ((wrap64 (a0+1))+(wrap64 (Int.tdiv (wrap64 (a0-1)) 254)))))
theorem Qak.calls(a0:Int)(r:Int)(w:World)(h:Qak.f a0=some r) :
  Calls Tryz.prog 246 #[.int .i64 a0] w fun e w'=>e=.returned (.int .i64 r)∧Drawn0 w w':=by
 have H:(if a0≤0 then(some 1)else(some (wrap64 ((wrap64 (a0+1))+(wrap64 (Int.tdiv (wrap64 (a0-1)) 254))))))=some r:=h;clear h
 by_cases c2:a0≤0
 ·rw[if_pos c2]at H;have c2b0:=decide_eq_true c2;clear c2;obtain rfl:=Option.some.inj H
  go_enter Tryz.func246,Tryz.ntmps246
  go_wp2;go_ret
  exact⟨by first|rfl |(simp;done) |(simp[*];done),by repeat(first|exact Drawn0.refl _|apply Drawn0.step)⟩
 ·rw[if_neg c2]at H;have c2b0:=decide_eq_false c2;clear c2;obtain rfl:=Option.some.inj H
  go_enter Tryz.func246,Tryz.ntmps246
  go_wp2;go_ret
  exact⟨by first|rfl |(simp;done) |(simp[*];done),by repeat(first|exact Drawn0.refl _|apply Drawn0.step)⟩
def Qad.f(a0:Int)(a1:Int):Option (Int):=if 0≤(Go.bits .and .u64 (IntKind.u64.wrap (a1)) 63)then(if 0≤(IntKind.u64.wrap (64-(Go.bits .and .u64 (IntKind.u64.wrap (a1)) 63)))then(some (Go.bits .or .u64 (shl .u64 a0 (Go.bits .and .u64 (IntKind.u64.wrap (a1)) 63)) (shr .u64 a0 (IntKind.u64.wrap (64-(Go.bits .and .u64 (IntKind.u64.wrap (a1)) 63))))))else(none))else(none)
theorem Qad.calls(a0:Int)(a1:Int)(r:Int)(w:World)(h:Qad.f a0 a1=some r) :
  Calls Tryz.prog 266 #[.int .u64 a0,.int .i64 a1] w fun e w'=>e=.returned (.int .u64 r)∧Drawn0 w w':=by
 have H:(if 0≤(Go.bits .and .u64 (IntKind.u64.wrap (a1)) 63)then(if 0≤(IntKind.u64.wrap (64-(Go.bits .and .u64 (IntKind.u64.wrap (a1)) 63)))then(some (Go.bits .or .u64 (shl .u64 a0 (Go.bits .and .u64 (IntKind.u64.wrap (a1)) 63)) (shr .u64 a0 (IntKind.u64.wrap (64-(Go.bits .and .u64 (IntKind.u64.wrap (a1)) 63))))))else(none))else(none))=some r:=h;clear h;obtain⟨a,j⟩:∃j_:Int,(Go.bits .and .u64 (IntKind.u64.wrap (a1)) 63)=j_:=⟨_,rfl⟩;replace H:(if 0≤(a)then(if 0≤(IntKind.u64.wrap (64-(a)))then(some (Go.bits .or .u64 (shl .u64 a0 (a)) (shr .u64 a0 (IntKind.u64.wrap (64-(a))))))else(none))else(none))=some r:=by first |(rw[j]at H;exact H) |(simp only[j]at H ⊢;exact H)
 by_cases c4:0≤(a)
 ·rw[if_pos c4]at H;have q:=eq_true c4;have s:=decide_eq_true c4;clear c4;obtain⟨g,b⟩:∃j_:Int,(shl .u64 a0 (a))=j_:=⟨_,rfl⟩;replace H:(if 0≤(IntKind.u64.wrap (64-(a)))then(some (Go.bits .or .u64 (g) (shr .u64 a0 (IntKind.u64.wrap (64-(a))))))else(none))=some r:=by first |(rw[b]at H;exact H) |(simp only[b]at H ⊢;exact H)
  have m:(IntKind.u64.wrap (a0*2^min (a).toNat 64))=g:=b;have n:(a)≤64→(IntKind.u64.wrap (a0*2^(a).toNat))=g:=Qht b;obtain⟨c,k⟩:∃j_:Int,(IntKind.u64.wrap (64-(a)))=j_:=⟨_,rfl⟩;replace H:(if 0≤(c)then(some (Go.bits .or .u64 (g) (shr .u64 a0 (c))))else(none))=some r:=by first |(rw[k]at H;exact H) |(simp only[k]at H ⊢;exact H)
  by_cases c7:0≤(c)
  ·rw[if_pos c7]at H;have t:=eq_true c7;have u:=decide_eq_true c7;clear c7;obtain⟨l,d⟩:∃j_:Int,(shr .u64 a0 (c))=j_:=⟨_,rfl⟩;replace H:(some (Go.bits .or .u64 (g) (l)))=some r:=by first |(rw[d]at H;exact H) |(simp only[d]at H ⊢;exact H)
   have o:(a0/2^min (c).toNat 64)=l:=d;have p:(c)≤64→(a0/2^(c).toNat)=l:=Qhu d;obtain rfl:=Option.some.inj H
   go_enter Tryz.func266,Tryz.ntmps266
   go_wp2;go_ret
   exact⟨by first|rfl |(simp;done) |(simp only[← j,← b,← k,← d]<;>(first|rfl|simp)) |(simp[*];done),by repeat(first|exact Drawn0.refl _|apply Drawn0.step)⟩
  ·rw[if_neg c7]at H;exact absurd H (by simp)
 ·rw[if_neg c4]at H;exact absurd H (by simp)
def Qcl.f(a0:Int)(a1:Int):Option (Int):=(Qad.f (IntKind.u64.wrap (a0+(IntKind.u64.wrap (a1*14029467366897019727)))) 31).bind fun t355=>(some (IntKind.u64.wrap (t355*11400714785074694791)))
theorem Qcl.calls(a0:Int)(a1:Int)(r:Int)(w:World)(h:Qcl.f a0 a1=some r) :
  Calls Tryz.prog 263 #[.int .u64 a0,.int .u64 a1] w fun e w'=>e=.returned (.int .u64 r)∧Drawn0 w w':=by
 have H:((Qad.f (IntKind.u64.wrap (a0+(IntKind.u64.wrap (a1*14029467366897019727)))) 31).bind fun t355=>(some (IntKind.u64.wrap (t355*11400714785074694791))))=some r:=h;clear h;replace H:=Option.bind_eq_some_iff.mp H;obtain⟨t355,A30,H⟩:=H;have A3:=QA A30;clear A30;obtain rfl:=Option.some.inj H
 go_enter Tryz.func263,Tryz.ntmps263
 go_wp2_with (first |((with_reducible refine Qhr (f:=266) rfl ?_);refine Qfz (some 9) rfl rfl Tryz.func266 qq_6 rfl #[.int .u64 (IntKind.u64.wrap (a0+(IntKind.u64.wrap (a1*14029467366897019727)))),.int .i64 31] rfl qq_2 ?_;(with_reducible refine(Qad.calls (IntKind.u64.wrap (a0+(IntKind.u64.wrap (a1*14029467366897019727)))) 31 t355 _ A3.out).mono ?_);rintro e w' ⟨rfl,⟨nd,rfl⟩⟩;refine⟨_,rfl,?_⟩))
 go_ret
 exact⟨by first|rfl |(simp;done) |(simp[*];done),by repeat(first|exact Drawn0.refl _|apply Drawn0.step)⟩
def Qcm.l0:Nat→List Int→Int→Int→Int→Option (Int)
 | 0,_,_,_,_=>none
 | k+1,x0,x5,x7,x8=>if x8<x7 then(if 0≤x8 then(if x8<(x0.length:Int)then(if 0≤(wrap64 (8*x8))then(Qcm.l0 k x0 (Go.bits .or .u64 x5 (shl .u64 (IntKind.u64.wrap (rd x0 x8)) (wrap64 (8*x8)))) x7 (wrap64 (x8+1)))else(none))else(none))else(none))else(some x5)
def Qcm.f(k:Nat)(l0:List Int)(a1:Int):Option (Int):=Qcm.l0 k l0 0 a1 0
theorem Qcm.calls(k:Nat)(A0:Option Addr)(c0:Nat)(l0:List Int)(a1:Int)(r:Int)(w:World)(hr0:Kd.C (Kd.int .u8) w A0 l0.length l0)(hc0:l0.length≤c0)(h:Qcm.f k l0 a1=some r) :
  Calls Tryz.prog 264 #[.slice A0 l0.length c0,.int .i64 a1] w fun e w'=>e=.returned (.int .u64 r)∧Drawn0 w w':=by
 have q:=QA hr0;have B:=QA hc0;clear hr0 hc0;have H:(Qcm.l0 k l0 0 a1 0)=some r:=h;clear h;have H':=QA H;clear H
 go_enter Tryz.func264,Tryz.ntmps264
 go_wp2
 go_loopg [5,8] k (fun kq v5 v8 w'=>∃(b:Int) (a:Int),v5=.int .u64 b∧v8=.int .i64 a∧Aside0 (Qcm.l0 kq l0 b a1 a=some r)∧Aside0 (kq≤k)∧Drawn0 w w')
 case atStart=>exact⟨(0),(0),qq_7,qq_7,H',⟨Nat.le_refl _⟩,by repeat(first|exact Drawn0.refl _|apply Drawn0.step)⟩
 case round =>
  clear H';obtain⟨b,a,rfl,rfl,HA,HK1,⟨m1,rfl⟩⟩:=hrel
  cases gk with
  | zero=>exact absurd HA.out (by simp[Qcm.l0])
  | succ k1 =>
   have H:=HA.out;clear HA;simp only[Qcm.l0]at H
   by_cases c3:a<a1
   ·rw [if_pos c3]at H;have n:=decide_eq_true c3;clear c3
    by_cases c4:0≤a
    ·rw[if_pos c4]at H;have x:=decide_eq_true c4;clear c4
     by_cases c5:a<(l0.length:Int)
     ·rw[if_pos c5]at H;have y:=decide_eq_true c5;clear c5;obtain⟨c,g⟩:∃j_:Int,(wrap64 (8*a))=j_:=⟨_,rfl⟩;replace H:(if 0≤(c)then(Qcm.l0 k1 l0 (Go.bits .or .u64 b (shl .u64 (IntKind.u64.wrap (rd l0 a)) (c))) a1 (wrap64 (a+1)))else(none))=some r:=by first |(rw[g]at H;exact H) |(simp only[g]at H ⊢;exact H)
      have s:(IntKind.i64.wrap (8*a))=c:=(Qgb _).trans g
      by_cases c7:0≤(c)
      ·rw[if_pos c7]at H;have z:=eq_true c7;have A:=decide_eq_true c7;clear c7;obtain⟨m,d⟩:∃j_:Int,(shl .u64 (IntKind.u64.wrap (rd l0 a)) (c))=j_:=⟨_,rfl⟩;replace H:(Qcm.l0 k1 l0 (Go.bits .or .u64 b (m)) a1 (wrap64 (a+1)))=some r:=by first |(rw[d]at H;exact H) |(simp only[d]at H ⊢;exact H)
       have t:(IntKind.u64.wrap ((IntKind.u64.wrap (rd l0 a))*2^min (c).toNat 64))=m:=d;have u:(c)≤64→(IntKind.u64.wrap ((IntKind.u64.wrap (rd l0 a))*2^(c).toNat))=m:=Qht d;have H':=QA H;clear H;have j:0≤(a:Int):=of_decide_eq_true qq_4;have l:a<(l0.length:Int):=of_decide_eq_true qq_4;obtain⟨v,o,p⟩:=Kd.at_int q.out a j l
       cases o
       replace j:=eq_true j;replace l:=eq_true l;go_wp2
       go_roundg k1
       case measure=>have:=HK1.out;omega
       case rel=>exact⟨(Go.bits .or .u64 b (m)),(wrap64 (a+1)),(by first|rfl |(simp;done) |(simp only[← d]<;>(first|rfl|simp)) |(simp[*];done)),qq_7,H',⟨by have:=HK1.out;omega⟩,by repeat(first|exact Drawn0.refl _|apply Drawn0.step)⟩
      ·rw[if_neg c7]at H;exact absurd H (by simp)
     ·rw[if_neg c5]at H;exact absurd H (by simp)
    ·rw[if_neg c4]at H;exact absurd H (by simp)
   ·rw[if_neg c3]at H;have n:=decide_eq_false c3;clear c3;obtain rfl:=Option.some.inj H;go_wp2;go_ret
    exact⟨by first|rfl |(simp;done) |(simp[*];done),by repeat(first|exact Drawn0.refl _|apply Drawn0.step)⟩
def Qax.l0:Nat→ByteArray→Int→Int→Option (Int)
 | 0,_,_,_=>none
 | k+1,x0,x3,x4=>if x4≥0 then(if 0≤x4 then(if x4<(x0.size:Int)then(Qax.l0 k x0 (IntKind.u64.wrap ((IntKind.u64.wrap (x3*256))+(IntKind.u64.wrap (bt x0 x4)))) (wrap64 (x4-1)))else(none))else(none))else(some x3)
def Qax.f(k:Nat)(a0:ByteArray):Option (Int):=Qax.l0 k a0 0 (wrap64 ((a0.size:Int)-1))
theorem Qax.calls(k:Nat)(a0:ByteArray)(r:Int)(w:World)(h:Qax.f k a0=some r) :
  Calls Tryz.prog 104 #[.string a0] w fun e w'=>e=.returned (.int .u64 r)∧Drawn0 w w':=by
 have H:(Qax.l0 k a0 0 (wrap64 ((a0.size:Int)-1)))=some r:=h;clear h;have H':=QA H;clear H
 go_enter Tryz.func104,Tryz.ntmps104
 go_wp2
 go_loopg [3,4] k (fun kq v3 v4 w'=>∃(x3_1:Int) (a:Int),v3=.int .u64 x3_1∧v4=.int .i64 a∧Aside0 (Qax.l0 kq a0 x3_1 a=some r)∧Aside0 (kq≤k)∧Drawn0 w w')
 case atStart=>exact⟨(0),(wrap64 ((a0.size:Int)-1)),qq_7,qq_7,H',⟨Nat.le_refl _⟩,by repeat(first|exact Drawn0.refl _|apply Drawn0.step)⟩
 case round =>
  clear H';obtain⟨x3_1,a,rfl,rfl,HA,HK1,⟨m1,rfl⟩⟩:=hrel
  cases gk with
  | zero=>exact absurd HA.out (by simp[Qax.l0])
  | succ k1 =>
   have H:=HA.out;clear HA;simp only[Qax.l0]at H
   by_cases c2:a≥0
   ·rw[if_pos c2]at H;have b:decide (0≤a)=true:=decide_eq_true c2;clear c2
    by_cases c3:0≤a
    ·rw[if_pos c3]at H;have c:=decide_eq_true c3;clear c3
     by_cases c4:a<(a0.size:Int)
     ·rw[if_pos c4]at H;have d:=decide_eq_true c4;clear c4;have H':=QA H;clear H;have p5:0≤(a:Int):=of_decide_eq_true qq_4;have q5:a<(a0.size:Int):=of_decide_eq_true qq_4;have g:=bt_at a0 a;replace p5:=eq_true p5;replace q5:=eq_true q5;go_wp2
      go_roundg k1
      case measure=>have:=HK1.out;omega
      case rel=>exact⟨(IntKind.u64.wrap ((IntKind.u64.wrap (x3_1*256))+(IntKind.u64.wrap (bt a0 a)))),(wrap64 (a-1)),qq_7,qq_7,H',⟨by have:=HK1.out;omega⟩,by repeat(first|exact Drawn0.refl _|apply Drawn0.step)⟩
     ·rw[if_neg c4]at H;exact absurd H (by simp)
    ·rw[if_neg c3]at H;exact absurd H (by simp)
   ·rw[if_neg c2]at H;have b:decide (0≤a)=false:=decide_eq_false c2;clear c2;obtain rfl:=Option.some.inj H;go_wp2;go_ret
    exact⟨by first|rfl |(simp;done) |(simp[*];done),by repeat(first|exact Drawn0.refl _|apply Drawn0.step)⟩
def Qaq.f(a0:Int)(a1:Int):Option (Int):=if a0=0 then(some 4)else(if a0 > 4096 then(some 3)else(if a1 > 1048576 then(some 3)else(some 0)))
theorem Qaq.calls(a0:Int)(a1:Int)(r:Int)(w:World)(h:Qaq.f a0 a1=some r) :
  Calls Tryz.prog 222 #[.int .u64 a0,.int .u64 a1] w fun e w'=>e=.returned (.int .i64 r)∧Drawn0 w w':=by
 have H:(if a0=0 then(some 4)else(if a0 > 4096 then(some 3)else(if a1 > 1048576 then(some 3)else(some 0))))=some r:=h;clear h
 by_cases c3:a0=0
 ·rw[if_pos c3]at H;have a:(a0 == 0)=true:=beq_iff_eq.mpr c3;have b:(a0 != 0)=false:=bne_eq_false_iff_eq.mpr c3;clear c3;obtain rfl:=Option.some.inj H
  go_enter Tryz.func222,Tryz.ntmps222
  go_wp2;go_ret
  exact⟨by first|rfl |(simp;done) |(simp[*];done),by repeat(first|exact Drawn0.refl _|apply Drawn0.step)⟩
 ·rw[if_neg c3]at H;have a:(a0 == 0)=false:=beq_eq_false_iff_ne.mpr c3;have b:(a0 != 0)=true:=bne_iff_ne.mpr c3
  by_cases c4:a0 > 4096
  ·rw[if_pos c4]at H;have c:decide (4096<a0)=true:=decide_eq_true c4;clear c4;obtain rfl:=Option.some.inj H
   go_enter Tryz.func222,Tryz.ntmps222
   go_wp2;go_ret
   exact⟨by first|rfl |(simp;done) |(simp[*];done),by repeat(first|exact Drawn0.refl _|apply Drawn0.step)⟩
  ·rw[if_neg c4]at H;have c:decide (4096<a0)=false:=decide_eq_false c4;clear c4
   by_cases c5:a1 > 1048576
   ·rw[if_pos c5]at H;have d:decide (1048576<a1)=true:=decide_eq_true c5;clear c5;obtain rfl:=Option.some.inj H
    go_enter Tryz.func222,Tryz.ntmps222
    go_wp2;go_ret
    exact⟨by first|rfl |(simp;done) |(simp[*];done),by repeat(first|exact Drawn0.refl _|apply Drawn0.step)⟩
   ·rw[if_neg c5]at H;have d:decide (1048576<a1)=false:=decide_eq_false c5;clear c5;obtain rfl:=Option.some.inj H
    go_enter Tryz.func222,Tryz.ntmps222
    go_wp2;go_ret
    exact⟨by first|rfl |(simp;done) |(simp[*];done),by repeat(first|exact Drawn0.refl _|apply Drawn0.step)⟩
def Qac.f(a0:Int)(a1:Int):Option (Int):=if 0≤(Go.bits .and .u64 (IntKind.u64.wrap (a1)) 31)then(if 0≤(IntKind.u64.wrap (32-(Go.bits .and .u64 (IntKind.u64.wrap (a1)) 31)))then(some (Go.bits .or .u32 (shl .u32 a0 (Go.bits .and .u64 (IntKind.u64.wrap (a1)) 31)) (shr .u32 a0 (IntKind.u64.wrap (32-(Go.bits .and .u64 (IntKind.u64.wrap (a1)) 31))))))else(none))else(none)
theorem Qac.calls(a0:Int)(a1:Int)(r:Int)(w:World)(h:Qac.f a0 a1=some r) :
  Calls Tryz.prog 226 #[.int .u32 a0,.int .i64 a1] w fun e w'=>e=.returned (.int .u32 r)∧Drawn0 w w':=by
 have H:(if 0≤(Go.bits .and .u64 (IntKind.u64.wrap (a1)) 31)then(if 0≤(IntKind.u64.wrap (32-(Go.bits .and .u64 (IntKind.u64.wrap (a1)) 31)))then(some (Go.bits .or .u32 (shl .u32 a0 (Go.bits .and .u64 (IntKind.u64.wrap (a1)) 31)) (shr .u32 a0 (IntKind.u64.wrap (32-(Go.bits .and .u64 (IntKind.u64.wrap (a1)) 31))))))else(none))else(none))=some r:=h;clear h;obtain⟨a,j⟩:∃j_:Int,(Go.bits .and .u64 (IntKind.u64.wrap (a1)) 31)=j_:=⟨_,rfl⟩;replace H:(if 0≤(a)then(if 0≤(IntKind.u64.wrap (32-(a)))then(some (Go.bits .or .u32 (shl .u32 a0 (a)) (shr .u32 a0 (IntKind.u64.wrap (32-(a))))))else(none))else(none))=some r:=by first |(rw[j]at H;exact H) |(simp only[j]at H ⊢;exact H)
 by_cases c4:0≤(a)
 ·rw[if_pos c4]at H;have q:=eq_true c4;have s:=decide_eq_true c4;clear c4;obtain⟨g,b⟩:∃j_:Int,(shl .u32 a0 (a))=j_:=⟨_,rfl⟩;replace H:(if 0≤(IntKind.u64.wrap (32-(a)))then(some (Go.bits .or .u32 (g) (shr .u32 a0 (IntKind.u64.wrap (32-(a))))))else(none))=some r:=by first |(rw[b]at H;exact H) |(simp only[b]at H ⊢;exact H)
  have m:(IntKind.u32.wrap (a0*2^min (a).toNat 32))=g:=b;have n:(a)≤32→(IntKind.u32.wrap (a0*2^(a).toNat))=g:=Qht b;obtain⟨c,k⟩:∃j_:Int,(IntKind.u64.wrap (32-(a)))=j_:=⟨_,rfl⟩;replace H:(if 0≤(c)then(some (Go.bits .or .u32 (g) (shr .u32 a0 (c))))else(none))=some r:=by first |(rw[k]at H;exact H) |(simp only[k]at H ⊢;exact H)
  by_cases c7:0≤(c)
  ·rw[if_pos c7]at H;have t:=eq_true c7;have u:=decide_eq_true c7;clear c7;obtain⟨l,d⟩:∃j_:Int,(shr .u32 a0 (c))=j_:=⟨_,rfl⟩;replace H:(some (Go.bits .or .u32 (g) (l)))=some r:=by first |(rw[d]at H;exact H) |(simp only[d]at H ⊢;exact H)
   have o:(a0/2^min (c).toNat 32)=l:=d;have p:(c)≤32→(a0/2^(c).toNat)=l:=Qhu d;obtain rfl:=Option.some.inj H
   go_enter Tryz.func226,Tryz.ntmps226
   go_wp2;go_ret
   exact⟨by first|rfl |(simp;done) |(simp only[← j,← b,← k,← d]<;>(first|rfl|simp)) |(simp[*];done),by repeat(first|exact Drawn0.refl _|apply Drawn0.step)⟩
  ·rw[if_neg c7]at H;exact absurd H (by simp)
 ·rw[if_neg c4]at H;exact absurd H (by simp)
def Qcj.f(l0:List Int):Option (Int):=if 0<(l0.length:Int)then(if 1<(l0.length:Int)then(if 2<(l0.length:Int)then(if 3<(l0.length:Int)then(some (Go.bits .or .u32 (Go.bits .or .u32 (Go.bits .or .u32 ((rd l0 0)%4294967296) ((((rd l0 1)%4294967296)*256)%4294967296)) ((((rd l0 2)%4294967296)*65536)%4294967296)) ((((rd l0 3)%4294967296)*16777216)%4294967296)))else(none))else(none))else(none))else(none)
theorem Qcj.calls(A0:Option Addr)(c0:Nat)(l0:List Int)(r:Int)(w:World)(hr0:Kd.C (Kd.int .u8) w A0 l0.length l0)(hc0:l0.length≤c0)(h:Qcj.f l0=some r) :
  Calls Tryz.prog 227 #[.slice A0 l0.length c0] w fun e w'=>e=.returned (.int .u32 r)∧Drawn0 w w':=by
 have s:=QA hr0;have O:=QA hc0;clear hr0 hc0;have H:(if 0<(l0.length:Int)then(if 1<(l0.length:Int)then(if 2<(l0.length:Int)then(if 3<(l0.length:Int)then(some (Go.bits .or .u32 (Go.bits .or .u32 (Go.bits .or .u32 ((rd l0 0)%4294967296) ((((rd l0 1)%4294967296)*256)%4294967296)) ((((rd l0 2)%4294967296)*65536)%4294967296)) ((((rd l0 3)%4294967296)*16777216)%4294967296)))else(none))else(none))else(none))else(none))=some r:=h;clear h
 by_cases c2:0<(l0.length:Int)
 ·rw [if_pos c2]at H;have B:=decide_eq_true c2;have D:decide (0<l0.length)=true:=decide_eq_true (by omega);clear c2
  by_cases c3:1<(l0.length:Int)
  ·rw[if_pos c3]at H;have E:=decide_eq_true c3;have G:decide (1<l0.length)=true:=decide_eq_true (by omega);clear c3
   by_cases c4:2<(l0.length:Int)
   ·rw[if_pos c4]at H;have I:=decide_eq_true c4;have J:decide (2<l0.length)=true:=decide_eq_true (by omega);clear c4
    by_cases c5:3<(l0.length:Int)
    ·rw[if_pos c5]at H;have L:=decide_eq_true c5;have M:decide (3<l0.length)=true:=decide_eq_true (by omega);clear c5;obtain rfl:=Option.some.inj H;have j:0≤(0:Int):=(by omega);have k:0<(l0.length:Int):=of_decide_eq_true qq_4;obtain⟨g,x,a⟩:=Kd.at_int s.out 0 j k
     cases x
     have qi226:(0<l0.length)=True:=eq_true (by omega)
     (try rw[show((0:Int)).toNat=0 from rfl]at a)
     (try rw[Addr.add_zero']at a)
     replace j:=eq_true j;replace k:=eq_true k;have l:0≤(1:Int):=(by omega);have m:1<(l0.length:Int):=of_decide_eq_true qq_4;obtain⟨t,y,b⟩:=Kd.at_int s.out 1 l m;obtain rfl:g=t:=(by injection y)
     (try simp only[show(1:Int).toNat=1 from rfl,Nat.reduceMul,Nat.reduceEqDiff,Go.Addr.add,↓reduceIte]at b)
     have qi227:(1<l0.length)=True:=eq_true (by omega)
     (try rw[show((1:Int)).toNat=1 from rfl]at b)
     replace l:=eq_true l;replace m:=eq_true m;have n:0≤(2:Int):=(by omega);have o:2<(l0.length:Int):=of_decide_eq_true qq_4;obtain⟨u,z,c⟩:=Kd.at_int s.out 2 n o;obtain rfl:g=u:=(by injection z)
     (try simp only[show(2:Int).toNat=2 from rfl,Nat.reduceMul,Nat.reduceEqDiff,Go.Addr.add,↓reduceIte]at c)
     have qi228:(2<l0.length)=True:=eq_true (by omega)
     (try rw[show((2:Int)).toNat=2 from rfl]at c)
     replace n:=eq_true n;replace o:=eq_true o;have p:0≤(3:Int):=(by omega);have q:3<(l0.length:Int):=of_decide_eq_true qq_4;obtain⟨v,A,d⟩:=Kd.at_int s.out 3 p q;obtain rfl:g=v:=(by injection A)
     (try simp only[show(3:Int).toNat=3 from rfl,Nat.reduceMul,Nat.reduceEqDiff,Go.Addr.add,↓reduceIte]at d)
     have qi229:(3<l0.length)=True:=eq_true (by omega)
     (try rw[show((3:Int)).toNat=3 from rfl]at d)
     replace p:=eq_true p;replace q:=eq_true q
     go_enter Tryz.func227,Tryz.ntmps227
     go_wp2
     repeat(go_quiet (fail);try go_wp2)
     go_ret
     exact⟨by first|rfl |(simp;done) |(simp[*];done),by repeat(first|exact Drawn0.refl _|apply Drawn0.step)⟩
    ·rw[if_neg c5]at H;exact absurd H (by simp)
   ·rw[if_neg c4]at H;exact absurd H (by simp)
  ·rw[if_neg c3]at H;exact absurd H (by simp)
 ·rw[if_neg c2]at H;exact absurd H (by simp)
def Qcd.j0:Nat→Bool→Bool→Int→ByteArray→ByteArray→Option (Int)
 | 0,_,_,_,_,_=>none
 | k+1,x12,x105000,x105001,x105002,x105003=>if x12=true then(some 4)else(if(x105003.size:Int) > 1048576 then(some 3)else(some 0))
def Qcd.f(k:Nat)(a0_0:Bool)(a0_1:Int)(a0_2:ByteArray)(a0_3:ByteArray):Option (Int):=if a0_2.toList=([]:List UInt8)then(some 4)else(if(a0_2.size:Int) > 4096 then(some 3)else(if a0_0=true then(Qcd.j0 k (a0_3.toList != ([]:List UInt8)) a0_0 a0_1 a0_2 a0_3)else(Qcd.j0 k false a0_0 a0_1 a0_2 a0_3)))
theorem Qcd.mono_l:∀k,(∀y0 y1 y2 y3 y4,LeO (Qcd.j0 k y0 y1 y2 y3 y4) (Qcd.j0 (k+1) y0 y1 y2 y3 y4))
 | 0=>fun _ _ _ _ _ r h=>by simp[Qcd.j0]at h
 | k+1=>by
  have ih0:=Qcd.mono_l k
  ·intro y0 y1 y2 y3 y4;unfold Qcd.j0
   repeat' first
   |(with_reducible exact ih0 _ _ _ _ _)
   |(with_reducible exact LeO.refl _)
   |(with_reducible exact LeO.none _)
   |(with_reducible refine LeO.ite ?_ ?_)
   |(with_reducible refine LeO.bind ?_ (fun _=>?_))
   | exact ih0 _ _ _ _ _
   | exact LeO.none _
   | refine LeO.ite ?_ ?_
   | refine LeO.bind ?_ (fun _=>?_)
theorem Qcd.mono:∀a0 a1 a2 a3 k,LeO (Qcd.f k a0 a1 a2 a3) (Qcd.f (k+1) a0 a1 a2 a3):=by
 intro a0 a1 a2 a3 k;have ih0:=Qcd.mono_l k;unfold Qcd.f
 repeat' first
   |(with_reducible exact ih0 _ _ _ _ _)
   |(with_reducible exact LeO.refl _)
   |(with_reducible exact LeO.none _)
   |(with_reducible refine LeO.ite ?_ ?_)
   |(with_reducible refine LeO.bind ?_ (fun _=>?_))
   | exact ih0 _ _ _ _ _
   | exact LeO.none _
   | refine LeO.ite ?_ ?_
   | refine LeO.bind ?_ (fun _=>?_)
theorem Qcd.calls(k:Nat)(g:Bool)(j:Int)(b:ByteArray)(c:ByteArray)(r:Int)(w:World)(h:Qcd.f k g j b c=some r) :
  Calls Tryz.prog 91 #[.agg #[.bool g,.int .u64 j,.string b,.string c]] w fun e w'=>e=.returned (.int .i64 r)∧Below w.heap.size w w':=by
 have hu36:=Tryz.underlying36;have HB:=QA (Below.refl w.heap.size w);have H:(if b.toList=([]:List UInt8)then(some 4)else(if(b.size:Int) > 4096 then(some 3)else(if g=true then(Qcd.j0 k (c.toList != ([]:List UInt8)) g j b c)else(Qcd.j0 k false g j b c))))=some r:=h;clear h
 by_cases c2:b.toList=([]:List UInt8)
 ·rw[if_pos c2]at H;have I:(b.toList == ([]:List UInt8))=true:=beq_iff_eq.mpr c2;have J:(b.toList != ([]:List UInt8))=false:=bne_eq_false_iff_eq.mpr c2;clear c2;obtain rfl:=Option.some.inj H
  go_enter Tryz.func91,Tryz.ntmps91
  go_wp2_with (first |((with_reducible refine Qfe (N:=1) rfl ?_);refine qq_e 1 #[.bool g,.int .u64 j,.string b,.string c] 36 ?_;intro d hg w3 hbox hb;have n_:=qn4 (Qeu qq_b hb) (hbox) (qq_s hg:w.heap.size≤d) (qq_s hg:w.heap.size≤d);clear HB;obtain⟨HB,a,o,p⟩:=n_;clear hb hbox hg;obtain⟨L,M,O,P⟩:=qc4 a.out;have ag:=Qdm a.out))
  go_ret
  exact⟨qq_5,qq_b⟩
 ·rw [if_neg c2]at H;have I:(b.toList == ([]:List UInt8))=false:=beq_eq_false_iff_ne.mpr c2;have J:(b.toList != ([]:List UInt8))=true:=bne_iff_ne.mpr c2
  by_cases c5:(b.size:Int) > 4096
  ·rw[if_pos c5]at H;have T:decide (4096<(b.size:Int))=true:=decide_eq_true c5;have U:decide (4096<b.size)=true:=decide_eq_true (by omega);clear c5;obtain rfl:=Option.some.inj H
   go_enter Tryz.func91,Tryz.ntmps91
   go_wp2_with (first |((with_reducible refine Qfe (N:=1) rfl ?_);refine qq_e 1 #[.bool g,.int .u64 j,.string b,.string c] 36 ?_;intro d hg w6 hbox hb;have n_:=qn4 (Qeu qq_b hb) (hbox) (qq_s hg:w.heap.size≤d) (qq_s hg:w.heap.size≤d);clear HB;obtain⟨HB,a,o,p⟩:=n_;clear hb hbox hg;obtain⟨W,X,Y,Z⟩:=qc4 a.out;have ah:=Qdm a.out))
   go_ret
   exact⟨qq_5,qq_b⟩
  ·rw [if_neg c5]at H;have T:decide (4096<(b.size:Int))=false:=decide_eq_false c5;have U:decide (4096<b.size)=false:=decide_eq_false (by omega);clear c5;have aa:=QA H;clear H
   go_enter Tryz.func91,Tryz.ntmps91
   go_upto_region 5 with(first |((with_reducible refine Qfe (N:=1) rfl ?_);refine qq_e 1 #[.bool g,.int .u64 j,.string b,.string c] 36 ?_;intro d hg w9 hbox hb;have n_:=qn4 (Qeu qq_b hb) (hbox) (qq_s hg:w.heap.size≤d) (qq_s hg:w.heap.size≤d);clear HB;obtain⟨HB,a,o,p⟩:=n_;clear hb hbox hg;obtain⟨s,t,u,v⟩:=qc4 a.out;have ab:=Qdm a.out))
   (try simp only[Act.put,List.setIfInBounds_toArray,List.set_cons_zero,List.set_cons_succ])
   go_cut [12] (fun aq wc=>∃(kq:Nat) (l:Bool),aq=.bool l∧Aside0 (Qcd.j0 kq l g j b c=some r)∧Aside0 (kq≤k)∧Aside0 (wc.heap[d]? = some (.cells #[.bool g,.int .u64 j,.string b,.string c] 36 (0,0)))∧Aside0 (Below w.heap.size w wc))
   case first =>
    have H:=aa.out;clear aa
    by_cases n:g=true
    ·subst n;rw[if_pos rfl]at H;have H':=QA H;clear H;obtain⟨x,y,z,A⟩:=qc4 a.out;have ac:=Qdm a.out;go_wp2
     go_meet
     case rel=>exact⟨_,((c.toList != ([]:List UInt8))),(by first|rfl |(simp;done) |(simp[*];done) |(cases c.toList<;>rfl)),H',⟨by first|omega|exact Nat.le_refl _⟩,⟨by(with_reducible repeat(first|apply Qdx|apply Qdw|apply Qdv));exact a.out⟩,⟨qq_b⟩⟩
    ·replace n:=Bool.eq_false_iff.mpr n;subst n;rw[if_neg (show ¬(false=true)by decide)]at H;have H':=QA H;clear H;obtain⟨B,D,E,G⟩:=qc4 a.out;have ad:=Qdm a.out;go_wp2
     go_meet
     case rel=>exact⟨_,(false),(by first|rfl |(simp;done) |(simp[*];done) |(cases c.toList<;>rfl)),H',⟨by first|omega|exact Nat.le_refl _⟩,⟨by(with_reducible repeat(first|apply Qdx|apply Qdw|apply Qdv));exact a.out⟩,⟨qq_b⟩⟩
   case rest =>
    clear aa
    try clear c2
    try clear I
    try clear J
    try clear c5
    try clear T
    try clear U
    try clear n
    try clear s
    try clear t
    try clear u
    try clear v
    try clear x
    try clear y
    try clear z
    try clear A
    try clear B
    try clear D
    try clear E
    try clear G
    try clear L
    try clear M
    try clear O
    try clear P
    try clear W
    try clear X
    try clear Y
    try clear Z
    try clear ab
    try clear ac
    try clear ad
    try clear ag
    try clear ah
    obtain⟨kq,l,rfl,HA,HJ7,a,HB⟩:=hcut
    cases kq with
    | zero=>exact absurd HA.out (by simp[Qcd.j0])
    | succ kj7 =>
     have H:=HA.out;clear HA;simp only[Qcd.j0]at H
     by_cases q:l=true
     ·subst q;rw[if_pos rfl]at H;obtain rfl:=Option.some.inj H;go_wp2;go_ret
      exact⟨qq_5,qq_b⟩
     ·replace q:=Bool.eq_false_iff.mpr q;subst q;rw[if_neg (show ¬(false=true)by decide)]at H
      by_cases m:(c.size:Int) > 1048576
      ·rw[if_pos m]at H;have ae:decide (1048576<(c.size:Int))=true:=decide_eq_true m;have af:decide (1048576<c.size)=true:=decide_eq_true (by omega);clear m;obtain rfl:=Option.some.inj H;obtain⟨ai,aj,ak,al⟩:=qc4 a.out;have ar:=Qdm a.out;go_wp2;go_ret
       exact⟨qq_5,qq_b⟩
      ·rw[if_neg m]at H;have ae:decide (1048576<(c.size:Int))=false:=decide_eq_false m;have af:decide (1048576<c.size)=false:=decide_eq_false (by omega);clear m;obtain rfl:=Option.some.inj H;obtain⟨am,an,ao,ap⟩:=qc4 a.out;have au:=Qdm a.out;go_wp2;go_ret
       exact⟨qq_5,qq_b⟩
def Qaj.f(a0:Int):Option (Bool):=some (a0 != a0)
theorem Qaj.calls(a0:Int)(r:Bool)(w:World)(h:Qaj.f a0=some r) :
  Calls Tryz.prog 131 #[.int .u64 a0] w fun e w'=>e=.returned (.bool r)∧Drawn0 w w':=by
 have H:(some (a0 != a0))=some r:=h;clear h;obtain rfl:=Option.some.inj H
 go_enter Tryz.func131,Tryz.ntmps131
 go_wp2;go_ret
 exact⟨by first|rfl |(simp;done) |(simp[*];done),by repeat(first|exact Drawn0.refl _|apply Drawn0.step)⟩
end Go.Proofs.YtepkfjmjidjedaaGreat.C
end
