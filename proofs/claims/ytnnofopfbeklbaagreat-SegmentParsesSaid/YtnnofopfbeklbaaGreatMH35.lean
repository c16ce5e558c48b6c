/- Texts of this claim's author and of the print of its functions, merged by merge.py. -/
import Derived.Test.YtnnofopfbeklbaaGreatMH02
import Derived.Test.YtnnofopfbeklbaaGreatMH19
import Derived.Test.YtnnofopfbeklbaaGreatMH23
import Derived.Test.YtnnofopfbeklbaaGreatMH28
import Derived.Test.YtnnofopfbeklbaaGreatMH26
import Derived.Test.YtnnofopfbeklbaaGreatMH33
import Derived.Test.YtnnofopfbeklbaaGreatMH34
import Derived.Test.YtnnofopfbeklbaaGreatMH11
import Derived.Test.YtnnofopfbeklbaaGreatMH00
import Derived.SizedLaws
import Derived.Deep.Slices
import Derived.Lib.SmallJoins
import Derived.ChangeArms
import Derived.Test.YtnnofopfbeklbaaGreatMH21
import Derived.Test.YtnnofopfbeklbaaGreatMH25
import Derived.Test.YtnnofopfbeklbaaGreatMH17
import Derived.Test.YtnnofopfbeklbaaGreatMH10
import Derived.Test.YtnnofopfbeklbaaGreatMH31
set_option linter.unusedVariables false
set_option linter.unusedSimpArgs false
set_option maxHeartbeats 8000000
set_option maxRecDepth 100000
section
namespace Go.Proofs.YtnnofopfbeklbaaGreat.C
open Go.RowKit Go.Proofs.YtnnofopfbeklbaaGreatW.PrintWords Go.Proofs.YtnnofopfbeklbaaGreatW.PrintLast Go.Proofs.YtnnofopfbeklbaaGreatW.PrintMore
def SPT(k:Nat)(e s n:Int)(t:List Int):Prop :=
 (Qul k e s n t none 1∧Qbq.f e s n=some false) ∨
 (Qul k e s n t none 4∧Qbq.f e s n=some true∧∃l0 se,Qcd.f k e s n (strOfNums t)=some (l0,se,false)) ∨
 (Qbq.f e s n=some true∧∃(l:List Rec) (ps:List Int) (sl:Bool) (tx:ByteArray) (tb:List REnt15),(l.length≤1000000∧tx.size≤1000000000)∧ps.length=l.length∧Qul k e s n t (some (l,ps,tx.size,sl)) 4 ∧
  Qcd.f k e s n (strOfNums t)=some (l,sl,true)∧Qcc.f k e s n l=some (tx,tb) ∧
  ∀i:Nat,i<l.length→∃tx tb,Qcc.f k e s n (l.take i)=some (tx,tb)∧rd ps (i:Int)=(tx.size:Int)∧tx.size≤1000000000)
def SP(k:Nat)(a0 a1:Int)(l2:List Int)(a3:Int):Prop :=
 600<l2.length∨(l2.length≤600∧(0≤a3∧a3<256)∧(0≤a1∧a1<4294967296)∧∃e s,Qas.f a0=some (e,s)∧(e=12∨e=13)∧SPT k e s a1 (l2++List.replicate (2^e.toNat-(a3/250).toNat-l2.length) 255))
noncomputable def Qar.f(k:Nat)(a0 a1:Int)(l2:List Int)(a3:Int):Option Bool:=@ite _ (SP k a0 a1 l2 a3) (Classical.propDecidable _) (some true) none
theorem Qar.calls(k:Nat)(a0:Int)(a1:Int)(A2:Option Addr)(c2:Nat)(l2:List Int)(a3:Int)(r:Bool)(w:World)(hr2:Kd.C (Kd.int .u8) w A2 l2.length l2)(hc2:l2.length≤c2)(h:Qar.f k a0 a1 l2 a3=some r) :
  Calls Tryz.prog 8 #[.int .u8 a0,.int .u32 a1,.slice A2 l2.length c2,.int .u8 a3] w fun e w'=>e=.returned (.bool r)∧Below w.heap.size w w':=by
 unfold Qar.f at h
 by_cases hs:SP k a0 a1 l2 a3
 ·rw[if_pos hs]at h
  obtain rfl:=Option.some.inj h
  rcases hs with hl |⟨hl,h3,hn,e,s,hsm,he,ht⟩
  ·exact sp_long a0 a1 a3 A2 c2 l2 w hl
  ·rcases ht with⟨h5,h6⟩ |⟨h5,h6,l0,se,h7⟩ |⟨h6,l,ps,sl,tx,tb,h7,h8,h9,h10,h11,h12⟩
   ·exact sp_arg k a0 e s a1 a3 A2 c2 l2 w hr2 hc2 hl hsm he h3 hn _ rfl h5 h6
   ·exact sp_form k a0 e s a1 a3 A2 c2 l2 w hr2 hc2 hl hsm he h3 hn _ rfl h5 h6 l0 se h7
   ·exact sp_good k a0 e s a1 a3 A2 c2 l2 w hr2 hc2 hl hsm he h3 hn _ rfl l ps sl tx tb h7 h8 h9 h6 h10 h11 h12
 ·rw[if_neg hs]at h
  cases h
end Go.Proofs.YtnnofopfbeklbaaGreat.C
end
section
namespace Go.Proofs.YtnnofopfbeklbaaGreat.Open
open Go.RowKit Go.Proofs.YtnnofopfbeklbaaGreatW.PrintWords Go.ChangeShapes Go.WideShapes Go.Deep
structure Opens (P:Program) (t:TypeId) {α:Type} (d:Kd α) (G:α→Prop):Prop where
  sz:P.cellsOf t=d.sz
  out:∀ {H:Type} {enc:TypeId × Value→H} {w:World} {base:Nat} {spare:Nat→Bool} {held:Bool} {fuel:Nat} {cs:List Value} {x:DataW H × List MemPlace},
    DataW.trod enc P w base spare held fuel t cs=some x→(∀n∈DataW.weights P t x.1,n≤reachBytes)→∃v,d.K w v cs∧G v
theorem Qun{P:Program}{t:TypeId}{k:IntKind}(ht:P.underlying t=some (.int k))(hc:P.cellsOf t=1):Opens P t (Kd.int k) (fun n=>(Lit.int k n).wf=true) :=
 ⟨hc,fun h _=>by
  obtain⟨b,rfl,_,hw⟩:=DataW.trod_int ht h
  exact⟨b,rfl,hw⟩⟩
theorem Quo{H:Type}{P:Program}{e:TypeId}{n:Nat}:∀ {ds:List (DataW H)} {d:DataW H},d∈ds→n∈DataW.weights P e d→n∈DataW.weightsAll P e ds
 | [],_,h,_=>by simp at h
 | a :: r,d,h,hn=>by
  simp only[DataW.weightsAll]
  rcases List.mem_cons.1 h with rfl|h
  ·exact List.mem_append_left _ hn
  ·exact List.mem_append_right _ (Quo h hn)
theorem Qup{P:Program}{t e:TypeId}{α:Type}{d:Kd α}{G:α→Prop}{B:Nat}(ht:P.underlying t=some (.slice e))(hc:P.cellsOf t=1)(hB:P.bytesOf e=B)(he:Opens P e d G) :
  Opens P t (Kd.slice e d) (fun xs=>xs.length*B≤140737488351232∧∀x∈xs,G x) :=
 ⟨hc, fun {H enc w base spare held fuel cs x} h hs=>by
  rcases open_slice ht h with⟨rfl,rfl⟩ |⟨a,len,cap,m,n,D,Pl,rfl,hb,hl,hm,hmm,rfl,hx⟩
  ·exact⟨[],⟨none,0,rfl,Nat.zero_le _,rfl,by simp,fun hp=>absurd hp (by simp)⟩,by simp,by simp⟩
  have hlm:len≤m:=by rw[hmm];split<;>omega
  have hw:∀i,i<len→∃v,(∃cs',w.cells? base (a.add (i*P.cellsOf e)) (P.cellsOf e)=some cs'∧d.K w v cs')∧G v:=by
   intro i hi
   obtain⟨cs',h1,h2⟩:=hx i (by omega)
   obtain⟨v,hv,hg⟩:=he.out h2 (fun q hq=>hs q (by
    simp only[DataW.weights,ht]
    refine List.mem_cons_of_mem _ (List.mem_append_left _ (Quo (d:=D i) ?_ hq))
    exact List.mem_map.2 ⟨i,List.mem_range.2 hi,rfl⟩))
   exact⟨v,⟨cs',h1,hv⟩,hg⟩
  have hw':∃xs:List α,xs.length=len∧∀i p,xs[i]? = some p→(∃cs',w.cells? base (a.add (i*P.cellsOf e)) (P.cellsOf e)=some cs'∧d.K w p cs')∧G p:=by
   clear hs hx hmm hlm hm hl h
   induction len with
   | zero=>exact⟨[],rfl,by simp⟩
   | succ q ih =>
    obtain⟨xs,hxl,hxs⟩:=ih (fun i hi=>hw i (by omega))
    obtain⟨v,hv⟩:=hw q (by omega)
    refine⟨xs++[v],by simp[hxl],fun i p hp=>?_⟩
    rcases Nat.lt_or_ge i xs.length with hi|hi
    ·rw[List.getElem?_append_left hi]at hp
     exact hxs i p hp
    ·have:i=q:=by
      have:=(List.getElem?_eq_some_iff.1 hp).1
      simp at this
      omega
     subst this
     rw[← hxl]at hp
     have:v=p:=by simpa using hp
     subst this
     exact hv
  obtain⟨xs,hxl,hxs⟩:=hw'
  have hlen:len*B≤140737488351232:=by
   have:=hs ((((List.range len).map D).length+((List.range (m-len)).map fun j=>D (len+j)).length)*P.bytesOf e) (by simp[DataW.weights,ht])
   rw[hB]at this
   have h2:(((List.range len).map D).length+((List.range (m-len)).map fun j=>D (len+j)).length)=m:=by simp;omega
   rw[h2]at this
   have h3:m*B≤140737488351232:=by simpa [reachBytes]using this
   exact Nat.le_trans (Nat.mul_le_mul_right _ hlm) h3
  refine⟨xs,⟨some a,cap,by rw[hxl],by rw[hxl];exact hl,rfl,?_,fun hp=>⟨a,rfl,fun j p hj=>?_⟩⟩,by rw[hxl];exact hlen,fun x hx=>?_⟩
  ·rw[hxl]
   exact Nat.le_trans hl (by simpa [maxLen]using hm)
  ·obtain⟨⟨cs',h1,h2⟩,_⟩:=hxs j p hj
   obtain⟨_,hcl,hcc⟩:=World.cells?_some h1
   refine⟨cs',by rw[hcl,he.sz],h2,fun i u hu=>?_⟩
   have hi:i<P.cellsOf e:=by rw[← hcl];exact(List.getElem?_eq_some_iff.1 hu).1
   rw[he.sz]at hcc hi
   have:=hcc i hi
   rw[Go.Deep.add_add]at this
   rw[this,hu]
  ·obtain⟨i,hi⟩:=List.getElem?_of_mem hx
   exact(hxs i x hi).2⟩
structure OpensFs (P:Program) (ts:List TypeId) {α:Type} (d:Kd α) (G:α→Prop):Prop where
  sz:(ts.map P.cellsOf).sum=d.sz
  out:∀ {H:Type} {enc:TypeId × Value→H} {w:World} {base:Nat} {spare:Nat→Bool} {held:Bool} {fuel:Nat} {cs:List Value} {xs:List (DataW H × List MemPlace)},
    cs.length=(ts.map P.cellsOf).sum→xs.length=ts.length →
    (∀i t,ts[i]? = some t→DataW.trod enc P w base spare held fuel t ((cs.drop ((ts.take i).map P.cellsOf).sum).take (P.cellsOf t))=xs[i]?) →
    (∀n∈DataW.weightsEach P ts (xs.map (·.1)),n≤reachBytes)→∃v,d.K w v cs∧G v
theorem Quq{H:Type}{P:Program}:∀ {ts:List TypeId} {ds:List (DataW H)} {j:Nat} {t:TypeId} {d:DataW H},(DataW.weightsEach P ts ds).all (·≤reachBytes)=true→ts[j]? = some t→ds[j]? = some d→∀n∈DataW.weights P t d,n≤reachBytes
 | [],_,_,_,_,_,h,_=>by simp at h
 | _ :: _,[],_,_,_,_,_,h=>by simp at h
 | t0 :: ts,d0 :: ds,0,t,d,hz,h1,h2=>by
  simp at h1 h2
  subst h1 h2
  intro n hn
  simp only[DataW.weightsEach]at hz
  exact of_decide_eq_true (List.all_eq_true.1 hz n (List.mem_append_left _ hn))
 | t0 :: ts,d0 :: ds,j+1,t,d,hz,h1,h2=>by
  simp only[DataW.weightsEach]at hz
  refine Quq (ts:=ts) (ds:=ds) (j:=j) ?_ (by simpa using h1) (by simpa using h2)
  rw[List.all_append]at hz
  exact(Bool.and_eq_true _ _ ▸ hz).2
theorem Qur{H:Type}{enc:TypeId × Value→H}{P:Program}{w:World}{base:Nat}{spare:Nat→Bool}{held:Bool}{t e:TypeId}{α:Type}{d:Kd α}{G:List α→Prop}(op:Opens P t (Kd.slice e d) G){a:Option Addr}{len cap:Nat}{x:DataW H}{ps:List MemPlace}
  (h:DataW.Trod enc P w base spare held t (.slice a len cap) x ps) (hs:∀n∈DataW.weights P t x,n≤reachBytes):∃l:List α,len=l.length∧l.length≤cap∧d.C w a l.length l∧G l:=by
 obtain⟨fuel,hf⟩:=h
 obtain⟨l,⟨A,c,he,hc,hr⟩,hg⟩:=op.out hf hs
 have he':[Value.slice a len cap]=[.slice A l.length c]:=by simpa [Value.cells]using he
 simp only[List.cons.injEq,Value.slice.injEq,and_true]at he'
 obtain⟨rfl,rfl,rfl⟩:=he'
 exact⟨l,rfl,hc,hr,hg⟩
end Go.Proofs.YtnnofopfbeklbaaGreat.Open
end
section
namespace Go.Proofs.YtnnofopfbeklbaaGreat.C
open Go.RowKit Go.Proofs.YtnnofopfbeklbaaGreatW.PrintWords Go.Proofs.YtnnofopfbeklbaaGreatW.PrintLast Go.Proofs.YtnnofopfbeklbaaGreatW.PrintMore Go.Proofs.YtnnofopfbeklbaaGreat.Open
theorem opT5:Opens Tryz.prog 5 (Kd.int .u8) (fun x=>(Lit.int .u8 x).wf=true):=Qun Tryz.underlying5 (by kernel_rfl)
theorem opT52:Opens Tryz.prog 52 (Kd.slice 5 (Kd.int .u8)) (fun x=>(x.length*1≤140737488351232∧∀z1∈x,(Lit.int .u8 z1).wf=true)):=Qup (B:=1) Tryz.underlying52 (by kernel_rfl) (by kernel_rfl) opT5
def Qar.Pure:Prop:=∀(x0:Int) (x1:Int) (x2:List Int) (x3:Int),(Lit.int .u8 x0).wf=true→(Lit.int .u32 x1).wf=true→(x2.length*1≤140737488351232∧∀z2∈x2,(Lit.int .u8 z2).wf=true)→(Lit.int .u8 x3).wf=true→∃k,Qar.f k x0 x1 x2 x3=some true
end Go.Proofs.YtnnofopfbeklbaaGreat.C
end
section
namespace Go.Proofs.YtnnofopfbeklbaaGreat.CodecP
open Go.RowKit Go.Proofs.YtnnofopfbeklbaaGreat.C Go.Proofs.YtnnofopfbeklbaaGreatW.PrintWords Go.Proofs.YtnnofopfbeklbaaGreatW.PrintLast Go.Proofs.YtnnofopfbeklbaaGreatW.PrintMore
theorem Quy:∀(n:Nat) (b:List Int),b.length≤n→b.length<254→(Qkw b).length=b.length+1
 | n,b,hn,h=>by
  rcases Int.lt_or_le (ixOf (b.take 254) 0) 0 with h0|h0
  ·rw[Qlb h0 (by omega)]
   simp
  ·obtain⟨p,hp⟩:=Int.eq_ofNat_of_zero_le h0
   have h1:=(Qku (b.take 254) 0).2
   rw[List.length_take,hp]at h1
   rw[Qkz hp]
   match n,hn with
   | 0,hn=>omega
   | n+1,hn =>
    have ih:=Quy n (b.drop (p+1)) qq_19 qq_19
    rw[List.length_cons,List.length_append,ih,List.length_take,List.length_drop]
    omega
def Quz(e s n:Int):Int:=((Qno e s n).length:Int)
theorem Qva(e s n:Int):Quz e s n=3+(vput 9 s).length+(vput 9 n).length+10:=by
 unfold Quz Qno Qnk
 have h1:=Qle 9 s
 have h2:=Qle 9 n
 have hl:([1,2,e]++vput 9 s++vput 9 n++leb (Qma 0 ([1,2,e]++vput 9 s++vput 9 n)) 8).length=3+(vput 9 s).length+(vput 9 n).length+8:=by
  rw[List.length_append,List.length_append,List.length_append,Qjl]
  rfl
 rw[List.length_append,Quy _ _ (Nat.le_refl _) (by rw[hl];omega),hl]
 simp
 omega
theorem Qvb(e s n:Int):0≤Quz e s n∧Quz e s n≤100:=by
 rw[Qva]
 have h1:=Qle 9 s
 have h2:=Qle 9 n
 omega
def Qvc(n:Int):Int:=9+12*n+8*((n+15)/16)+8+1+(9+12*n+8*((n+15)/16)+8-1)/254+1
def szN(e:Int):Int:=2^e.toNat
def Good(e s:Int):Prop:=12≤e∧e≤24∧1≤s∧s≤65536
theorem Qvd{e s:Int}(h:Good e s):Qao.f e s=some 0:=by
 obtain⟨h1,h2,h3,h4⟩:=h
 unfold Qao.f
 rw[if_neg (by omega),if_neg (by omega),if_neg (by omega),if_neg (by omega)]
theorem Qve{e s:Int}(h:Good e s):Qbm.f e s=some true:=by
 obtain⟨h1,h2,h3,h4⟩:=h
 unfold Qbm.f
 rw[if_pos (by omega),if_pos (by omega),if_pos (by omega)]
 simp[h4]
theorem Qvf{e:Int}(h1:12≤e)(h2:e≤24):4096≤szN e∧szN e≤16777216:=by
 unfold szN
 obtain⟨n,rfl⟩:=Int.eq_ofNat_of_zero_le (show 0≤e by omega)
 rw[Int.toNat_natCast]
 have h3:(2:Nat)^12≤2^n:=Nat.pow_le_pow_right (by omega) (by omega)
 have h4:(2:Nat)^n≤2^24:=Nat.pow_le_pow_right (by omega) (by omega)
 have h5:((2^n:Nat):Int)=(2:Int)^n:=by rw[Int.natCast_pow];rfl
 rw[← h5]
 omega
theorem Qvg{e s:Int}(h:Good e s):Qap.f e s=some (szN e):=by
 have hr:=Qvf h.1 h.2.1
 unfold Qap.f
 rw[Qvd h,Option.bind_some,if_pos rfl,if_pos (by have:=h.1;omega)]
 congr 1
 unfold shl
 have hm:min e.toNat IntKind.i64.bits=e.toNat:=by simp[IntKind.bits];have:=h.2.1;omega
 rw[hm,Int.one_mul]
 exact IntWalk.i64_in _ (by unfold szN at hr;omega)
theorem Qvh:∀(d i k:Nat) (e:Int),(i:Int)+d=e→e≤24→d+1≤k→Qbn.l0 k (2^i) e (i:Int)=some (szN e)
 | 0,i,k,e,h,he,hk=>by
  obtain⟨k,rfl⟩:∃m,k=m+1:=⟨k-1,by omega⟩
  unfold Qbn.l0
  rw[if_neg (by omega)]
  unfold szN
  rw[show e.toNat=i by omega]
 | d+1,i,k,e,h,he,hk=>by
  obtain⟨k,rfl⟩:∃m,k=m+1:=⟨k-1,by omega⟩
  have ih:=Qvh d (i+1) k e (by omega) he (by omega)
  have hp:(2:Nat)^i≤2^24:=Nat.pow_le_pow_right (by omega) (by omega)
  have hp0:=Nat.two_pow_pos i
  have h5:((2^i:Nat):Int)=(2:Int)^i:=by rw[Int.natCast_pow];rfl
  unfold Qbn.l0
  rw[if_pos (by omega),← h5,IntWalk.u64_in _ (by omega),show(((i:Nat):Int)+1)%256=((i+1:Nat):Int)by omega,h5,show 2*(2:Int)^i=2^(i+1)by rw[Int.pow_succ];omega]
  exact ih
theorem Qvi{e s:Int}(h:Good e s)(k:Nat)(hk:30≤k):Qbn.f k e s=some (szN e):=by
 have:=Qvh e.toNat 0 k e (by have:=h.1;omega) h.2.1 (by have:=h.2.1;omega)
 exact this
theorem Qvj(c:Int)(h0:0≤c)(h1:c≤16777216):12*c≤Qvc c∧Qvc c≤1000000000:=by unfold Qvc;omega
theorem Qvk{e s:Int}(h:Good e s)(n:Int)(h0:0≤n)(h1:n<s):Qci.f e s n=some (Qno e s n,0):=by
 obtain⟨a,b,c,d⟩:=h
 unfold Qci.f Qcj.f
 rw[Qvd ⟨a,b,c,d⟩,Option.bind_some,if_pos rfl,if_neg (by omega),Option.bind_some,if_pos rfl,if_pos ⟨by omega,by omega,by omega,by omega,by omega,by omega⟩]
theorem rdR(l:List Rec)(i:Nat)(h:i<l.length):Qja l (i:Int)=l[i]:=by simp[Qja,List.getElem?_eq_getElem h]
def chkR(r:Rec):Int:=chk r.f0 r.f2 r.f3
def chkL:List Rec→Int
 | []=>0
 | r :: t=>if chkR r=0 then chkL t else chkR r
theorem Qvl{l:List Rec}(h:chkL l=0):∀r∈l,chkR r=0:=by
 induction l with
 | nil=>intro r hr;cases hr
 | cons a t ih =>
  unfold chkL at h
  by_cases ha:chkR a=0
  ·rw[if_pos ha]at h
   intro r hr
   rcases List.mem_cons.1 hr with rfl|hr
   ·exact ha
   ·exact ih h r hr
  ·rw[if_neg ha]at h;exact absurd h ha
def Qvm(r:Rec):List Int:=Qnk (Qng r.f0 r.f1 r.f2 r.f3)
def fsz(r:Rec):Int:=((Qvm r).length:Int)
def Wf(l:List Rec):Prop:=∀r∈l,0≤r.f1∧r.f1<18446744073709551616
theorem Qvn(d:Bool)(s:Int)(key v:ByteArray):(Qng d s key v).length≤key.size+v.size+31:=by
 have h1:=Qle 9 s
 have h2:=Qle 9 (key.size:Int)
 have h3:=Qle 9 (v.size:Int)
 have h4:=Qdf key
 have h5:=Qdf v
 cases d
 ·simp only[Qng,List.length_append,List.length_cons,List.length_nil,Bool.false_eq_true,if_false];omega
 ·simp only[Qng,List.length_append,List.length_cons,List.length_nil,if_true];omega
theorem Qvo(b:List Int):0<(Qnk b).length∧(Qnk b).length≤2*b.length+18:=by
 have h:=Qnl _ (b++leb (Qma 0 b) 8) (Nat.le_refl _)
 rw[List.length_append,Qjl]at h
 unfold Qnk
 rw[List.length_append]
 simp
 omega
theorem Qvp(r:Rec)(hc:chkR r=0):1≤fsz r∧fsz r≤8388608:=by
 have h1:=Qnf hc
 have h2:=Qvn r.f0 r.f1 r.f2 r.f3
 have h3:=Qvo (Qng r.f0 r.f1 r.f2 r.f3)
 unfold fsz Qvm
 omega
theorem Bytes.app{a b:List Int}(h1:Bytes a)(h2:Bytes b):Bytes (a++b):=fun x hx=>(List.mem_append.1 hx).elim (h1 x) (h2 x)
theorem Bytes.left{a b:List Int}(h:Bytes (a++b)):Bytes a:=fun x hx=>h x (List.mem_append_left _ hx)
theorem Bytes.right{a b:List Int}(h:Bytes (a++b)):Bytes b:=fun x hx=>h x (List.mem_append_right _ hx)
theorem Bytes.cons{a:Int}{b:List Int}(h1:0≤a∧a<256)(h2:Bytes b):Bytes (a :: b):=fun x hx=>by
 rcases List.mem_cons.1 hx with rfl|hx
 ·exact h1
 ·exact h2 x hx
theorem Bytes.tail{a:Int}{b:List Int}(h:Bytes (a :: b)):Bytes b:=fun x hx=>h x (List.mem_cons_of_mem _ hx)
theorem Free.app{a b:List Int}(h1:Free a)(h2:Free b):Free (a++b):=fun x hx=>(List.mem_append.1 hx).elim (h1 x) (h2 x)
theorem Free.cons{a:Int}{b:List Int}(h1:a≠0)(h2:Free b):Free (a :: b):=fun x hx=>by
 rcases List.mem_cons.1 hx with rfl|hx
 ·exact h1
 ·exact h2 x hx
theorem Qvq:∀l:List Int,Free l∨∃a b,l=a++0 :: b∧Free a
 | []=>.inl (fun x hx=>by cases hx)
 | c :: l=>by
  by_cases hc:c=0
  ·exact .inr ⟨[],l,by rw[hc];rfl,fun x hx=>by cases hx⟩
  ·rcases Qvq l with h |⟨a,b,rfl,h⟩
   ·exact .inl (h.cons hc)
   ·exact .inr ⟨c :: a,b,rfl,h.cons hc⟩
theorem Qvr{b:List Int}(hb:Bytes b) :
  (∃a r,b=a++0 :: r∧Free a∧a.length<254∧Qkw b=((a.length:Int)+1) :: (a++Qkw r)) ∨
  (∃a r,b=a++r∧Free a∧a.length=254∧r≠[]∧Qkw b=255 :: (a++Qkw r)) ∨
  (Free b∧b.length≤254∧Qkw b=((b.length:Int)+1) :: b):=by
 rcases Qvq b with hf |⟨a,r,rfl,hf⟩
 ·by_cases hl:b.length≤254
  ·refine .inr (.inr ⟨hf,hl,?_⟩)
   rw[Qnz hb hf hl]
   congr 1
   omega
  ·refine .inr (.inl ⟨b.take 254,b.drop 254,(List.take_append_drop 254 b).symm,fun x hx=>hf x (List.mem_of_mem_take hx),by rw[List.length_take];omega,fun h=>by have:=congrArg List.length h;rw[List.length_drop]at this;simp at this;omega,?_⟩)
   have:=Qoa (now:=b.take 254) (rest:=b.drop 254) (hb.take 254) (fun x hx=>hf x (List.mem_of_mem_take hx)) (by rw[List.length_take];omega) (fun h=>by have:=congrArg List.length h;rw[List.length_drop]at this;simp at this;omega)
   rw[List.take_append_drop]at this
   exact this
 ·by_cases hl:a.length<254
  ·refine .inl ⟨a,r,rfl,hf,hl,?_⟩
   rw[Qny hb.left hf hl]
   congr 1
   omega
  ·have h1:a++0 :: r=a.take 254++(a.drop 254++0 :: r):=by rw[← List.append_assoc,List.take_append_drop]
   refine .inr (.inl ⟨a.take 254,a.drop 254++0 :: r,h1,fun x hx=>hf x (List.mem_of_mem_take hx),by rw[List.length_take];omega,by simp,?_⟩)
   rw[h1]
   exact Qoa (hb.left.take 254) (fun x hx=>hf x (List.mem_of_mem_take hx)) (by rw[List.length_take];omega) (by simp)
theorem Qvs:∀(n:Nat) (b:List Int),b.length≤n→Bytes b→Free (Qkw b)∧Bytes (Qkw b)∧Qkw b≠[]
 | n,b,hn,hb=>by
  rcases Qvr hb with⟨a,r,rfl,hf,hl,e⟩ |⟨a,r,rfl,hf,hl,hr,e⟩ |⟨hf,hl,e⟩
  ·rw[List.length_append,List.length_cons]at hn
   match n,hn with
   | n+1,hn =>
    have ih:=Qvs n r (by omega) hb.right.tail
    rw[e]
    exact⟨(hf.app ih.1).cons (by omega),(hb.left.app ih.2.1).cons (by omega),by simp⟩
  ·rw[List.length_append]at hn
   match n,hn with
   | 0,hn=>omega
   | n+1,hn =>
    have ih:=Qvs n r (by omega) hb.right
    rw[e]
    exact⟨(hf.app ih.1).cons (by omega),(hb.left.app ih.2.1).cons (by omega),by simp⟩
  ·rw[e]
   exact⟨hf.cons (by omega),hb.cons (by omega),by simp⟩
def Qvt:Nat→List Int→List Int
 | 0,_=>[]
 | _,[]=>[]
 | k+1,c :: t=>t.take (c.toNat-1)++(if c<255∧t.drop (c.toNat-1)≠[]then 0 :: Qvt k (t.drop (c.toNat-1))else Qvt k (t.drop (c.toNat-1)))
theorem Qvu(k:Nat):Qvt k []=[]:=by cases k<;>rfl
theorem Qvv:∀(n:Nat) (b:List Int) (k:Nat),b.length≤n→Bytes b→b.length+1≤k→Qvt k (Qkw b)=b
 | n,b,k,hn,hb,hk=>by
  obtain⟨k,rfl⟩:∃m,k=m+1:=⟨k-1,by omega⟩
  rcases Qvr hb with⟨a,r,rfl,hf,hl,e⟩ |⟨a,r,rfl,hf,hl,hr,e⟩ |⟨hf,hl,e⟩
  ·rw[List.length_append,List.length_cons]at hn hk
   match n,hn with
   | n+1,hn =>
    have ih:=Qvv n r k (by omega) hb.right.tail (by omega)
    have hs:=Qvs _ r (Nat.le_refl _) hb.right.tail
    have hc:((a.length:Int)+1).toNat-1=a.length:=by omega
    rw[e,Qvt,hc,List.take_left' rfl,List.drop_left' rfl,if_pos ⟨by omega,hs.2.2⟩,ih]
  ·rw[List.length_append]at hn hk
   match n,hn with
   | 0,hn=>omega
   | n+1,hn =>
    have ih:=Qvv n r k (by omega) hb.right (by omega)
    have hc:(255:Int).toNat-1=a.length:=by omega
    rw[e,Qvt,hc,List.take_left' rfl,List.drop_left' rfl,if_neg (fun h=>by omega),ih]
  ·have hc:((b.length:Int)+1).toNat-1=b.length:=by omega
   rw[e,Qvt,hc,List.take_of_length_le (Nat.le_refl _),List.drop_of_length_le (Nat.le_refl _),if_neg (fun h=>h.2 rfl),Qvu,List.append_nil]
theorem Qvw{a b:List Int}(ha:Bytes a)(hb:Bytes b)(h:Qkw a=Qkw b):a=b:=by
 have h1:=Qvv _ a (a.length+b.length+1) (Nat.le_refl _) ha (by omega)
 have h2:=Qvv _ b (a.length+b.length+1) (Nat.le_refl _) hb (by omega)
 exact h1.symm.trans ((congrArg _ h).trans h2)
theorem Qvx:∀ {a b x y:List Int},Free a→Free b→a++0 :: x=b++0 :: y→a=b∧x=y
 | [],[],x,y,_,_,h=>⟨rfl,by simpa using h⟩
 | [],c :: b,x,y,_,hb,h=>by
  have h1:=List.cons.inj h
  exact absurd h1.1.symm (hb c (List.mem_cons_self ..))
 | c :: a,[],x,y,ha,_,h=>by
  have h1:=List.cons.inj h
  exact absurd h1.1 (ha c (List.mem_cons_self ..))
 | c :: a,d :: b,x,y,ha,hb,h=>by
  have h1:=List.cons.inj h
  have ih:=Qvx (fun x hx=>ha x (List.mem_cons_of_mem _ hx)) (fun x hx=>hb x (List.mem_cons_of_mem _ hx)) h1.2
  exact⟨by rw[h1.1,ih.1],ih.2⟩
theorem Qvy:∀(n:Nat) (x:Int),Bytes (leb x n)
 | 0,_=>fun y hy=>by cases hy
 | n+1,x=>(Qvy n (x/256)).cons (by omega)
theorem Qvz{a b x y:List Int}(ha:Bytes a)(hb:Bytes b)(h:Qnk a++x=Qnk b++y):a=b∧x=y:=by
 unfold Qnk at h
 rw[List.append_assoc,List.append_assoc]at h
 have hA:=ha.app (Qvy 8 (Qma 0 a))
 have hB:=hb.app (Qvy 8 (Qma 0 b))
 have h1:=Qvx (Qvs _ _ (Nat.le_refl _) hA).1 (Qvs _ _ (Nat.le_refl _) hB).1 h
 have h2:=Qvw hA hB h1.1
 exact⟨(List.append_inj' h2 (by rw[Qjl,Qjl])).1,h1.2⟩
theorem Qwa(a:List Int):(0:Int)∈Qnk a:=by unfold Qnk;simp
theorem Qwb:∀(n:Nat) {x y:Int} {a b:List Int},0≤x→0≤y→vput n x++a=vput n y++b→x=y∧a=b
 | 0,x,y,a,b,_,_,h=>by
  have h1:=List.cons.inj h
  exact⟨h1.1,by simpa using h1.2⟩
 | n+1,x,y,a,b,hx,hy,h=>by
  unfold vput at h
  by_cases h1:x<128
  ·by_cases h2:y<128
   ·rw[if_pos h1,if_pos h2]at h
    have h3:=List.cons.inj h
    exact⟨h3.1,by simpa using h3.2⟩
   ·rw[if_pos h1,if_neg h2]at h
    have h3:=(List.cons.inj h).1
    omega
  ·by_cases h2:y<128
   ·rw[if_neg h1,if_pos h2]at h
    have h3:=(List.cons.inj h).1
    omega
   ·rw[if_neg h1,if_neg h2]at h
    have h3:=List.cons.inj h
    have ih:=Qwb n (by omega) (by omega) h3.2
    exact⟨by omega,ih.2⟩
theorem Qwc:∀(n:Nat) (x:Int),0≤x→x<256*128^n→Bytes (vput n x)
 | 0,x,h0,h1=>by
  unfold vput
  intro y hy
  rcases List.mem_singleton.1 hy with rfl
  omega
 | n+1,x,h0,h1=>by
  unfold vput
  split
  ·intro y hy
   rcases List.mem_singleton.1 hy with rfl
   omega
  ·refine(Qwc n (x/128) (by omega) ?_).cons (by omega)
   rw[Int.pow_succ]at h1
   omega
theorem Qwd(x:Int)(h0:0≤x)(h1:x<18446744073709551616):Bytes (vput 9 x):=Qwc 9 x h0 (by omega)
theorem Qwe(d:Bool)(s:Int)(key v:ByteArray)(h0:0≤s)(h1:s<18446744073709551616)(hk:key.size≤4611686018427387904)(hv:v.size≤4611686018427387904):Bytes (Qng d s key v):=by
 unfold Qng
 refine Bytes.app (Bytes.app (Bytes.app ?_ (Qwd s h0 h1)) ((Qwd _ (by omega) (by omega)).app (Qmj key))) ?_
 ·intro y hy
  rcases List.mem_singleton.1 hy with rfl
  split<;>omega
 ·split
  ·intro y hy;cases hy
  ·exact(Qwd _ (by omega) (by omega)).app (Qmj v)
theorem Qwf{key v:ByteArray}(h:chk true key v=0):v=ByteArray.empty:=by
 unfold chk at h
 split at h
 ·cases h
 split at h
 ·cases h
 split at h
 ·cases h
 ·rename_i h3
  have h4:v.toList=[]:=by simpa using h3
  have h5:=(size_nil_iff v).1 h4
  refine Qns (List.eq_nil_of_length_eq_zero ?_)
  rw[Qdf]
  exact h5
theorem Qwg{d d':Bool}{s s':Int}{key key' v v':ByteArray}(h0:0≤s)(h0':0≤s')(hc:chk d key v=0)(hc':chk d' key' v'=0)(h:Qng d s key v=Qng d' s' key' v') :
  d=d'∧s=s'∧key=key'∧v=v':=by
 unfold Qng at h
 have hz:∀(q:Bool) (a b c:List Int),[if q=true then(3:Int)else 2]++a++b++c=(if q=true then(3:Int)else 2) :: (a++(b++c)):=fun q a b c=>by simp
 rw[hz,hz]at h
 have h1:=List.cons.inj h
 have hd:d=d':=by
  cases d<;>cases d' <;> first|rfl |(have:=h1.1;simp at this)
 subst hd
 have h2:=Qwb 9 h0 h0' h1.2
 have h3:=h2.2
 rw[List.append_assoc,List.append_assoc]at h3
 have h4:=Qwb 9 (by omega) (by omega) h3
 have hks:(bytesOf key).length=(bytesOf key').length:=by rw[Qdf,Qdf];omega
 have h5:=List.append_inj h4.2 hks
 refine⟨rfl,h2.1,Qns h5.1,?_⟩
 cases d with
 | true=>rw[Qwf hc,Qwf hc']
 | false =>
  have h6:=h5.2
  simp only[Bool.false_eq_true,if_false]at h6
  exact Qns (Qwb 9 (by omega) (by omega) h6).2
def okR(r:Rec):Prop:=chkR r=0∧0≤r.f1∧r.f1<18446744073709551616
theorem Qwh{r:Rec}(h:okR r):Bytes (Qng r.f0 r.f1 r.f2 r.f3):=by
 have:=Qnf h.1
 exact Qwe _ _ _ _ h.2.1 h.2.2 (by omega) (by omega)
theorem Qwi{r r':Rec}{x y:List Int}(h:okR r)(h':okR r')(e:Qvm r++x=Qvm r'++y):r=r'∧x=y:=by
 have h1:=Qvz (Qwh h) (Qwh h') e
 have h2:=Qwg h.2.1 h'.2.1 h.1 h'.1 h1.1
 refine⟨?_,h1.2⟩
 cases r;cases r'
 obtain⟨a,b,c,d⟩:=h2
 simp only at a b c d
 rw[a,b,c,d]
def Qwj(T:List Int):Prop:=∀r x,okR r→T≠Qvm r++x
theorem Qwk:∀ {g g':List Rec} {T T':List Int},(∀r∈g,okR r)→(∀r∈g',okR r)→Qwj T→Qwj T'→g.flatMap Qvm++T=g'.flatMap Qvm++T'→g=g'∧T=T'
 | [],[],T,T',_,_,_,_,e=>⟨rfl,by simpa using e⟩
 | [],r :: g',T,T',_,h',hT,_,e=>by
  rw[List.flatMap_nil,List.nil_append,List.flatMap_cons,List.append_assoc]at e
  exact absurd e (hT r _ (h' r (List.mem_cons_self ..)))
 | r :: g,[],T,T',h,_,_,hT',e=>by
  rw[List.flatMap_nil,List.nil_append,List.flatMap_cons,List.append_assoc]at e
  exact absurd e.symm (hT' r _ (h r (List.mem_cons_self ..)))
 | r :: g,r' :: g',T,T',h,h',hT,hT',e=>by
  rw[List.flatMap_cons,List.append_assoc,List.flatMap_cons,List.append_assoc]at e
  have h1:=Qwi (h r (List.mem_cons_self ..)) (h' r' (List.mem_cons_self ..)) e
  have ih:=Qwk (fun x hx=>h x (List.mem_cons_of_mem _ hx)) (fun x hx=>h' x (List.mem_cons_of_mem _ hx)) hT hT' h1.2
  exact⟨by rw[h1.1,ih.1],ih.2⟩
theorem Qwl(x:Ent):Bytes (ent x):=(Qvy 8 _).app (Qvy 4 _)
theorem Qwm{α:Type}(f:α→List Int)(hf:∀x,Bytes (f x)):∀l:List α,Bytes (l.flatMap f)
 | []=>fun y hy=>by cases hy
 | x :: t=>by rw[List.flatMap_cons];exact(hf x).app (Qwm f hf t)
theorem Qwn(j:Nat)(x b:Int)(hj:j≤9)(hx0:0≤x)(hx:x<128^j)(hb0:0≤b)(hb:b<256)(h9:j=9→b≤1) :
  Go.bits .or .u64 x (shl .u64 (IntKind.u64.wrap (Go.bits .andNot .u8 b 128)) (7*(j:Int)))=x+128^j*(b%128):=by
 have e0:Go.bits .andNot .u8 b 128=b%128:=by
  have h:∀n:Fin 256,Go.bits .andNot .u8 ((n.val:Nat):Int) 128=((n.val:Nat):Int)%128:=by decide +kernel
  obtain⟨n,rfl⟩:=Int.eq_ofNat_of_zero_le hb0
  exact h ⟨n,by omega⟩
 have hc:b%128<128∧0≤b%128∧(j=9→b%128≤1):=⟨by omega,by omega,fun h=>by have:=h9 h;omega⟩
 rw[e0,IntWalk.u64_in _ (by omega)]
 generalize b%128=c at hc ⊢
 obtain⟨hc1,hc0,hc9⟩:=hc
 obtain⟨a,rfl⟩:=Int.eq_ofNat_of_zero_le hx0
 obtain⟨c,rfl⟩:=Int.eq_ofNat_of_zero_le hc0
 have hp:(128:Nat)^j=2^(7*j):=by rw[Nat.pow_mul]
 have ha:a<2^(7*j):=by
  rw[← hp]
  exact_mod_cast hx
 have hbig:c*2^(7*j)<2^64:=by
  by_cases h:j=9
  ·subst h
   have:=hc9 rfl
   have e:(2:Nat)^(7*9)=9223372036854775808:=by decide
   rw[e]
   omega
  ·have h1:c*2^(7*j)<2^7*2^(7*j):=Nat.mul_lt_mul_of_pos_right (by omega) (Nat.two_pow_pos _)
   have h2:(2:Nat)^7*2^(7*j)≤2^64:=by rw[← Nat.pow_add];exact Nat.pow_le_pow_right (by omega) (by omega)
   omega
 have ha2:a<2^64:=by
  have h2:(2:Nat)^(7*j)≤2^64:=Nat.pow_le_pow_right (by omega) (by omega)
  omega
 rw[show(7*(j:Int))=((7*j:Nat):Int)by push_cast;rfl]
 unfold shl
 rw[show min ((7*j:Nat):Int).toNat IntKind.u64.bits=7*j by simp[IntKind.bits];omega,IntKind.wrap_u64]
 have e1:((c:Int)*2^(7*j))%18446744073709551616=((2^(7*j)*c:Nat):Int):=by
  have e2:((c:Int)*2^(7*j))=((c*2^(7*j):Nat):Int):=by push_cast;rfl
  rw[e2,Nat.mul_comm (2^(7*j)) c]
  omega
 rw[e1,bits_or_u64_nat _ _ (by omega) (by rw[Nat.mul_comm];omega),Nat.or_comm,← Nat.two_pow_add_eq_or_of_lt ha]
 have e3:((128:Int)^j*(c:Int))=((128^j*c:Nat):Int):=by push_cast;rfl
 rw[e3,hp]
 omega
theorem Qwo{bs:List Int}{i:Nat}(h:i<bs.length):bs.drop i=rd bs (i:Int) :: bs.drop (i+1):=by rw[rd_get h];exact List.drop_eq_getElem_cons h
theorem Qwp{bs:List Int}{i:Nat}{c:Int}{t:List Int}(h:bs.drop i=c :: t):i<bs.length∧rd bs (i:Int)=c∧bs.drop (i+1)=t:=by
 have hi:i<bs.length:=by
  rcases Nat.lt_or_ge i bs.length with h1|h1
  ·exact h1
  ·rw[List.drop_eq_nil_of_le h1]at h;cases h
 rw[Qwo hi]at h
 cases h
 exact⟨hi,rfl,rfl⟩
theorem p128(j:Nat)(h:j≤8):(128:Int)^j≤72057594037927936:=by
 have k:∀j:Fin 9,(128:Int)^j.val≤72057594037927936:=by decide +kernel
 exact k ⟨j,by omega⟩
theorem Qwq(j:Nat):0<(128:Int)^j:=Int.pow_pos (by decide)
theorem Qwr(bs:List Int)(hb:Bytes bs):∀(n j i:Nat) (x r i1:Int),n+j=9→0≤x→x<128^j→Qrp bs (n+1) (j:Int) (i:Int) x=.ok (r,i1) →
  ∃y:Int,0≤y∧(0<j→y≠0)∧r=x+128^j*y∧r<18446744073709551616∧i1=((i+(vput n y).length:Nat):Int)∧bs.drop i=vput n y++bs.drop (i+(vput n y).length)
 | n, j,i,x,r,i1,hnj,hx0,hx1,h=>by
  have hpos:=Qwq j
  unfold Qrp at h
  by_cases hi:(i:Int)<(bs.length:Int)
  ·rw [if_pos hi]at h
   have hd:=rd_range hb (show i<bs.length by omega)
   have hdrop:=Qwo (show i<bs.length by omega)
   by_cases c1:(j:Int)=9∧1<rd bs (i:Int)
   ·rw[if_pos c1]at h;cases h
   ·rw [if_neg c1]at h
    have h9:j=9→rd bs (i:Int)≤1:=fun hj=>by omega
    rw[Qwn j x (rd bs (i:Int)) (by omega) hx0 hx1 hd.1 hd.2 h9]at h
    generalize rd bs (i:Int)=b at *
    have hm:(128:Int)^j*(b%128)≤128^j*127:=Int.mul_le_mul_of_nonneg_left (by omega) (by omega)
    have hm0:0≤(128:Int)^j*(b%128):=Int.mul_nonneg (by omega) (by omega)
    by_cases c2:128≤b
    ·rw[if_pos c2]at h
     cases n with
     | zero=>have:=h9 (by omega);omega
     | succ n =>
      have h':Qrp bs (n+1) ((j+1:Nat):Int) ((i+1:Nat):Int) (x+128^j*(b%128))=.ok (r,i1):=by push_cast;exact h
      have hp:(128:Int)^(j+1)=128^j*128:=Int.pow_succ ..
      obtain⟨y,hy0,hyn,hr,hr1,hi1,hdr⟩:=Qwr bs hb n (j+1) (i+1) _ r i1 (by omega) (by omega) (by rw[hp];omega) h'
      have hy:=hyn (by omega)
      have hv:vput (n+1) (b%128+128*y)=b :: vput n y:=by
       rw[vput,if_neg (by omega),show(b%128+128*y)%128+128=b by omega,show(b%128+128*y)/128=y by omega]
      refine⟨b%128+128*y,by omega,fun _=>by omega,?_,hr1,?_,?_⟩
      ·rw[hr,hp,Int.mul_add,← Int.mul_assoc];omega
      ·rw[hv,hi1,List.length_cons];congr 1;omega
      ·rw[hv,hdrop,hdr,List.length_cons,List.cons_append,show i+1+(vput n y).length=i+((vput n y).length+1)by omega]
    ·rw[if_neg c2]at h
     by_cases c3:b=0∧(0:Int)<(j:Int)
     ·rw[if_pos c3]at h;cases h
     ·rw[if_neg c3]at h
      cases h
      have e:b%128=b:=by omega
      have hv:vput n b=[b]:=by
       cases n with
       | zero=>rfl
       | succ n=>rw[vput,if_pos (by omega)]
      refine⟨b,hd.1,fun hj hb0=>c3 ⟨hb0,by omega⟩,by rw[e],?_,by rw[hv];rfl,by rw[hv,hdrop];rfl⟩
      by_cases hj:j=9
      ·subst hj
       have:=h9 rfl
       have e9:(128:Int)^9=9223372036854775808:=by decide
       rw[e,e9]
       rw[e9]at hx1
       omega
      ·have:=p128 j (by omega)
       omega
  ·rw[if_neg hi]at h;cases h
theorem Qws(bs:List Int)(hb:Bytes bs):∀(n j i:Nat) (x y:Int) (t:List Int),n+j=9→0≤x→x<128^j→0≤y→(0<j→y≠0)→x+128^j*y<18446744073709551616→bs.drop i=vput n y++t →
  Qrp bs (n+1) (j:Int) (i:Int) x=.ok (x+128^j*y,((i+(vput n y).length:Nat):Int))
 | n,j,i,x,y,t,hnj,hx0,hx1,hy0,hyn,hlt,h=>by
  have hpos:=Qwq j
  have h9:j=9→y≤1:=fun hj=>by
   subst hj
   have e9:(128:Int)^9=9223372036854775808:=by decide
   rw[e9]at hlt
   omega
  by_cases hs:y<128
  ·have hv:vput n y=[y]:=by
    cases n with
    | zero=>rfl
    | succ n=>rw[vput,if_pos hs]
   rw[hv]at h ⊢
   obtain⟨hi,hr,_⟩:=Qwp h
   unfold Qrp
   rw[if_pos (by omega),hr,if_neg (fun c=>by have:=h9 (by omega);omega),if_neg (by omega),if_neg (fun c=>hyn (by omega) c.1),Qwn j x y (by omega) hx0 hx1 hy0 (by omega) h9,show y%128=y by omega]
   rfl
  ·cases n with
   | zero=>have:=h9 (by omega);omega
   | succ n =>
    have hv:vput (n+1) y=(y%128+128) :: vput n (y/128):=by rw[vput,if_neg hs]
    rw[hv]at h ⊢
    obtain⟨hi,hr,ht⟩:=Qwp h
    have hp:(128:Int)^(j+1)=128^j*128:=Int.pow_succ ..
    have hm:(128:Int)^j*(y%128)≤128^j*127:=Int.mul_le_mul_of_nonneg_left (by omega) (by omega)
    have hm0:0≤(128:Int)^j*(y%128):=Int.mul_nonneg (by omega) (by omega)
    have hsplit:x+128^j*(y%128)+128^(j+1)*(y/128)=x+128^j*y:=by
     have e:y=y%128+128*(y/128):=by omega
     have e2:(128:Int)^j*y=128^j*(y%128)+128^j*(128*(y/128)):=by rw[← Int.mul_add,← e]
     rw[e2,hp,Int.mul_assoc]
     omega
    have ih:=Qws bs hb n (j+1) (i+1) (x+128^j*(y%128)) (y/128) t (by omega) (by omega) (by rw[hp];omega) (by omega) (fun _=>by omega) (by rw[hsplit];exact hlt) ht
    unfold Qrp
    rw[if_pos (by omega),hr,if_neg (fun c=>by omega),if_pos (by omega),Qwn j x (y%128+128) (by omega) hx0 hx1 (by omega) (by omega) (fun hj=>by omega),show(y%128+128)%128=y%128 by omega]
    rw[hsplit]at ih
    push_cast at ih
    rw[ih,List.length_cons]
    congr 2
    push_cast
    omega
theorem Qwt{bs:List Int}(hb:Bytes bs){i:Nat}{n i1:Int}(h:Qrp bs 10 0 (i:Int) 0=.ok (n,i1)):∃m:Nat,i1=(m:Int)∧0≤n∧n<18446744073709551616∧bs.drop i=vput 9 n++bs.drop m∧m=i+(vput 9 n).length:=by
 obtain⟨y,h0,_,h2,h3,h4,h5⟩:=Qwr bs hb 9 0 i 0 n i1 rfl (Int.le_refl _) (by decide) h
 obtain rfl:n=y:=by rw[h2];simp
 exact⟨_,h4,h0,h3,h5,rfl⟩
theorem Qwu{bs:List Int}(hb:Bytes bs){i:Nat}{n:Int}{t:List Int}(h0:0≤n)(h1:n<18446744073709551616)(h:bs.drop i=vput 9 n++t):Qrp bs 10 0 (i:Int) 0=.ok (n,((i+(vput 9 n).length:Nat):Int)):=by
 have:=Qws bs hb 9 0 i 0 n t rfl (Int.le_refl _) (by decide) h0 (fun h=>by omega) (by simpa using h1) h
 simpa using this
theorem Qwv{bs:List Int}(hb:Bytes bs){i:Nat}{least most i2:Int}{xs:List Int}(hl:0≤least)(h:Qti bs least most (i:Int)=.ok (xs,i2)) :
  ∃m:Nat,i2=(m:Int)∧least≤(xs.length:Int)∧(xs.length:Int)≤most∧bs.drop i=vput 9 (xs.length:Int)++(xs++bs.drop m)∧Bytes xs:=by
 unfold Qti at h
 cases hv:Qrp bs 10 0 (i:Int) 0 with
 | error p=>rw[hv]at h;cases h
 | ok p =>
  obtain⟨n,i1⟩:=p
  obtain⟨m,rfl,h0,h1,hd,hm⟩:=Qwt hb hv
  rw[hv]at h
  dsimp only at h
  split at h
  ·cases h
  ·rename_i c1
   split at h
   ·cases h
   ·rename_i c2
    split at h
    ·rename_i c3
     cases h
     have hlen:((bs.drop ((m:Int)).toNat).take n.toNat).length=n.toNat:=by rw[List.length_take,List.length_drop];omega
     refine⟨m+n.toNat,by omega,by rw[hlen];omega,by rw[hlen];omega,?_,(hb.drop _).take _⟩
     rw[hlen,hd,show((n.toNat:Nat):Int)=n by omega,Int.toNat_natCast,← List.drop_drop,List.take_append_drop]
    ·cases h
theorem Qww:∀(n:Nat) (x:Int),0<(vput n x).length
 | 0,_=>by simp[vput]
 | n+1,x=>by
  unfold vput
  split<;>simp
theorem Qwx{bs:List Int}(hb:Bytes bs){i:Nat}{least most:Int}{xs t:List Int}(h0:least≤(xs.length:Int))(h1:(xs.length:Int)≤most)(hm:most<18446744073709551616)(h:bs.drop i=vput 9 (xs.length:Int)++(xs++t)) :
  Qti bs least most (i:Int)=.ok (xs,((i+(vput 9 (xs.length:Int)).length+xs.length:Nat):Int)):=by
 have hv:=Qwu hb (Int.natCast_nonneg _) (by omega) h
 have hd:bs.drop (i+(vput 9 (xs.length:Int)).length)=xs++t:=by rw[← List.drop_drop,h,List.drop_left]
 have hlen:i+(vput 9 (xs.length:Int)).length+xs.length≤bs.length∨xs=[]:=by
  have:=congrArg List.length hd
  rw[List.length_drop,List.length_append]at this
  rcases xs with _ |⟨x,xs⟩
  ·exact Or.inr rfl
  ·exact Or.inl (by simp only[List.length_cons]at this ⊢;omega)
 have hle:i+(vput 9 (xs.length:Int)).length≤bs.length:=by
  have:=congrArg List.length h
  rw[List.length_drop,List.length_append]at this
  have hne:=Qww 9 (xs.length:Int)
  omega
 unfold Qti
 rw[hv]
 dsimp only
 have hle2:i+(vput 9 (xs.length:Int)).length+xs.length≤bs.length:=by
  rcases hlen with h|h
  ·exact h
  ·rw[h]at hle ⊢;simpa using hle
 rw[if_neg (by omega),if_neg (by omega),if_pos (by push_cast;omega),Int.toNat_natCast,Int.toNat_natCast,hd,List.take_left]
 congr 1
theorem Qwy {bs:List Int} (hb:Bytes bs) {d:Bool} {q i:Int} {a b:ByteArray} (h:recL bs=.ok ((d,q,a,b),i)):bs=Qng d q a b∧chk d a b=0∧0≤q∧q<18446744073709551616:=by
 unfold recL at h
 by_cases h0:(0:Int)<(bs.length:Int)
 ·rw [if_pos h0]at h
  have hdrop:bs=rd bs 0 :: bs.drop 1:=Qwo (i:=0) (by omega)
  have hnum:∀ {xs:List Int},Bytes xs→(strOfNums xs).size=xs.length:=fun hx=>by rw[Qmn,bytesOf_nums hx]
  generalize hr:rd bs 0=k at *
  by_cases hk:k≠2∧k≠3
  ·rw[if_pos hk]at h;cases h
  ·rw [if_neg hk]at h
   cases hv:Qrp bs 10 0 (0+1) 0 with
   | error p=>rw[hv]at h;cases h
   | ok p =>
    obtain⟨q',i2⟩:=p
    obtain⟨m2,rfl,hq0,hq1,hd2,_⟩:=Qwt (i:=1) hb hv
    rw[hv]at h
    dsimp only at h
    cases ht:Qti bs 1 4096 (m2:Int)with
    | error p=>rw[ht]at h;cases h
    | ok p =>
     obtain⟨xs,i3⟩:=p
     obtain⟨m3,rfl,hx0,hx1,hd3,hbx⟩:=Qwv hb (by decide) ht
     rw[ht]at h
     dsimp only at h
     have hsx:=hnum hbx
     have hkey:¬(strOfNums xs).toList=([]:List UInt8):=fun e=>by
      have:=(size_nil_iff _).1 e
      omega
     by_cases hk3:k=3
     ·rw[if_pos hk3]at h
      by_cases hend:(0:Int)<(bs.length:Int)-(m3:Int)
      ·rw[if_pos hend]at h;cases h
      ·rw[if_neg hend]at h
       cases h
       refine⟨?_,?_,hq0,hq1⟩
       ·unfold Qng
        rw[if_pos rfl,if_pos rfl,hsx,bytesOf_nums hbx]
        conv=>lhs;rw[hdrop,hd2,hd3,List.drop_eq_nil_of_le (show bs.length≤m3 by omega),hk3]
        simp
       ·unfold chk
        rw[if_neg hkey,if_neg (by rw[hsx];omega),(size_nil_iff (⟨#[]⟩:ByteArray)).2 rfl,if_neg (by decide),if_neg (by decide)]
     ·rw [if_neg hk3]at h
      obtain rfl:k=2:=by omega
      cases hu:Qti bs 0 1048576 (m3:Int)with
      | error p=>rw[hu]at h;cases h
      | ok p =>
       obtain⟨ys,i4⟩:=p
       obtain⟨m4,rfl,hy0,hy1,hd4,hby⟩:=Qwv hb (by decide) hu
       rw[hu]at h
       dsimp only at h
       have hsy:=hnum hby
       by_cases hend:(0:Int)<(bs.length:Int)-(m4:Int)
       ·rw[if_pos hend]at h;cases h
       ·rw[if_neg hend]at h
        cases h
        refine⟨?_,?_,hq0,hq1⟩
        ·unfold Qng
         rw[if_neg (by decide),if_neg (by decide),hsx,hsy,bytesOf_nums hbx,bytesOf_nums hby]
         conv=>lhs;rw[hdrop,hd2,hd3,hd4,List.drop_eq_nil_of_le (show bs.length≤m4 by omega)]
         simp
        ·unfold chk
         rw[if_neg hkey,if_neg (by rw[hsx];omega),if_neg (by simp),if_neg (by rw[hsy];omega)]
 ·rw[if_neg h0]at h;cases h
theorem Qwz{d:Bool}{q:Int}{a b:ByteArray}(h0:0≤q)(h1:q<18446744073709551616)(hc:chk d a b=0):∃i,recL (Qng d q a b)=.ok ((d,q,a,b),i):=by
 have hca:(0:Int)<a.size∧(a.size:Int)≤4096∧(b.size:Int)≤1048576:=by
  unfold chk at hc
  split at hc
  ·cases hc
  ·rename_i c1
   rw[size_nil_iff]at c1
   split at hc
   ·cases hc
   ·split at hc
    ·cases hc
    ·split at hc
     ·cases hc
     ·omega
 have hb:Bytes (Qng d q a b):=Qwe d q a b h0 h1 (by omega) (by omega)
 have hle:(Qng d q a b)≠[]:=by unfold Qng;simp
 have hpos:(0:Int)<((Qng d q a b).length:Int):=by
  have:=List.length_pos_iff.2 hle
  omega
 generalize hB:Qng d q a b=bs at *
 have hbody:=hB
 unfold Qng at hbody
 have hd0:bs.drop 0=(if d then(3:Int)else 2) :: (vput 9 q++((vput 9 a.size++bytesOf a)++(if d then []else vput 9 b.size++bytesOf b))):=by
  rw[List.drop_zero,← hbody]
  simp
 obtain⟨_,hr,hd1⟩:=Qwp hd0
 have hv:=Qwu hb h0 h1 hd1
 have hd2:bs.drop (1+(vput 9 q).length)=vput 9 (((bytesOf a).length:Nat):Int)++(bytesOf a++(if d then []else vput 9 b.size++bytesOf b)):=by
  rw[← List.drop_drop,hd1,List.drop_left,Qmn,List.append_assoc]
 have hla:((bytesOf a).length:Int)=a.size:=by rw[Qmn]
 have hlb:((bytesOf b).length:Int)=b.size:=by rw[Qmn]
 have ht:=Qwx hb (least:=1) (most:=4096) (by omega) (by omega) (by decide) hd2
 have hd3:bs.drop (1+(vput 9 q).length+(vput 9 (((bytesOf a).length:Nat):Int)).length+(bytesOf a).length)=(if d then []else vput 9 b.size++bytesOf b):=by
  rw[← List.drop_drop,← List.drop_drop,hd2,List.drop_left,List.drop_left]
 generalize 1+(vput 9 q).length=m2 at *
 generalize m2+(vput 9 (((bytesOf a).length:Nat):Int)).length+(bytesOf a).length=m3 at *
 have hv':Qrp bs 10 0 (0+1) 0=.ok (q,(m2:Int)):=by simpa using hv
 cases d with
 | true =>
  have hr':rd bs 0=3:=hr
  have hd3':bs.drop m3=[]:=hd3
  have hlen:=congrArg List.length hd3'
  rw[List.length_drop,List.length_nil]at hlen
  obtain rfl:b=ByteArray.empty:=Qwf hc
  unfold recL
  rw[if_pos hpos,hr',if_neg (by decide),hv']
  dsimp only
  rw[ht]
  dsimp only
  rw[Qnt,if_pos rfl,if_neg (by omega)]
  exact⟨_,rfl⟩
 | false =>
  have hr':rd bs 0=2:=hr
  have hd3':bs.drop m3=vput 9 (((bytesOf b).length:Nat):Int)++(bytesOf b++[]):=by rw[hd3,hlb];simp
  have hu:=Qwx hb (least:=0) (most:=1048576) (by omega) (by omega) (by decide) hd3'
  have hlen:=congrArg List.length hd3'
  rw[List.length_drop,List.length_append,List.length_append,List.length_nil]at hlen
  unfold recL
  rw[if_pos hpos,hr',if_neg (by decide),hv']
  dsimp only
  rw[ht]
  dsimp only
  rw[Qnt,if_neg (by decide),hu]
  dsimp only
  rw[Qnt,if_neg (by push_cast;omega)]
  exact⟨_,rfl⟩
end Go.Proofs.YtnnofopfbeklbaaGreat.CodecP
end
