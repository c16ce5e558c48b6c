/- Texts of this claim's author and of the print of its functions, merged by merge.py. -/
import Derived.Test.YtnnofopfbeklbaaGreatMI00
import Derived.SizedLaws
import Derived.Deep.Slices
import Derived.Lib.SmallJoins
import Derived.ChangeArms
import Derived.Test.YtnnofopfbeklbaaGreatMI02
import Derived.Test.YtnnofopfbeklbaaGreatMI19
import Derived.Test.YtnnofopfbeklbaaGreatMI10
import Derived.Test.YtnnofopfbeklbaaGreatMI09
import Derived.Test.YtnnofopfbeklbaaGreatMI08
import Derived.Test.YtnnofopfbeklbaaGreatMI12
import Derived.Test.YtnnofopfbeklbaaGreatMI11
import Derived.Test.YtnnofopfbeklbaaGreatMI06
import Derived.Test.YtnnofopfbeklbaaGreatMI16
set_option linter.unusedVariables false
set_option linter.unusedSimpArgs false
set_option maxHeartbeats 8000000
set_option maxRecDepth 100000
section
namespace Go.Proofs.YtnnofopfbeklbaaGreat.Open
open Go.RowKit Go.Proofs.YtnnofopfbeklbaaGreatW.PrintWords Go.ChangeShapes Go.WideShapes Go.Deep
structure Opens (P:Program) (t:TypeId) {α:Type} (d:Kd α) (G:α→Prop):Prop where
  sz:P.cellsOf t=d.sz
  out:∀ {H:Type} {enc:TypeId × Value→H} {w:World} {base:Nat} {spare:Nat→Bool} {held:Bool} {fuel:Nat} {cs:List Value} {x:DataW H × List MemPlace},
    DataW.trod enc P w base spare held fuel t cs=some x→(∀n∈DataW.weights P t x.1,n≤reachBytes)→∃v,d.K w v cs∧G v
theorem Qpe{P:Program}{t:TypeId}{k:IntKind}(ht:P.underlying t=some (.int k))(hc:P.cellsOf t=1):Opens P t (Kd.int k) (fun n=>(Lit.int k n).wf=true) :=
 ⟨hc,fun h _=>by
  obtain⟨b,rfl,_,hw⟩:=DataW.trod_int ht h
  exact⟨b,rfl,hw⟩⟩
theorem Qpf{H:Type}{P:Program}{e:TypeId}{n:Nat}:∀ {ds:List (DataW H)} {d:DataW H},d∈ds→n∈DataW.weights P e d→n∈DataW.weightsAll P e ds
 | [],_,h,_=>by simp at h
 | a :: r,d,h,hn=>by
  simp only[DataW.weightsAll]
  rcases List.mem_cons.1 h with rfl|h
  ·exact List.mem_append_left _ hn
  ·exact List.mem_append_right _ (Qpf h hn)
theorem Qpg{P:Program}{t e:TypeId}{α:Type}{d:Kd α}{G:α→Prop}{B:Nat}(ht:P.underlying t=some (.slice e))(hc:P.cellsOf t=1)(hB:P.bytesOf e=B)(he:Opens P e d G) :
  Opens P t (Kd.slice e d) (fun xs=>xs.length*B≤140737488351232∧∀x∈xs,G x) :=
 ⟨hc, fun {H enc w base spare held fuel cs x} h hs=>by
  rcases open_slice ht h with⟨rfl,rfl⟩ |⟨a,len,cap,m,n,D,Pl,rfl,hb,hl,hm,hmm,rfl,hx⟩
  ·exact⟨[],⟨none,0,rfl,Nat.zero_le _,rfl,by simp,fun hp=>absurd hp (by simp)⟩,by simp,by simp⟩
  have hlm:len≤m:=by rw[hmm];split<;>omega
  have hw:∀i,i<len→∃v,(∃cs',w.cells? base (a.add (i*P.cellsOf e)) (P.cellsOf e)=some cs'∧d.K w v cs')∧G v:=by
   intro i hi
   obtain⟨cs',h1,h2⟩:=hx i (by omega)
   obtain⟨v,hv,hg⟩:=he.out h2 (fun q hq=>hs q (by
    simp only[DataW.weights,ht]
    refine List.mem_cons_of_mem _ (List.mem_append_left _ (Qpf (d:=D i) ?_ hq))
    exact List.mem_map.2 ⟨i,List.mem_range.2 hi,rfl⟩))
   exact⟨v,⟨cs',h1,hv⟩,hg⟩
  have hw':∃xs:List α,xs.length=len∧∀i p,xs[i]? = some p→(∃cs',w.cells? base (a.add (i*P.cellsOf e)) (P.cellsOf e)=some cs'∧d.K w p cs')∧G p:=by
   clear hs hx hmm hlm hm hl h
   induction len with
   | zero=>exact⟨[],rfl,by simp⟩
   | succ q ih =>
    obtain⟨xs,hxl,hxs⟩:=ih (fun i hi=>hw i (by omega))
    obtain⟨v,hv⟩:=hw q (by omega)
    refine⟨xs++[v],by simp[hxl],fun i p hp=>?_⟩
    rcases Nat.lt_or_ge i xs.length with hi|hi
    ·rw[List.getElem?_append_left hi]at hp
     exact hxs i p hp
    ·have:i=q:=by
      have:=(List.getElem?_eq_some_iff.1 hp).1
      simp at this
      omega
     subst this
     rw[← hxl]at hp
     have:v=p:=by simpa using hp
     subst this
     exact hv
  obtain⟨xs,hxl,hxs⟩:=hw'
  have hlen:len*B≤140737488351232:=by
   have:=hs ((((List.range len).map D).length+((List.range (m-len)).map fun j=>D (len+j)).length)*P.bytesOf e) (by simp[DataW.weights,ht])
   rw[hB]at this
   have h2:(((List.range len).map D).length+((List.range (m-len)).map fun j=>D (len+j)).length)=m:=by simp;omega
   rw[h2]at this
   have h3:m*B≤140737488351232:=by simpa [reachBytes]using this
   exact Nat.le_trans (Nat.mul_le_mul_right _ hlm) h3
  refine⟨xs,⟨some a,cap,by rw[hxl],by rw[hxl];exact hl,rfl,?_,fun hp=>⟨a,rfl,fun j p hj=>?_⟩⟩,by rw[hxl];exact hlen,fun x hx=>?_⟩
  ·rw[hxl]
   exact Nat.le_trans hl (by simpa [maxLen]using hm)
  ·obtain⟨⟨cs',h1,h2⟩,_⟩:=hxs j p hj
   obtain⟨_,hcl,hcc⟩:=World.cells?_some h1
   refine⟨cs',by rw[hcl,he.sz],h2,fun i u hu=>?_⟩
   have hi:i<P.cellsOf e:=by rw[← hcl];exact(List.getElem?_eq_some_iff.1 hu).1
   rw[he.sz]at hcc hi
   have:=hcc i hi
   rw[Go.Deep.add_add]at this
   rw[this,hu]
  ·obtain⟨i,hi⟩:=List.getElem?_of_mem hx
   exact(hxs i x hi).2⟩
structure OpensFs (P:Program) (ts:List TypeId) {α:Type} (d:Kd α) (G:α→Prop):Prop where
  sz:(ts.map P.cellsOf).sum=d.sz
  out:∀ {H:Type} {enc:TypeId × Value→H} {w:World} {base:Nat} {spare:Nat→Bool} {held:Bool} {fuel:Nat} {cs:List Value} {xs:List (DataW H × List MemPlace)},
    cs.length=(ts.map P.cellsOf).sum→xs.length=ts.length →
    (∀i t,ts[i]? = some t→DataW.trod enc P w base spare held fuel t ((cs.drop ((ts.take i).map P.cellsOf).sum).take (P.cellsOf t))=xs[i]?) →
    (∀n∈DataW.weightsEach P ts (xs.map (·.1)),n≤reachBytes)→∃v,d.K w v cs∧G v
theorem OpensFs.one{P:Program}{t:TypeId}{α:Type}{d:Kd α}{G:α→Prop}(h:Opens P t d G):OpensFs P [t] d G :=
 ⟨by simp[h.sz],fun {H enc w base spare held fuel cs xs} hl hx ht hs=>by
  match xs,hx with
  | [x],_ =>
   have h0:=ht 0 t rfl
   simp at hl h0
   rw[List.take_of_length_le (by omega)]at h0
   exact h.out h0 (fun n hn=>hs n (by simp[DataW.weightsEach,hn]))⟩
theorem OpensFs.cons{P:Program}{t:TypeId}{ts:List TypeId}{α β:Type}{d:Kd α}{G:α→Prop}{d':Kd β}{G':β→Prop}(h:Opens P t d G)(r:OpensFs P ts d' G'):OpensFs P (t :: ts) (Kd.pair d d') (fun x=>G x.1∧G' x.2) :=
 ⟨by simp[h.sz,r.sz,Kd.pair],fun {H enc w base spare held fuel cs xs} hl hx ht hs=>by
  match xs,hx with
  | x :: xs,hx =>
   have h0:=ht 0 t rfl
   simp at hl h0 hx
   obtain⟨a,ha,hga⟩:=h.out h0 (fun n hn=>hs n (by simp[DataW.weightsEach,hn]))
   obtain⟨b,hb,hgb⟩:=r.out (enc:=enc) (w:=w) (base:=base) (spare:=spare) (held:=held) (fuel:=fuel) (cs:=cs.drop (P.cellsOf t)) (xs:=xs) (by rw[List.length_drop];omega) hx
    (fun i t' hi=>by
     have:=ht (i+1) t' (by simpa using hi)
     simp only[List.take_succ_cons,List.map_cons,List.sum_cons,List.getElem?_cons_succ]at this
     rw[List.drop_drop]
     exact this)
    (fun n hn=>hs n (by simp only[List.map_cons,DataW.weightsEach];exact List.mem_append_right _ hn))
   exact⟨(a,b),⟨cs.take (P.cellsOf t),cs.drop (P.cellsOf t),by simp,ha,hb⟩,hga,hgb⟩⟩
def Qph(P:Program):Nat→List Field→Bool
 | _,[]=>true
 | o,f :: r=>(f.offset == o) && Qph P (o+P.cellsOf f.type) r
theorem Qpi{P:Program}:∀ {fs:List Field} {o:Nat},Qph P o fs=true→∀i f,fs[i]? = some f→f.offset=o+(((fs.map (·.type)).take i).map P.cellsOf).sum
 | [],_,_,i,f,h=>by simp at h
 | g :: r,o,h,0,f,hf=>by
  simp[Qph]at h
  simp at hf
  subst hf
  simp[h.1]
 | g :: r,o,h,i+1,f,hf=>by
  simp[Qph]at h
  have:=Qpi h.2 i f (by simpa using hf)
  simp[this]
  omega
theorem Qpj{P:Program}{t:TypeId}{fs:Array Field}{α β:Type}{d:Kd α}{G:α→Prop}(ht:P.underlying t=some (.struct fs))(hl:Qph P 0 fs.toList=true)(hc:P.cellsOf t=d.sz)
  (r:OpensFs P (fs.toList.map (·.type)) d G) (f:β→α) (g:α→β) (hfg:∀a,f (g a)=a):Opens P t (Kd.iso d f) (fun x=>G (f x)) :=
 ⟨hc,fun {H enc w base spare held fuel cs x} h hs=>by
  obtain⟨xs,n,rfl,rfl,hcl,hxl,hx⟩:=DataW.trod_struct ht h
  obtain⟨v,hv,hg⟩:=r.out (enc:=enc) (w:=w) (base:=base) (spare:=spare) (held:=held) (fuel:=n) (cs:=cs) (xs:=xs) (by rw[hcl,hc,r.sz]) (by simp[hxl])
   (fun i t' hi=>by
    rw[List.getElem?_map]at hi
    cases hf:fs.toList[i]? with
    | none=>simp[hf]at hi
    | some fd =>
     simp[hf]at hi
     subst hi
     have:=hx i fd (by simpa using hf)
     rw[Qpi hl i fd hf,Nat.zero_add]at this
     exact this)
   (fun q hq=>hs q (by simp only[DataW.weights,ht];exact hq))
  exact⟨g v,by show d.K w (f (g v)) cs;rw[hfg];exact hv,by show G (f (g v));rw[hfg];exact hg⟩⟩
theorem Qpk{H:Type}{P:Program}:∀ {ts:List TypeId} {ds:List (DataW H)} {j:Nat} {t:TypeId} {d:DataW H},(DataW.weightsEach P ts ds).all (·≤reachBytes)=true→ts[j]? = some t→ds[j]? = some d→∀n∈DataW.weights P t d,n≤reachBytes
 | [],_,_,_,_,_,h,_=>by simp at h
 | _ :: _,[],_,_,_,_,_,h=>by simp at h
 | t0 :: ts,d0 :: ds,0,t,d,hz,h1,h2=>by
  simp at h1 h2
  subst h1 h2
  intro n hn
  simp only[DataW.weightsEach]at hz
  exact of_decide_eq_true (List.all_eq_true.1 hz n (List.mem_append_left _ hn))
 | t0 :: ts,d0 :: ds,j+1,t,d,hz,h1,h2=>by
  simp only[DataW.weightsEach]at hz
  refine Qpk (ts:=ts) (ds:=ds) (j:=j) ?_ (by simpa using h1) (by simpa using h2)
  rw[List.all_append]at hz
  exact(Bool.and_eq_true _ _ ▸ hz).2
theorem Qpl{H:Type}{enc:TypeId × Value→H}{P:Program}{w:World}{base:Nat}{spare:Nat→Bool}{held:Bool}{t e:TypeId}{α:Type}{d:Kd α}{G:List α→Prop}(op:Opens P t (Kd.slice e d) G){a:Option Addr}{len cap:Nat}{x:DataW H}{ps:List MemPlace}
  (h:DataW.Trod enc P w base spare held t (.slice a len cap) x ps) (hs:∀n∈DataW.weights P t x,n≤reachBytes):∃l:List α,len=l.length∧l.length≤cap∧d.C w a l.length l∧G l:=by
 obtain⟨fuel,hf⟩:=h
 obtain⟨l,⟨A,c,he,hc,hr⟩,hg⟩:=op.out hf hs
 have he':[Value.slice a len cap]=[.slice A l.length c]:=by simpa [Value.cells]using he
 simp only[List.cons.injEq,Value.slice.injEq,and_true]at he'
 obtain⟨rfl,rfl,rfl⟩:=he'
 exact⟨l,rfl,hc,hr,hg⟩
theorem arg_agg{H:Type}{enc:TypeId × Value→H}{P:Program}{w:World}{base:Nat}{spare:Nat→Bool}{held:Bool}{t:TypeId}{α:Type}{d:Kd α}{G:α→Prop}(op:Opens P t d G){cs:Array Value}{x:DataW H}{ps:List MemPlace}
  (h:DataW.Trod enc P w base spare held t (.agg cs) x ps) (hs:∀n∈DataW.weights P t x,n≤reachBytes):∃v,d.K w v cs.toList∧G v:=by
 obtain⟨fuel,hf⟩:=h
 have hf':DataW.trod enc P w base spare held fuel t cs.toList=some (x,ps):=by simpa [Value.cells]using hf
 exact op.out hf' hs
theorem Qpm{cs:Array Value}{l:List Value}(h:cs.toList=l):cs=l.toArray:=by rw[← h]
end Go.Proofs.YtnnofopfbeklbaaGreat.Open
end
section
namespace Go.Proofs.YtnnofopfbeklbaaGreat.C
open Go.RowKit Go.Proofs.YtnnofopfbeklbaaGreatW.PrintWords Go.Proofs.YtnnofopfbeklbaaGreatW.PrintLast Go.Proofs.YtnnofopfbeklbaaGreatW.PrintMore Go.Proofs.YtnnofopfbeklbaaGreat.Open
theorem opT5:Opens Tryz.prog 5 (Kd.int .u8) (fun x=>(Lit.int .u8 x).wf=true):=Qpe Tryz.underlying5 (by kernel_rfl)
theorem opT22:Opens Tryz.prog 22 (Kd.int .u32) (fun x=>(Lit.int .u32 x).wf=true):=Qpe Tryz.underlying22 (by kernel_rfl)
def OG27(x:S27):Prop:=(Lit.int .u8 x.f0).wf=true∧(Lit.int .u32 x.f1).wf=true
theorem opT27:Opens Tryz.prog 27 k27 (fun x=>OG27 x):=Qpj Tryz.underlying27 (by kernel_rfl) (by kernel_rfl) (OpensFs.cons opT5 (OpensFs.one opT22)) (fun x:S27=>(x.f0,x.f1)) (fun p=>⟨p.1,p.2⟩) (fun _=>rfl)
theorem opT52:Opens Tryz.prog 52 (Kd.slice 5 (Kd.int .u8)) (fun x=>(x.length*1≤140737488351232∧∀z1∈x,(Lit.int .u8 z1).wf=true)):=Qpg (B:=1) Tryz.underlying52 (by kernel_rfl) (by kernel_rfl) opT5
def Qar.Pure:Prop:=∀(x0:S27) (x1:List Int),OG27 x0→(x1.length*1≤140737488351232∧∀z2∈x1,(Lit.int .u8 z2).wf=true)→∃k,Qar.f k x0.f0 x0.f1 x1=some true
end Go.Proofs.YtnnofopfbeklbaaGreat.C
end
section
namespace Go.Proofs.YtnnofopfbeklbaaGreat.CodecP
open Go.RowKit Go.Proofs.YtnnofopfbeklbaaGreat.C Go.Proofs.YtnnofopfbeklbaaGreatW.PrintWords Go.Proofs.YtnnofopfbeklbaaGreatW.PrintLast Go.Proofs.YtnnofopfbeklbaaGreatW.PrintMore
theorem Qpq:∀(n:Nat) (b:List Int),b.length≤n→b.length<254→(Qiy b).length=b.length+1
 | n,b,hn,h=>by
  rcases Int.lt_or_le (ixOf (b.take 254) 0) 0 with h0|h0
  ·rw[Qjd h0 (by omega)]
   simp
  ·obtain⟨p,hp⟩:=Int.eq_ofNat_of_zero_le h0
   have h1:=(Qiw (b.take 254) 0).2
   rw[List.length_take,hp]at h1
   rw[Qjb hp]
   match n,hn with
   | 0,hn=>omega
   | n+1,hn =>
    have ih:=Qpq n (b.drop (p+1)) qq_12 qq_12
    rw[List.length_cons,List.length_append,ih,List.length_take,List.length_drop]
    omega
theorem Qpr:∀(n:Nat) (x y:Int),0≤x→x≤y→(vput n x).length≤(vput n y).length
 | 0,_,_,_,_=>by simp[vput]
 | n+1,x,y,h0,h=>by
  have ih:=Qpr n (x/128) (y/128) (by omega) (by omega)
  unfold vput
  by_cases hy:y<128
  ·rw[if_pos hy,if_pos (by omega)]
   simp
  ·rw[if_neg hy]
   by_cases hx:x<128
   ·rw[if_pos hx];simp
   ·rw[if_neg hx];simp;omega
def Qps(e s n:Int):Int:=((Qlr e s n).length:Int)
theorem Qpt(e s n:Int):Qps e s n=3+(vput 9 s).length+(vput 9 n).length+10:=by
 unfold Qps Qlr Qlm
 have h1:=Qjg 9 s
 have h2:=Qjg 9 n
 have hl:([1,2,e]++vput 9 s++vput 9 n++leb (Qjx 0 ([1,2,e]++vput 9 s++vput 9 n)) 8).length=3+(vput 9 s).length+(vput 9 n).length+8:=by
  rw[List.length_append,List.length_append,List.length_append,Qhy]
  rfl
 rw[List.length_append,Qpq _ _ (Nat.le_refl _) (by rw[hl];omega),hl]
 simp
 omega
theorem Qpu(e s n:Int):0≤Qps e s n∧Qps e s n≤100:=by
 rw[Qpt]
 have h1:=Qjg 9 s
 have h2:=Qjg 9 n
 omega
theorem Qpv(e s:Int){n m:Int}(h0:0≤n)(h:n≤m):Qps e s n≤Qps e s m:=by
 rw[Qpt,Qpt]
 have:=Qpr 9 n m h0 h
 omega
def Qpw(n:Int):Int:=9+12*n+8*((n+15)/16)+8+1+(9+12*n+8*((n+15)/16)+8-1)/254+1
def szN(e:Int):Int:=2^e.toNat
def Good(e s:Int):Prop:=12≤e∧e≤24∧1≤s∧s≤65536
theorem Qpx{e s:Int}(h:Good e s):Qal.f e s=some 0:=by
 obtain⟨h1,h2,h3,h4⟩:=h
 unfold Qal.f
 rw[if_neg (by omega),if_neg (by omega),if_neg (by omega),if_neg (by omega)]
theorem Qpy{e s:Int}(h:¬Good e s):Qal.f e s=some 1:=by
 unfold Qal.f
 by_cases h1:e<12
 ·rw[if_pos h1]
 by_cases h2:e > 24
 ·rw[if_neg h1,if_pos h2]
 by_cases h3:s<1
 ·rw[if_neg h1,if_neg h2,if_pos h3]
 by_cases h4:s > 65536
 ·rw[if_neg h1,if_neg h2,if_neg h3,if_pos h4]
 ·exact absurd ⟨by omega,by omega,by omega,by omega⟩ h
theorem Qpz{e:Int}(h1:12≤e)(h2:e≤24):4096≤szN e∧szN e≤16777216:=by
 unfold szN
 obtain⟨n,rfl⟩:=Int.eq_ofNat_of_zero_le (show 0≤e by omega)
 rw[Int.toNat_natCast]
 have h3:(2:Nat)^12≤2^n:=Nat.pow_le_pow_right (by omega) (by omega)
 have h4:(2:Nat)^n≤2^24:=Nat.pow_le_pow_right (by omega) (by omega)
 have h5:((2^n:Nat):Int)=(2:Int)^n:=by rw[Int.natCast_pow];rfl
 rw[← h5]
 omega
theorem Qqa{e s:Int}(h:Good e s):Qam.f e s=some (szN e):=by
 have hr:=Qpz h.1 h.2.1
 unfold Qam.f
 rw[Qpx h,Option.bind_some,if_pos rfl,if_pos (by have:=h.1;omega)]
 congr 1
 unfold shl
 have hm:min e.toNat IntKind.i64.bits=e.toNat:=by simp[IntKind.bits];have:=h.2.1;omega
 rw[hm,Int.one_mul]
 exact IntWalk.i64_in _ (by unfold szN at hr;omega)
theorem Qqb(c:Int)(h0:0≤c)(h1:c≤16777216):Qau.f c=some (Qpw c):=by
 have hm:mx 0 c=c:=by unfold mx;split<;>omega
 have hf:Qat.f c=some ((c+15)/16):=by
  unfold Qat.f
  rw[hm]
  have e1:wrap64 ((wrap64 (c+16))-1)=c+15:=by unfold wrap64;omega
  rw[e1,Int.tdiv_eq_ediv_of_nonneg (by omega)]
  congr 1
  unfold wrap64
  omega
 have ha:wrap64 ((wrap64 (9+(wrap64 (12*c))))+(wrap64 (8*((c+15)/16))))=9+12*c+8*((c+15)/16):=by unfold wrap64;omega
 unfold Qau.f
 rw[hm,hf,Option.bind_some,ha]
 obtain⟨m,hmm⟩:∃m,m=9+12*c+8*((c+15)/16):=⟨_,rfl⟩
 have hm0:0≤m:=by omega
 have hm1:m≤1000000000:=by omega
 unfold Qpw
 rw[← hmm]
 clear hmm ha hf hm
 have hx:mx 0 m=m:=by unfold mx;split<;>omega
 unfold Qay.f Qak.f
 rw[hx]
 have e1:wrap64 (m+8)=m+8:=by unfold wrap64;omega
 rw[e1,if_neg (by omega)]
 have e2:wrap64 (m+8-1)=m+8-1:=by unfold wrap64;omega
 rw[e2,Int.tdiv_eq_ediv_of_nonneg (by omega),Option.bind_some,Option.bind_some]
 congr 1
 unfold wrap64
 omega
theorem Qqc(c:Int)(h0:0≤c)(h1:c≤16777216):12*c≤Qpw c∧Qpw c≤1000000000:=by unfold Qpw;omega
def Qqd(e u c x:Int):Bool:=decide (1≤x∧u+x+Qpw (c+1)≤szN e)
theorem Qqe{e s:Int}(h:Good e s)(n u c x:Int)(hu0:0≤u)(hu1:u≤16777216)(hc0:0≤c)(hc1:c≤8388608)(hx1:x≤1152921504606846976):Qbh.f e s n u c x=some (Qqd e u c x):=by
 have hz:=Qpz h.1 h.2.1
 have hm:=Qqc (c+1) (by omega) (by omega)
 unfold Qbh.f Qqd
 by_cases hx:x≥1
 ·rw[if_pos hx]
  unfold Qbi.f
  rw[Qqa h,Option.bind_some,show wrap64 (c+1)=c+1 by unfold wrap64;omega,Qqb (c+1) (by omega) (by omega),Option.bind_some,Option.bind_some]
  congr 1
  have e1:wrap64 (wrap64 (szN e-u)-Qpw (c+1))=szN e-u-Qpw (c+1):=by unfold wrap64;omega
  rw[e1]
  unfold mx
  rw[decide_eq_decide]
  split<;>omega
 ·rw[if_neg hx]
  congr 1
  symm
  rw[decide_eq_false_iff_not]
  omega
theorem Qqf{e u c x:Int}(h:Qqd e u c x=true):1≤x∧u+x+Qpw (c+1)≤szN e:=by simpa [Qqd]using h
theorem Qqg{e s:Int}(h:Good e s)(n u c x:Int)(hu0:0≤u)(hu1:u≤16777216)(hc0:0≤c)(hc1:c≤8388608)(hx1:x≤1152921504606846976)(hf:Qqd e u c x=true):Qbj.f e s n u c x=some (e,s,n,u+x,c+1,0):=by
 have hz:=Qpz h.1 h.2.1
 have hm:=Qqc (c+1) (by omega) (by omega)
 obtain⟨f1,f2⟩:=Qqf hf
 unfold Qbj.f
 rw[Qqe h n u c x hu0 hu1 hc0 hc1 hx1,Option.bind_some,hf,if_pos rfl,show wrap64 (u+x)=u+x by unfold wrap64;omega,show wrap64 (c+1)=c+1 by unfold wrap64;omega]
theorem Qqh{e s:Int}(h:Good e s)(n:Int)(h0:0≤n)(h1:n<s):Qav.f e s n=some (Qlr e s n,0):=by
 obtain⟨a,b,c,d⟩:=h
 unfold Qav.f Qaz.f
 rw[Qpx ⟨a,b,c,d⟩,Option.bind_some,if_pos rfl,if_neg (by omega),Option.bind_some,if_pos rfl,if_pos ⟨by omega,by omega,by omega,by omega,by omega,by omega⟩]
theorem Qqi{e s:Int}(h:Good e s)(n:Int)(h0:0≤n)(h1:n<s):Qbf.f e s n=some (e,s,n,Qps e s n,0,0):=by
 unfold Qbf.f
 rw[Qqh h n h0 h1,Option.bind_some,if_pos rfl]
 rfl
theorem Qqj{e s:Int}(h:Good e s)(n:Int)(h1:s≤n):Qbf.f e s n=some (0,0,0,0,0,1):=by
 unfold Qbf.f Qav.f Qaz.f
 rw[Qpx h,Option.bind_some,if_pos rfl,if_pos (by omega),Option.bind_some,if_neg (by decide),Option.bind_some,if_neg (by decide)]
def Qqk(e s:Int):List Int→List Int→Int→Int→Int→List Int × Int
 | [],out,_,_,_=>(out,0)
 | x :: t,out,n,u,c =>
  if Qqd e (Qps e s (s-1)) 0 x=false then([],6)
  else if Qqd e u c x=true then Qqk e s t (out++[n]) n (u+x) (c+1)
  else if n+1<s then Qqk e s t (out++[n+1]) (n+1) (Qps e s (n+1)+x) 1
  else([],7)
theorem Qql{e s:Int}(h:Good e s){n x:Int}(h0:0≤n)(h1:n≤s-1)(hf:Qqd e (Qps e s (s-1)) 0 x=true):Qqd e (Qps e s n) 0 x=true:=by
 obtain⟨f1,f2⟩:=Qqf hf
 have:=Qpv e s h0 h1
 simp only[Qqd,decide_eq_true_eq]
 omega
theorem Qqm{l:List Int}{i:Nat}(h:i<l.length):l.drop i=rd l (i:Int) :: l.drop (i+1):=by rw[List.drop_eq_getElem_cons h,Qkb h]
theorem Qqn{e s:Int}(h:Good e s){u c x:Int}(hc0:0≤c)(hc1:c≤8388608)(hu0:0≤u)(hf:Qqd e u c x=true):0≤u+x∧u+x≤16777216∧0≤c+1∧c+1≤8388608:=by
 have hz:=Qpz h.1 h.2.1
 have hm:=Qqc (c+1) (by omega) (by omega)
 obtain⟨f1,f2⟩:=Qqf hf
 omega
theorem Qqo{e s:Int}(h:Good e s)(l:List Int)(hl:l.length≤1000000)(hx:∀x∈l,x≤1152921504606846976):∀(d i k:Nat) (out:List Int) (n u c:Int),i+d=l.length→out.length=i→0≤n→n<s→0≤u→u≤16777216→0≤c→c≤8388608→d+1≤k →
  Qbg.l0 k out l (l.length:Int) (i:Int) e s e s n u c e s (s-1) (Qps e s (s-1)) 0=some (Qqk e s (l.drop i) out n u c)
 | 0,i,k,out,n,u,c,hi,ho,hn0,hn1,hu0,hu1,hc0,hc1,hk=>by
  obtain⟨k,rfl⟩:∃m,k=m+1:=⟨k-1,by omega⟩
  rw[List.drop_of_length_le (by omega)]
  unfold Qbg.l0
  rw[if_neg (by omega)]
  rfl
 | d + 1,i,k,out,n,u,c,hi,ho,hn0,hn1,hu0,hu1,hc0,hc1,hk=>by
  obtain⟨k,rfl⟩:∃m,k=m+1:=⟨k-1,by omega⟩
  have hg:=h
  obtain⟨a1,a2,a3,a4⟩:=h
  have hil:i<l.length:=by omega
  have hxi:rd l (i:Int)≤1152921504606846976:=by rw[Qkb hil];exact hx _ (List.getElem_mem hil)
  have hH:=Qpu e s (s-1)
  rw[Qqm hil]
  unfold Qbg.l0
  rw[if_pos (by omega),if_pos (by omega),if_pos (by omega),Qpo i (by omega)]
  generalize hxx:rd l (i:Int)=x at *
  rw[Qqe hg (s-1) (Qps e s (s-1)) 0 x hH.1 (by omega) (by omega) (by omega) hxi,Option.bind_some]
  unfold Qqk
  by_cases hf:Qqd e (Qps e s (s-1)) 0 x=false
  ·rw[hf,if_neg (by decide),if_pos rfl]
  ·have hft:Qqd e (Qps e s (s-1)) 0 x=true:=by simpa using hf
   rw[if_neg hf,if_pos hft,Qqe hg n u c x hu0 hu1 hc0 hc1 hxi,Option.bind_some]
   by_cases hq:Qqd e u c x=true
   ·have haf:=Qqn hg hc0 hc1 hu0 hq
    rw[if_pos hq,if_pos hq,Qqg hg n u c x hu0 hu1 hc0 hc1 hxi hq,Option.bind_some,if_pos (by omega)]
    exact Qqo hg l hl hx d (i+1) k (out++[n]) n (u+x) (c+1) (by omega) (by rw[List.length_append,ho];rfl) hn0 hn1 haf.1 haf.2.1 haf.2.2.1 haf.2.2.2 (by omega)
   ·rw[if_neg hq,if_neg hq,show(n+1)%4294967296=n+1 by omega]
    by_cases hs:n+1<s
    ·have hfn:=Qql hg (show 0≤n+1 by omega) (by omega) hft
     have hHn:=Qpu e s (n+1)
     have haf:=Qqn hg (Int.le_refl 0) (by omega) hHn.1 hfn
     rw[if_pos hs,Qqi hg (n+1) (by omega) hs,Option.bind_some,if_pos rfl,Qqg hg (n+1) (Qps e s (n+1)) 0 x hHn.1 (by omega) (by omega) (by omega) hxi hfn,Option.bind_some,if_pos (by omega)]
     exact Qqo hg l hl hx d (i+1) k (out++[n+1]) (n+1) (Qps e s (n+1)+x) 1 (by omega) (by rw[List.length_append,ho];rfl) (by omega) hs haf.1 haf.2.1 (by omega) (by omega) (by omega)
    ·rw[if_neg hs,Qqj hg (n+1) (by omega),Option.bind_some,if_neg (by decide)]
theorem Qqp{e s:Int}(h:Good e s)(l:List Int)(k:Nat)(hl:l.length≤1000000)(hx:∀x∈l,x≤1152921504606846976)(hk:l.length+1≤k):Qbg.f k e s l=some (Qqk e s l [] 0 (Qps e s 0) 0):=by
 have hg:=h
 obtain⟨a1,a2,a3,a4⟩:=h
 have hH:=Qpu e s 0
 unfold Qbg.f
 rw[Qqi hg 0 (by omega) (by omega),Option.bind_some,if_pos rfl,show(s-1)%4294967296=s-1 by omega,Qqi hg (s-1) (by omega) (by omega),Option.bind_some]
 exact Qqo hg l hl hx l.length 0 k [] 0 (Qps e s 0) 0 (by omega) rfl (by omega) (by omega) hH.1 (by omega) (by omega) (by omega) hk
theorem rdR(l:List Rec)(i:Nat)(h:i<l.length):Qhn l (i:Int)=l[i]:=by simp[Qhn,List.getElem?_eq_getElem h]
def chkR(r:Rec):Int:=chk r.f0 r.f2 r.f3
def chkL:List Rec→Int
 | []=>0
 | r :: t=>if chkR r=0 then chkL t else chkR r
def ordL:List Rec→Int
 | []=>0
 | [_]=>0
 | a :: b :: t=>if b.f1≤a.f1 then 8 else ordL (b :: t)
def risL(l:List Rec):Int:=if chkL l=0 then ordL l else chkL l
theorem Qqq{l:List Rec}(h:chkL l=0):∀r∈l,chkR r=0:=by
 induction l with
 | nil=>intro r hr;cases hr
 | cons a t ih =>
  unfold chkL at h
  by_cases ha:chkR a=0
  ·rw[if_pos ha]at h
   intro r hr
   rcases List.mem_cons.1 hr with rfl|hr
   ·exact ha
   ·exact ih h r hr
  ·rw[if_neg ha]at h;exact absurd h ha
theorem check_k(k:Nat)(d:Bool)(s:Int)(key v:ByteArray)(hk:1≤k):Qbm.f k d s key v=some (chk d key v) :=
 Qcm (g:=fun k=>Qbm.f k d s key v) (Qbm.mono d s key v) hk (Qlf d s key v)
theorem Qqr{l:List Rec}{i:Nat}(h:i+1<l.length):ordL (l.drop i)=if l[i+1].f1≤l[i].f1 then 8 else ordL (l.drop (i+1)):=by
 rw[List.drop_eq_getElem_cons (by omega),List.drop_eq_getElem_cons h]
 rfl
theorem Qqs{l:List Rec}(h:l.length≤1):ordL l=0:=by
 match l,h with
 | [],_=>rfl
 | [_],_=>rfl
theorem Qqt(l:List Rec)(hl:l.length≤4611686018427387903):∀(d i k:Nat),i+d=l.length→d+1≤k→Qbn.l1 k l ((i+1:Nat):Int)=some (ordL (l.drop i))
 | 0,i,k,h,hk=>by
  obtain⟨k,rfl⟩:∃m,k=m+1:=⟨k-1,by omega⟩
  unfold Qbn.l1
  rw[if_neg (by omega),Qqs qq_12]
 | d+1,i,k,h,hk=>by
  obtain⟨k,rfl⟩:∃m,k=m+1:=⟨k-1,by omega⟩
  unfold Qbn.l1
  by_cases hi:i+1<l.length
  ·have w1:=Qpp (i+1) (by omega) (by omega)
   rw[Nat.add_sub_cancel]at w1
   rw[if_pos (by omega),if_pos (by omega),w1,if_pos (by omega),if_pos (by omega),rdR l (i+1) hi,rdR l i (by omega),Qqr hi]
   by_cases ho:l[i+1].f1≤l[i].f1
   ·rw[if_pos ho,if_pos ho]
   ·rw[if_neg ho,if_neg ho,Qpo (i+1) (by omega)]
    exact Qqt l hl d (i+1) k (by omega) (by omega)
  ·rw[if_neg (by omega),Qqs qq_12]
theorem Qqu(l:List Rec)(hl:l.length≤4611686018427387903):∀(d i k:Nat),i+d=l.length→d+l.length+5≤k→Qbn.l0 k l l (l.length:Int) (i:Int)=some (if chkL (l.drop i)=0 then ordL l else chkL (l.drop i))
 | 0,i,k,h,hk=>by
  obtain⟨k,rfl⟩:∃m,k=m+1:=⟨k-1,by omega⟩
  unfold Qbn.l0
  rw[if_neg (by omega),List.drop_of_length_le (by omega)]
  exact Qqt l hl l.length 0 k (by omega) (by omega)
 | d+1,i,k,h,hk=>by
  obtain⟨k,rfl⟩:∃m,k=m+1:=⟨k-1,by omega⟩
  have hi:i<l.length:=by omega
  unfold Qbn.l0
  rw[if_pos (by omega),if_pos (by omega),if_pos (by omega),rdR l i hi,check_k k _ _ _ _ (by omega),Option.bind_some,List.drop_eq_getElem_cons hi]
  unfold chkL
  by_cases hc:chkR l[i]=0
  ·rw[if_pos hc,if_pos (show chk l[i].f0 l[i].f2 l[i].f3=0 from hc),Qpo i (by omega)]
   exact Qqu l hl d (i+1) k (by omega) (by omega)
  ·rw[if_neg hc,if_neg (show ¬chk l[i].f0 l[i].f2 l[i].f3=0 from hc),if_neg hc]
   rfl
theorem Qqv(l:List Rec)(k:Nat)(hl:l.length≤4611686018427387903)(hk:2*l.length+5≤k):Qbn.f k l=some (risL l) :=
 Qqu l hl l.length 0 k (by omega) (by omega)
def Qqw(r:Rec):List Int:=Qlm (Qlh r.f0 r.f1 r.f2 r.f3)
def fsz(r:Rec):Int:=((Qqw r).length:Int)
def Wf(l:List Rec):Prop:=∀r∈l,0≤r.f1∧r.f1<18446744073709551616
theorem Qqx(d:Bool)(s:Int)(key v:ByteArray):(Qlh d s key v).length≤key.size+v.size+31:=by
 have h1:=Qjg 9 s
 have h2:=Qjg 9 (key.size:Int)
 have h3:=Qjg 9 (v.size:Int)
 have h4:=Qch key
 have h5:=Qch v
 cases d
 ·simp only[Qlh,List.length_append,List.length_cons,List.length_nil,Bool.false_eq_true,if_false];omega
 ·simp only[Qlh,List.length_append,List.length_cons,List.length_nil,if_true];omega
theorem Qqy(b:List Int):0<(Qlm b).length∧(Qlm b).length≤2*b.length+18:=by
 have h:=Qln _ (b++leb (Qjx 0 b) 8) (Nat.le_refl _)
 rw[List.length_append,Qhy]at h
 unfold Qlm
 rw[List.length_append]
 simp
 omega
theorem Qqz(r:Rec)(hc:chkR r=0):1≤fsz r∧fsz r≤8388608:=by
 have h1:=Qlg hc
 have h2:=Qqx r.f0 r.f1 r.f2 r.f3
 have h3:=Qqy (Qlh r.f0 r.f1 r.f2 r.f3)
 unfold fsz Qqw
 omega
theorem Qra(r:Rec)(hc:chkR r=0)(h0:0≤r.f1)(h1:r.f1<18446744073709551616):Qaw.f r.f0 r.f1 r.f2 r.f3=some (Qqw r,0):=by
 have h2:=Qlg hc
 have h3:=Qqx r.f0 r.f1 r.f2 r.f3
 unfold Qaw.f Qbl.f
 rw[if_pos h0,if_pos h1,if_pos (show chk r.f0 r.f2 r.f3=0 from hc),Option.bind_some,if_pos rfl]
 unfold Qax.f
 rw[if_pos (by dsimp only;omega),Option.bind_some]
 rfl
def Qrb(e s:Int)(l:List Rec):List Int × Int:=Qqk e s (l.map fsz) [] 0 (Qps e s 0) 0
theorem Qrc{l:List Rec}{i:Nat}(h:i<l.length):(l.take (i+1)).map fsz=(l.take i).map fsz++[fsz l[i]]:=by rw[List.take_succ_eq_append_getElem h,List.map_append];rfl
theorem Qrd{e s:Int}(h:Good e s)(l:List Rec)(hl:l.length≤1000000)(hw:Wf l)(hc:chkL l=0):∀(d i k:Nat),i+d=l.length→d+l.length+5≤k →
  Qbb.l0 k ((l.take i).map fsz) l (l.length:Int) (i:Int) e s=some ((Qrb e s l).1,l.map fsz,(Qrb e s l).2)
 | 0,i,k,hi,hk=>by
  obtain⟨k,rfl⟩:∃m,k=m+1:=⟨k-1,by omega⟩
  unfold Qbb.l0
  rw[if_neg (by omega),List.take_of_length_le (by omega),Qqp h (l.map fsz) k (by rw[List.length_map];exact hl) (fun x hx=>by
   obtain⟨r,hr,rfl⟩:=List.mem_map.1 hx
   have:=Qqz r (Qqq hc r hr)
   omega) (by rw[List.length_map];omega),Option.bind_some]
  rfl
 | d+1,i,k,hi,hk=>by
  obtain⟨k,rfl⟩:∃m,k=m+1:=⟨k-1,by omega⟩
  have hil:i<l.length:=by omega
  have hr:=List.getElem_mem hil
  have hln:((l.take i).map fsz).length=i:=by rw[List.length_map,List.length_take];omega
  unfold Qbb.l0
  rw[if_pos (by omega),if_pos (by omega),if_pos (by omega),rdR l i hil,Qra l[i] (Qqq hc _ hr) (hw _ hr).1 (hw _ hr).2,Option.bind_some,if_pos (by omega),Qpo i (by omega)]
  have:=Qrd h l hl hw hc d (i+1) k (by omega) (by omega)
  rw[Qrc hil]at this
  exact this
def Qre(e s:Int)(l:List Rec):List Int × List Int × Int:=if 12≤e∧e≤24∧1≤s∧s≤65536 then if risL l=0 then((Qrb e s l).1,l.map fsz,(Qrb e s l).2)else([],[],risL l)else([],[],1)
theorem Qrf{l:List Rec}(h:risL l=0):chkL l=0:=by
 unfold risL at h
 by_cases hc:chkL l=0
 ·exact hc
 ·rw[if_neg hc]at h;exact h
theorem plan_is(e s:Int)(l:List Rec)(k:Nat)(hl:l.length≤1000000)(hw:Wf l)(hk:2*l.length+10≤k):Qbb.f k e s l=some (Qre e s l):=by
 unfold Qbb.f Qre
 by_cases hg:12≤e∧e≤24∧1≤s∧s≤65536
 ·rw[Qpx hg,Option.bind_some,if_pos rfl,if_pos hg,Qqv l k (by omega) (by omega),Option.bind_some]
  by_cases hr:risL l=0
  ·rw[if_pos hr,if_pos hr]
   exact Qrd hg l hl hw (Qrf hr) l.length 0 k (by omega) (by omega)
  ·rw[if_neg hr,if_neg hr]
 ·rw[Qpy hg,Option.bind_some,if_neg (by decide),if_neg hg]
theorem Qrg(e s:Int):∀(l out:List Int) (n u c:Int),0≤n→n<s→(∀x∈out,0≤x∧x<s)→(Qqk e s l out n u c).2=0 →
  (Qqk e s l out n u c).1.length=out.length+l.length∧∀x∈(Qqk e s l out n u c).1,0≤x∧x<s
 | [],out,n,u,c,h0,h1,ho,h=>⟨by simp[Qqk],ho⟩
 | x :: t,out,n,u,c,h0,h1,ho,h=>by
  unfold Qqk at h ⊢
  by_cases hf:Qqd e (Qps e s (s-1)) 0 x=false
  ·rw[if_pos hf]at h;cases h
  ·rw [if_neg hf]at h ⊢
   by_cases hq:Qqd e u c x=true
   ·rw[if_pos hq]at h ⊢
    have:=Qrg e s t (out++[n]) n (u+x) (c+1) h0 h1 (fun y hy=>by
     rcases List.mem_append.1 hy with hy|hy
     ·exact ho y hy
     ·simp at hy;omega) h
    refine⟨?_,this.2⟩
    rw[this.1,List.length_append,List.length_cons]
    simp
    omega
   ·rw[if_neg hq]at h ⊢
    by_cases hs:n+1<s
    ·rw[if_pos hs]at h ⊢
     have:=Qrg e s t (out++[n+1]) (n+1) (Qps e s (n+1)+x) 1 (by omega) hs (fun y hy=>by
      rcases List.mem_append.1 hy with hy|hy
      ·exact ho y hy
      ·simp at hy;omega) h
     refine⟨?_,this.2⟩
     rw[this.1,List.length_append,List.length_cons]
     simp
     omega
    ·rw[if_neg hs]at h;cases h
abbrev Plc:=S69
def Qrh(e s:Int):Option Int→Int→List Int→List Int→List Plc
 | prev,at_,x :: into,z :: sizes =>
  (⟨x,(if prev=some x then at_ else Qps e s x)%4294967296⟩:Plc) :: Qrh e s (some x) ((if prev=some x then at_ else Qps e s x)+z) into sizes
 | _,_,_,_=>[]
theorem Qri{e s:Int}{l:List Rec}(h:(Qre e s l).2.2=0)(hl:l.length≤1000000) :
  Good e s∧risL l=0∧(Qrb e s l).2=0∧Qre e s l=((Qrb e s l).1,l.map fsz,0)∧(Qrb e s l).1.length=l.length∧∀x∈(Qrb e s l).1,0≤x∧x<s:=by
 unfold Qre at h ⊢
 by_cases hg:12≤e∧e≤24∧1≤s∧s≤65536
 ·rw[if_pos hg]at h ⊢
  by_cases hr:risL l=0
  ·rw[if_pos hr]at h ⊢
   have h2:(Qrb e s l).2=0:=h
   have:=Qrg e s (l.map fsz) [] 0 (Qps e s 0) 0 (by omega) (by omega) (by simp) h2
   refine⟨hg,hr,h2,by rw[h2],?_,this.2⟩
   have h3:(Qrb e s l).1.length=_:=this.1
   rw[h3,List.length_map]
   simp
  ·rw[if_neg hr]at h;exact absurd h hr
 ·rw[if_neg hg]at h;cases h
def Qrj(into:List Int):Int:=if into.length=0 then 0 else(rd into ((into.length:Int)-1)+1)%4294967296
end Go.Proofs.YtnnofopfbeklbaaGreat.CodecP
end
