/- Merged texts. -/
import Derived.Test.YtnnofopfbeklbaaGreatMK26
import Derived.Test.YtnnofopfbeklbaaGreatMK27
set_option linter.unusedVariables false
set_option linter.unusedSimpArgs false
set_option maxHeartbeats 8000000
set_option maxRecDepth 100000
section
namespace Go.Proofs.YtnnofopfbeklbaaGreat.Pure
open Go.RowKit Go.Proofs.YtnnofopfbeklbaaGreat.C Go.Proofs.YtnnofopfbeklbaaGreat.CodecP Go.Proofs.YtnnofopfbeklbaaGreatW.PrintWords Go.Proofs.YtnnofopfbeklbaaGreatW.PrintLast Go.Proofs.YtnnofopfbeklbaaGreatW.PrintMore Go.Proofs.YtnnofopfbeklbaaGreat.Open
theorem bytes_wf3{l:List Int}(h:∀z∈l,(Lit.int .u8 z).wf=true):Bytes l:=by
 intro x hx;have h1:=h x hx;simp only[Lit.wf,IntKind.min,IntKind.max,IntKind.signed,IntKind.bits,Bool.and_eq_true,decide_eq_true_eq]at h1;simp at h1;omega
theorem u8_wf3{x:Int}(h1:(Lit.int .u8 x).wf=true):0≤x∧x<256:=by
 simp only[Lit.wf,IntKind.min,IntKind.max,IntKind.signed,IntKind.bits,Bool.and_eq_true,decide_eq_true_eq]at h1;simp at h1;omega
theorem MigratePrefix:Qas.Pure:=by
 intro x l h0 hl;have hb:=bytes_wf3 hl.2;have hx:=u8_wf3 h0;obtain⟨K,hK⟩:∃K:Nat,K=l.length+70000000:=⟨_,rfl⟩;refine⟨K+1+1,?_⟩;unfold Qas.f;rw[mlives _ (by omega),Option.bind_some,if_pos rfl,Qas.j0]
 by_cases h6:l.length≤1500
 ·rw [if_neg qq_23];obtain⟨hsm,hG⟩:=small_is hx;rw[hsm,Option.bind_some];generalize (12:Int)+x%2=e at *;generalize (1:Int)+x/2%8=s at *
  cases hA:allL l (l.length+1) 0 []with
  | mk ps q =>
   obtain⟨j,er⟩:=q;obtain⟨g1,g2,g3,g4,g5⟩:=gall_spec hb hA;obtain⟨img,er2,t,e1,e2,e3⟩:=imgs_few e s g3 (by omega) (K+1) (by omega);obtain⟨img',er2',t',a,b,c⟩:=imgs_few e s g3 (by omega) K (by omega);have hsame:img'=img∧er2'=er2:=by
    have:=Qei (g:=fun k=>Qcu.f k e s (recsL 1 ps)) (Qcu.mono e s (recsL 1 ps)) (Nat.le_succ K) a;rw[e1]at this;simp only[Option.some.injEq,Prod.mk.injEq]at this;exact⟨this.1.symm,this.2.symm⟩
   obtain⟨rfl,rfl⟩:=hsame;rw[prefix_good hG hb (by omega) hA (K+1) (by omega),rprefix_good hG hb (by omega) hA (K+1) (by omega),e1,e2];simp only[Option.bind_some];have hS:=strict_good hG hb (by omega) hA K (by omega);rw[a]at hS
   by_cases hz:er2'=0
   ·rw[if_pos hz,if_pos hz];simp only[Option.bind_some];have hn:strOfNums img'=t:=by rw[← e3,Qwp]
    rw[hn,if_pos rfl,if_true,if_true,bne_self_eq_false,Qas.j1,if_neg (by decide),if_pos (by omega),if_pos (by omega)];have hT:allL (l.take j.toNat) ((l.take j.toNat).length+1) 0 []=(ps,j,0):=by
     have hjn:j=((j.toNat:Nat):Int):=by omega
     have h:=all_take hb j.toNat (by omega) (l.length+1) ((l.take j.toNat).length+1) 0 [] ps er (Nat.zero_le _) (by rw[hA,← hjn]) (by omega) (by rw[List.length_take];omega);rw[← hjn]at h;exact h
    rw[strict_good hG (hb.take _) (by rw[List.length_take];omega) hT K (by rw[List.length_take];omega),if_pos rfl,a];simp only[Option.bind_some];rw[if_true,if_pos hz,if_true,if_true,hS]
    by_cases h0:er=0
    ·rw[if_pos h0];simp only[Option.bind_some];rw[if_pos hz,if_pos (by have:=g5 h0;omega)];simp
    ·rw[if_neg h0];simp only[Option.bind_some];rw[if_neg h0]
   ·rw[if_neg hz,if_neg hz];simp only[Option.bind_some];have hnil:(strOfNums []).toList=(⟨#[]⟩:ByteArray).toList:=by rw[toList_iff];rfl
    rw[if_pos hnil,if_true,if_true,bne_self_eq_false,Qas.j1,if_neg (by decide),if_pos (by omega),if_pos (by omega)];obtain⟨im0,er0,t0,f1,f2,f3⟩:=imgs_few e s (ps:=[]) (by simp) (by simp[sumP']) K (by omega);have hT:allL (l.take (0:Int).toNat) ((l.take (0:Int).toNat).length+1) 0 []=([],0,0):=by simp[allL]
    rw[strict_good hG (hb.take _) (by rw[List.length_take];omega) hT K (by rw[List.length_take];omega),if_pos rfl,f1];simp only[Option.bind_some];rw[if_neg hz,hS]
    by_cases h0:er=0
    ·rw[if_pos h0];simp only[Option.bind_some];rw[if_neg hz]
    ·rw[if_neg h0];simp only[Option.bind_some];rw[if_neg h0]
 ·rw[if_pos qq_23,mlives _ (by omega)];rfl
end Go.Proofs.YtnnofopfbeklbaaGreat.Pure
end
