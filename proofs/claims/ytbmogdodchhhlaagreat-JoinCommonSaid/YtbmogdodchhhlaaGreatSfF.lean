/- The entries of a map, stored one by one into a list of lists: the order does not matter. -/
import Derived.Test.YtbmogdodchhhlaaGreatSfCode
import Derived.Test.YtbmogdodchhhlaaGreatSfStep
set_option linter.all false
namespace Go.Sf
def D9(V:List Fp)(p:(Int×Int)×Int):List Fp:=
 if 0<=p.1.1/\0<=p.1.2 then V.modify p.1.1.toNat (fun r=>r.set p.1.2.toNat p.2)else V
def Bi.Dis(kvs:Bi):Prop:=kvs.Pairwise fun a b=>a.1≠b.1
theorem Ud(V:List Fp)(p q:(Int×Int)×Int)(h:p.1≠q.1):D9 (D9 V p) q=D9 (D9 V q) p:=by
 obtain ⟨⟨a,b⟩,n⟩:=p;obtain⟨⟨c,d⟩,m⟩:=q;simp[D9];by_cases e:0<=a/\0<=b
 .by_cases f:0<=c/\0<=d
  .simp[ae e,ae f];apply List.ext_getElem?
   grind [Option.map_eq_map,Option.map_map,List.set_comm]
  .simp[az f]
 .simp[az e]
variable{kvs:Bi}
theorem Bi.dis_of(hd:kvs.Dis){x y:(Int×Int)×Int}(c:x∈kvs)(d:y∈kvs)(h:x.1=y.1):x=y:=by
 induction kvs with
 |nil=>cases c
 |cons q r i=>
  have e:=List.pairwise_cons.1 hd;rcases List.mem_cons.1 c with f|a<;>rcases List.mem_cons.1 d with g|b
  .rw[f,g]
  .grind
  .grind
  .exact i e.2 a b
theorem Ue{kvs l:Bi}(hd:kvs.Dis)(h:kvs.Perm l)(V:List Fp):l.foldl D9 V=kvs.foldl D9 V:=by
 refine (h.foldl_eq' (fun x a y b z=>?_) V).symm
 grind [Ud,Bi.dis_of]
variable{V:List Fp}{r:Fp}{x:Int}
theorem XP{p:(Int×Int)×Int}(a:idx V p.1.1=some r)(b:idx r p.1.2=some x):Bg V p.1.1 (Bg r p.1.2 p.2)=D9 V p:=by
 have c:=FX a;have d:=FX b;simp[D9,ae (And.intro c.1 d.1),Bg];apply List.ext_getElem?
 grind
def LQ(V W:List Fp):Prop:=V.map List.length=W.map List.length
theorem Vp(V:List Fp)(p:(Int×Int)×Int):LQ (D9 V p) V:=by
 simp [LQ,D9];split
 .apply List.ext_getElem?
  grind
 .rfl
theorem LQ.idx{V W:List Fp}(h:LQ V W){a b:Int}(i:idx W a=some r)(j:idx r b=some x):∃c x',idx V a=some c/\idx c b=some x':=by
 have f:=FX i;have g:=FX j;have d:(V.map List.length)[a.toNat]?=some r.length:=by rw[h,List.getElem?_map,f.2.2];rfl
 rw [List.getElem?_map]at d;cases hv:V[a.toNat]? with
 |none=>rw[hv]at d;cases d
 |some c=>
  rw [hv]at d;simp only[Option.map_some,se]at d;have e:b.toNat<c.length:=by have:=(List.getElem?_eq_some_iff.1 g.2.2).1;omega
  exact ⟨c,c[b.toNat],by simp only[Go.Sf.idx,ae f.1,hv],by simp only[Go.Sf.idx,ae g.1];exact List.getElem?_eq_getElem e⟩
theorem Wk.refl(cs:List AI):Wk cs cs:=⟨rfl,fun _ d h=>⟨d,h,.inl rfl⟩⟩
theorem Wk.set(cs:List AI)(k:Nat):Wk cs (cs.set k ⟨false,.undef⟩):=by
 refine ⟨by simp,fun i d h=>?_⟩
 grind
def tU{α:Type}(f:α->K1):List α->K1
 |[]=>some true|p::r=>(f p).bind fun b=>(tU f r).bind fun c=>some (b&&c)
theorem QF{α:Type}{f:α->K1}:∀{l:List α}{c:Bool},tU f l=some c->(∀p∈l,∃b,f p=some b/\(c=true->b=true))/\(c=false->∃p∈l,f p=some false)
 |[],c,h=>by cases h;exact⟨fun p a=>(by cases a),fun e=>(by cases e)⟩
 |q::r,c,h=>by
  obtain ⟨b,g,h⟩:=bind_some h;obtain⟨d,hd,h⟩:=bind_some h;obtain⟨i,j⟩:=QF hd;cases h;refine⟨fun p a=>?_,fun e=>?_⟩
  .grind
  .cases b with
   |false=>exact⟨q,by simp,g⟩|true=>
    grind
end Go.Sf
