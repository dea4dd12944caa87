/- The entries of a map, stored one by one into a list of lists: the order does not matter. -/
import Derived.Test.YthhobbgaejimgaaGreatDoorSfCode
import Derived.Test.YthhobbgaejimgaaGreatDoorSfStep
set_option linter.all false
namespace Go.Sf
def D9(V:List D1)(p:(Int×Int)×Int):List D1:=
 if 0<=p.1.1/\0<=p.1.2 then V.modify p.1.1.toNat (fun r=>r.set p.1.2.toNat p.2)else V
def Bf.Dis(kvs:Bf):Prop:=kvs.Pairwise fun a b=>a.1≠b.1
theorem Ua(V:List D1)(p q:(Int×Int)×Int)(h:p.1≠q.1):D9 (D9 V p) q=D9 (D9 V q) p:=by
 obtain ⟨⟨a,b⟩,n⟩:=p;obtain⟨⟨c,d⟩,m⟩:=q;simp[D9];by_cases e:0<=a/\0<=b
 .by_cases f:0<=c/\0<=d
  .simp[QQ e,QQ f];apply List.ext_getElem?
   grind [Option.map_eq_map,Option.map_map,List.set_comm]
  .simp[a6 f]
 .simp[a6 e]
variable{kvs:Bf}
theorem Bf.dis_of(hd:kvs.Dis){x y:(Int×Int)×Int}(c:x∈kvs)(d:y∈kvs)(h:x.1=y.1):x=y:=by
 induction kvs with
 |nil=>cases c
 |cons q r i=>
  have e:=List.pairwise_cons.1 hd;rcases List.mem_cons.1 c with f|a<;>rcases List.mem_cons.1 d with g|b
  .rw[f,g]
  .grind
  .grind
  .exact i e.2 a b
theorem Ub{kvs l:Bf}(hd:kvs.Dis)(h:kvs.Perm l)(V:List D1):l.foldl D9 V=kvs.foldl D9 V:=by
 refine (h.foldl_eq' (fun x a y b z=>?_) V).symm
 grind [Ua,Bf.dis_of]
variable{V:List D1}{r:D1}{x:Int}
theorem XW{p:(Int×Int)×Int}(a:idx V p.1.1=some r)(b:idx r p.1.2=some x):CI V p.1.1 (CI r p.1.2 p.2)=D9 V p:=by
 have c:=FW a;have d:=FW b;simp[D9,QQ (And.intro c.1 d.1),CI];apply List.ext_getElem?
 grind
def Kc(V W:List D1):Prop:=V.map List.length=W.map List.length
theorem Vw(V:List D1)(p:(Int×Int)×Int):Kc (D9 V p) V:=by
 simp [Kc,D9];split
 .apply List.ext_getElem?
  grind
 .rfl
theorem Kc.idx{V W:List D1}(h:Kc V W){a b:Int}(i:idx W a=some r)(j:idx r b=some x):∃c x',idx V a=some c/\idx c b=some x':=by
 have f:=FW i;have g:=FW j;have d:(V.map List.length)[a.toNat]?=some r.length:=by rw[h,List.getElem?_map,f.2.2];rfl
 rw [List.getElem?_map]at d;cases hv:V[a.toNat]? with
 |none=>rw[hv]at d;cases d
 |some c=>
  rw [hv]at d;simp only[Option.map_some,rb]at d;have e:b.toNat<c.length:=by have:=(List.getElem?_eq_some_iff.1 g.2.2).1;omega
  exact ⟨c,c[b.toNat],by simp only[Go.Sf.idx,QQ f.1,hv],by simp only[Go.Sf.idx,QQ g.1];exact List.getElem?_eq_getElem e⟩
theorem Wk.refl(cs:List AJ):Wk cs cs:=⟨rfl,fun _ d h=>⟨d,h,.inl rfl⟩⟩
theorem Wk.set(cs:List AJ)(k:Nat):Wk cs (cs.set k ⟨false,.undef⟩):=by
 refine ⟨by simp,fun i d h=>?_⟩
 grind
def sN{α:Type}(f:α->Fp):List α->Fp
 |[]=>some true|p::r=>(f p).bind fun b=>(sN f r).bind fun c=>some (b&&c)
theorem P8{α:Type}{f:α->Fp}:∀{l:List α}{c:Bool},sN f l=some c->(∀p∈l,∃b,f p=some b/\(c=true->b=true))/\(c=false->∃p∈l,f p=some false)
 |[],c,h=>by cases h;exact⟨fun p a=>(by cases a),fun e=>(by cases e)⟩
 |q::r,c,h=>by
  obtain ⟨b,g,h⟩:=bind_some h;obtain⟨d,hd,h⟩:=bind_some h;obtain⟨i,j⟩:=P8 hd;cases h;refine⟨fun p a=>?_,fun e=>?_⟩
  .grind
  .cases b with
   |false=>exact⟨q,by simp,g⟩|true=>
    grind
end Go.Sf
