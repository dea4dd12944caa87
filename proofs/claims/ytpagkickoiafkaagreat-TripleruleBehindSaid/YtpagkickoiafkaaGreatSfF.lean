/- The entries of a map, stored one by one into a list of lists: the order does not matter. -/
import Derived.Test.YtpagkickoiafkaaGreatSfCode
import Derived.Test.YtpagkickoiafkaaGreatSfStep
set_option linter.all false
open Option renaming some->Y
open List renaming ext_getElem?->l!,mem_cons->l?,length->m_,getElem?_map->m?
namespace Go.Sf
def Dd(κ:List Fp)(p:(Int×Int)×Int):List Fp:=
 if 0<=p.1.1/\0<=p.1.2 then κ.modify p.1.1.toNat (λr=>r.set p.1.2.toNat p.2)else κ
def Be.Dis(kvs:Be):Prop:=kvs.Pairwise λa b=>a.1≠b.1
theorem UL(κ:List Fp)(p q:(Int×Int)×Int)(h:p.1≠q.1):Dd (Dd κ p) q=Dd (Dd κ q) p:=by
 obtain ⟨⟨a,b⟩,n⟩:=p;obtain⟨⟨c,d⟩,m⟩:=q;simp[Dd];by_cases e:0<=a/\0<=b
 .by_cases f:0<=c/\0<=d
  .simp[ae e,ae f];apply l!
   grind [Option.map_eq_map,Option.map_map,List.set_comm]
  .simp[az f]
 .simp[az e]
variable{kvs:Be}
theorem Be.dis_of(hd:kvs.Dis){x y:(Int×Int)×Int}(c:x∈kvs)(d:y∈kvs)(h:x.1=y.1):x=y:=by
 induction kvs with
 |nil=>cases c
 |cons q r i=>
  have e:=List.pairwise_cons.1 hd;rcases l?.1 c with f|a<;>rcases l?.1 d with g|b
  .rw[f,g]
  .grind
  .grind
  .exact i e.2 a b
theorem UM{kvs l:Be}(hd:kvs.Dis)(h:kvs.Perm l)(κ:List Fp):l.foldl Dd κ=kvs.foldl Dd κ:=by
 refine (h.foldl_eq' (λx a y b z=>?_) κ).symm
 grind [UL,Be.dis_of]
variable{κ:List Fp}{r:Fp}{x:Int}
theorem Wh{p:(Int×Int)×Int}(a:idx κ p.1.1=Y r)(b:idx r p.1.2=Y x):BX κ p.1.1 (BX r p.1.2 p.2)=Dd κ p:=by
 have c:=DV a;have d:=DV b;simp[Dd,ae (And.intro c.1 d.1),BX];apply l!
 grind
def KG(κ η:List Fp):Prop:=κ.map m_=η.map m_
theorem VQ(κ:List Fp)(p:(Int×Int)×Int):KG (Dd κ p) κ:=by
 simp [KG,Dd];split
 .apply l!
  grind
 .rfl
theorem KG.idx{κ η:List Fp}(h:KG κ η){a b:Int}(i:idx η a=Y r)(j:idx r b=Y x):∃c x',idx κ a=Y c/\idx c b=Y x':=by
 have f:=DV i;have g:=DV j;have d:(κ.map m_)[a.toNat]?=Y r.length:=by rw[h,m?,f.2.2];rfl
 rw [m?]at d;cases hv:κ[a.toNat]? with
 |none=>rw[hv]at d;cases d
 |some c=>
  rw [hv]at d;simp only[Option.map_some,jR]at d;have e:b.toNat<c.length:=by have:=(List.getElem?_eq_some_iff.1 g.2.2).1;omega
  exact ⟨c,c[b.toNat],by simp only[Go.Sf.idx,ae f.1,hv],by simp only[Go.Sf.idx,ae g.1];exact List.getElem?_eq_getElem e⟩
theorem Wk.refl(cs:List AI):Wk cs cs:=⟨rfl,λ_ d h=>⟨d,h,.inl rfl⟩⟩
theorem Wk.set(cs:List AI)(k:Nat):Wk cs (cs.set k ⟨false,.undef⟩):=by
 refine ⟨V,λi d h=>?_⟩
 grind
def Ry{α:Type}(f:α->K1):List α->K1
 |[]=>Y true|p::r=>(f p).bind λb=>(Ry f r).bind λc=>Y (b&&c)
theorem Qd{α:Type}{f:α->K1}:∀{l:List α}{c:Bool},Ry f l=Y c->(∀p∈l,∃b,f p=Y b/\(c=true->b=true))/\(c=false->∃p∈l,f p=Y false)
 |[],c,h=>by cases h;exact⟨λp a=>(by cases a),λe=>i?⟩
 |q::r,c,h=>by
  obtain ⟨b,g,h⟩:=bind_some h;obtain⟨d,hd,h⟩:=bind_some h;obtain⟨i,j⟩:=Qd hd;cases h;refine⟨λp a=>?_,λe=>?_⟩
  .grind
  .cases b with
   |false=>exact⟨q,V,g⟩|true=>
    grind
end Go.Sf
