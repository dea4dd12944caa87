/- Plain lemmas: what the functions of the program and of the reference compute. -/
import Derived.Test.YtpagkickoiafkaaGreatP207
set_option linter.all false
set_option maxRecDepth 100000
open List renaming pairwise_map->v?,mem_map->w_
open Int renaming eq_ofNat_of_zero_le->w!
namespace Go.Sf.Sc
open Go Go.Sf
abbrev B4(L R:ci)(m:cE):ec:=Cf ⟨#[114]⟩ L R m
abbrev sB(L R:ci)(m:cE):ec:=Ci AP (B4 L R m) 1
abbrev tB(L R:ci)(m:cE):ec:=By AP (B4 L R m) [1]
def mS(L:ci)(M:cE):cE:=⟨(AS AP L 1).bq.map (AA M.bq),(AS AP L 1).ca.map (AA M.ca)⟩
def nS(L R:ci)(m:cE)(H:ci)(M:cE):cE:=
 ⟨M.bq++(C8 AP (B4 L R m) [1]).map λv=>Eu (sB L R m).eE.bq (mS L M).bq H.bq.length (Ao (AS AP R 1).bq v),
 M.ca++(Ch AP (B4 L R m) [1]).map λw=>Eu (sB L R m).eE.ca (mS L M).ca H.ca.length (Ao (AS AP R 1).ca w)⟩
variable{v:Int}
theorem kW{t:AC}{r:ec}{h:AH}{M:cE}(d:RX r)(l2:r.eE.ca.length=r.eh.ci.ca.length)(c:EY r.eh.ci h.ci M)(e:0<=v)(f:v<r.d5.ci.ca.length):
  AA (cS r h ⟨M,[]⟩).ca v=Eu r.eE.ca M.ca h.ci.ca.length v:=by
 have hd:dS r h ⟨M,[]⟩=⟨Ak h.ci.bq.length,Ak h.ci.ca.length⟩:=Rd d c;rw[show AA (cS r h ⟨M,[]⟩).ca v=M2 r.im.ca r.eE.ca (M.ca.map (AA (EE h (dS r h ⟨M,[]⟩)).ca)) (dS r h ⟨M,[]⟩).ca.length v from XO e f,hd,Ow,d.ke];unfold M2;by_cases hv:v∈r.eE.ca
 .obtain⟨a,b,_,_⟩:=BH hv;have:=(c.edge _ a U).1;rw[QQ (Aq.2 hv),QQ hv,Hy a U,CZ a (by have:=c.el;omega)];show AA (E9 h.ci.ca.length (Ak h.ci.ca.length)) _=_;rw[KE this.1 this.2,S3 this.1 this.2]
 .rw[aE (by rw[Aq];exact hv),aE hv,Az]
section
variable{L R:ci}{m:cE}{H:ci}{M:cE}
theorem Yt(G:EP L R m):CW BL AP (B4 L R m)=0:=Uu G cR al
theorem Yy(G:EP L R m):EP (sB L R m).eh.ci (sB L R m).d5.ci (sB L R m).eE:=kz _ G a_
theorem gv(G:EP L R m):CW BL AP (sB L R m)=0:=Uu (Yy G) cR al
theorem tq(G:EP L R m)(hn:L.bq.length+R.bq.length<=20)(he:L.ca.length+R.ca.length<=20):CW BL AP (tB L R m)=0:=Uu (Xc G [1] a_ hn he) cR al
theorem YG(G:EP L R m)(d:EY L H M):EY (sB L R m).eh.ci H (mS L M):=by
 have nl:=d.nl;have el:=d.el;have n:(sB L R m).eh.ci.bq.length=(AS AP L 1).bq.length:=k?
 have le:(sB L R m).eh.ci.ca.length=(AS AP L 1).ca.length:=k?
 have o:∀{S ζ:Fp},S.Nodup->ζ.Nodup->(∀x∈S,0<=x/\x<ζ.length)->(S.map (AA ζ)).Nodup:=λ{S ζ}q hX f=>by
  unfold List.Nodup;rw[v?];refine List.Pairwise.imp_of_mem (λ{x y}a k g e=>g ?_) q;have r:=Df hX (f x a).1 (f x a).2;have B:=Df hX (f y k).1 (f y k).2;rw[e]at r;omega
 refine ⟨by rw[n];simp[mS],by rw[le];simp[mS],λi c b=>?_,λi c b=>?_,o (Dc _ _) d.nnd λx a=>by rw[nl];exact(DO.1 a).1,o (Dc _ _) d.Aa6 λx a=>by rw[el];exact(ET.1 a).1⟩
 .rw[n]at b;have a:=(DO.1 (AG c b)).1;obtain⟨h,j⟩:=d.node _ a.1 a.2;rw[show AA (mS L M).bq i=AA M.bq (AA (AS AP L 1).bq i)from CZ c b,j];exact⟨h,(Of c b).symm⟩
 .rw[le]at b;have p:=AG c b;have a:=(ET.1 p).1;obtain⟨h,j⟩:=d.edge _ a.1 a.2;obtain⟨s,t⟩:=Rj G.l a_ p;obtain⟨a1,a2,u,_⟩:=BH s;obtain⟨w,z,A,_⟩:=BH t;rw[show AA (mS L M).ca i=AA M.ca (AA (AS AP L 1).ca i)from CZ c b,j];refine⟨h,?_⟩;have e:AA (sB L R m).eh.ci.ca i=⟨(AA L.ca (AA (AS AP L 1).ca i)).fa,Ao (AS AP L 1).bq (AA L.ca (AA (AS AP L 1).ca i)).fd,Ao (AS AP L 1).bq (AA L.ca (AA (AS AP L 1).ca i)).To⟩:=S9 c b;rw[e];dsimp only;rw[show AA (mS L M).bq (Ao (AS AP L 1).bq _)=_ from CZ a1 a2,show AA (mS L M).bq (Ao (AS AP L 1).bq (AA L.ca (AA (AS AP L 1).ca i)).To)=_ from CZ w z,u,A]
variable{v:Int}
theorem HU(hv:v∈C8 AP (B4 L R m) [1]):v∈(AS AP R 1).bq/\v∉m.bq:=by
 obtain ⟨b,a⟩:=Ji.1 hv;unfold Nv at a;rw[gN,Bool.not_eq_true',<-Bool.not_eq_true,Aq,Vl,ml]at a;exact⟨DO.2 ⟨b,a.2⟩,a.1⟩
theorem HT(hv:v∈Ch AP (B4 L R m) [1]):v∈(AS AP R 1).ca/\v∉m.ca:=by
 obtain ⟨b,a⟩:=Ji.1 hv;unfold Nu at a;rw[gN,Bool.not_eq_true',<-Bool.not_eq_true,Aq,Vl,ml]at a;exact⟨ET.2 ⟨b,a.2⟩,a.1⟩
theorem Yg(G:EP L R m)(hv:v∈(AS AP R 1).bq)(b:v∉m.bq):Ao (AS AP R 1).bq v∉(sB L R m).eE.bq:=λh=>by
 obtain ⟨x,a,e⟩:=w_.1 h;have a:x∈(AS AP L 1).bq:=a;have c:=(DO.1 a).1;have:=Se (QX G a) hv e;exact b (this▸AG c.1 (by have:=G.pr;omega))
theorem Vk(G:EP L R m)(hv:v∈(AS AP R 1).ca)(b:v∉m.ca):Ao (AS AP R 1).ca v∉(sB L R m).eE.ca:=λh=>by
 obtain ⟨x,a,e⟩:=w_.1 h;have a:x∈(AS AP L 1).ca:=a;have c:=(ET.1 a).1;have:=Se (QW G a) hv e;exact b (this▸AG c.1 (by have:=G.sr;omega))
theorem gV(G:EP L R m)(i:EY L H M){u:Int}(j:u∈(AS AP R 1).bq)(l:u∈A0 AP (B4 L R m) [1]):AA (nS L R m H M).bq (Ao (A0 AP (B4 L R m) [1]) u)=Eu (sB L R m).eE.bq (mS L M).bq H.bq.length (Ao (AS AP R 1).bq u):=by
 have nl:=i.nl;have n:=G.pr;by_cases d:u∈m.bq
 .obtain⟨a,b,c,_⟩:=BH d;have o:Ao m.bq u∈(AS AP L 1).bq:=by
   refine DO.2 ⟨⟨a,U⟩,?_⟩;rw[<-(G.node _ a U).2,c];exact(DO.1 j).2
  obtain ⟨p,q,w,_⟩:=BH o;have e:AA (sB L R m).eE.bq (Ao (AS AP L 1).bq (Ao m.bq u))=Ao (AS AP R 1).bq u:=by
   show AA (FH (AS AP L 1).bq (AS AP R 1).bq m.bq) _=_;unfold FH;rw[CZ p q,w,c]
  have s:(sB L R m).eE.bq.length=(AS AP L 1).bq.length:=az _;have r:Ao (AS AP R 1).bq u∈(sB L R m).eE.bq:=e▸AG p U;have f:=Df (Yy G).nn p (show _<((sB L R m).eE.bq.length:Int)by omega);rw[e]at f;rw[show Ao (A0 AP (B4 L R m) [1]) u=Ao m.bq u from Uw d,show AA (nS L R m H M).bq _=_ from DV a U,Ow,QQ r,f,show AA (mS L M).bq _=_ from CZ p q,w]
 .have g:=(List.mem_append.1 l).resolve_left d;obtain⟨a,b,c,_⟩:=BH g;rw[show Ao (A0 AP (B4 L R m) [1]) u=(m.bq.length:Int)+Ao (C8 AP (B4 L R m) [1]) u from QZ d g];obtain⟨k,h⟩:=w! a;rw[h,n,<-nl,show AA (nS L R m H M).bq ((M.bq.length:Int)+(k:Int))=_ from JJ,<-h,CZ a b,c]
theorem jL(G:EP L R m)(gH:BW H)(d:EY L H M):EY (Eo AP (B4 L R m) [1]) (Ce (sB L R m) H (mS L M).bq) (nS L R m H M):=by
 have nl:=d.nl;have el:=d.el;have gl:=G.pr;have ge:=G.sr;have η:=Yt G;have he:=fS (l:=[1]) η a_;have w:=YG (R:=R) (m:=m) G d;have N:=gv G;obtain⟨hc,_⟩:=NX N;have pn:(Ce (sB L R m) H (mS L M).bq).bq.length=H.bq.length+(AX (sB L R m).eE.bq (sB L R m).d5.ci.bq.length).length:=by simp[Ce]
 have pe:(Ce (sB L R m) H (mS L M).bq).ca.length=H.ca.length+(AX (sB L R m).eE.ca (sB L R m).d5.ci.ca.length).length:=by simp[Ce]
 have rn:(sB L R m).d5.ci.bq.length=(AS AP R 1).bq.length:=k?
 have re:(sB L R m).d5.ci.ca.length=(AS AP R 1).ca.length:=k?
 have D:∀i:Int,0<=i->i<L.bq.length->AA (nS L R m H M).bq i=AA M.bq i:=λi f I=>DV f U;have O:∀{A S J ζ:Fp}{g n:Nat}(F:Int->Int),A.Nodup->(∀x∈A,0<=x/\x<g)->S.Nodup->(∀v∈S,v∈ζ/\Ao ζ v∉J)->ζ.length<=n->(∀v∈S,F v=(g:Int)+((AX J (Ao ζ v)).length:Int))->(A++S.map F).Nodup:=λ{A S J ζ g n}F Q θ w hX hn z=>by
  rw [List.nodup_append];refine⟨Q,?_,λa ε b κ e=>?_⟩
  .unfold List.Nodup;rw[v?];refine List.Pairwise.imp_of_mem (λ{x y}q K C e=>C ?_) w;rw[z x q,z y K]at e;obtain⟨x1,Z⟩:=hX x q;obtain⟨u,y2⟩:=hX y K;obtain⟨a1,a2,_,_⟩:=BH x1;obtain⟨b1,b2,_,_⟩:=BH u;refine Se x1 u ?_;rw[<-(LU (n:=n) a1 U Z).1,<-(LU (n:=n) b1 U y2).1,show((AX J (Ao ζ x)).length:Int)=(AX J (Ao ζ y)).length by omega]
  .obtain⟨v,hv,rfl⟩:=w_.1 κ;have:=θ a ε;rw[e,z v hv]at this;omega
 refine ⟨by simp[nS,Eo];exact nl,by simp[nS,Eo];exact el,λi f I=>?_,λi f I=>?_,?_,?_⟩
 .by_cases hi:i<L.bq.length
  .obtain⟨h,p⟩:=d.node i f hi;rw[D i f hi,show AA (Ce (sB L R m) H (mS L M).bq).bq _=_ from DV h.1 h.2,p,Zs f hi];exact⟨U,rfl⟩
  .obtain⟨j,s⟩:∃j:Int,i=L.bq.length+j:=⟨i-L.bq.length,U⟩;have o:j<(C8 AP (B4 L R m) [1]).length:=by
    have:(Eo AP (B4 L R m) [1]).bq.length=L.bq.length+(C8 AP (B4 L R m) [1]).length:=by simp[Eo,Cf]
    omega
   have hv:=AG (show 0<=j by omega) o;obtain⟨t,s2⟩:=HU hv;obtain⟨a,b,c,_⟩:=BH t;obtain⟨h,p⟩:=l6 N w a (show _<((sB L R m).d5.ci.bq.length:Int)by omega);have e:AA (nS L R m H M).bq i=Eu (sB L R m).eE.bq (mS L M).bq H.bq.length (Ao (AS AP R 1).bq (AA (C8 AP (B4 L R m) [1]) j)):=by
    obtain ⟨k,rfl⟩:=w! (show 0<=j by omega);rw[s,<-nl,show AA (nS L R m H M).bq ((M.bq.length:Int)+(k:Int))=_ from JJ,CZ U o]
   rw [e];refine⟨h,p.trans ?_⟩;rw[s,show AA (Eo AP (B4 L R m) [1]).bq ((L.bq.length:Int)+j)=_ from Xo (r:=B4 L R m) U o];have δ:AA (sB L R m).d5.ci.bq (Ao (AS AP R 1).bq (AA (C8 AP (B4 L R m) [1]) j))=AA R.bq (AA (AS AP R 1).bq (Ao (AS AP R 1).bq (AA (C8 AP (B4 L R m) [1]) j))):=Of a b;exact δ.trans (congrArg (AA R.bq) c)
 .by_cases hi:i<L.ca.length
  .obtain⟨h,p⟩:=d.edge i f hi;have hf:=(G.l.edge _ (AG f hi)).2;rw[show AA (nS L R m H M).ca i=_ from DV f U,show AA (Ce (sB L R m) H (mS L M).bq).ca _=_ from DV h.1 h.2,p,show AA (Eo AP (B4 L R m) [1]).ca i=AA L.ca i from jK (r:=B4 L R m) f hi,D _ hf.1.1 hf.1.2,D _ hf.2.1.1 hf.2.1.2];exact⟨U,rfl⟩
  .obtain⟨j,s⟩:∃j:Int,i=L.ca.length+j:=⟨i-L.ca.length,U⟩;have o:j<(Ch AP (B4 L R m) [1]).length:=by
    have:(Eo AP (B4 L R m) [1]).ca.length=L.ca.length+(Ch AP (B4 L R m) [1]).length:=by simp[Eo,Cf]
    omega
   have hv:=AG (show 0<=j by omega) o;obtain⟨t,s2⟩:=HT hv;obtain⟨a,b,c,_⟩:=BH t;obtain⟨e1,e2⟩:=he _ hv;obtain⟨f1,f2⟩:=Rj G.r a_ t;obtain⟨h,p⟩:=l5 (B:=H) (M:=mS L M) a (show _<((sB L R m).d5.ci.ca.length:Int)by omega) (Vk G t s2);have e:AA (nS L R m H M).ca i=Eu (sB L R m).eE.ca (mS L M).ca H.ca.length (Ao (AS AP R 1).ca (AA (Ch AP (B4 L R m) [1]) j)):=by
    obtain ⟨k,rfl⟩:=w! (show 0<=j by omega);rw[s,<-el,show AA (nS L R m H M).ca ((M.ca.length:Int)+(k:Int))=_ from JJ,CZ U o]
   rw [e];refine⟨h,p.trans ?_⟩;rw[s,show AA (Eo AP (B4 L R m) [1]).ca ((L.ca.length:Int)+j)=_ from WB (r:=B4 L R m) U o];have P:AA (sB L R m).d5.ci.ca (Ao (AS AP R 1).ca (AA (Ch AP (B4 L R m) [1]) j))=⟨(AA R.ca (AA (AS AP R 1).ca (Ao (AS AP R 1).ca (AA (Ch AP (B4 L R m) [1]) j)))).fa,Ao (AS AP R 1).bq (AA R.ca (AA (AS AP R 1).ca (Ao (AS AP R 1).ca (AA (Ch AP (B4 L R m) [1]) j)))).fd,Ao (AS AP R 1).bq (AA R.ca (AA (AS AP R 1).ca (Ao (AS AP R 1).ca (AA (Ch AP (B4 L R m) [1]) j)))).To⟩:=S9 a b;rw[c]at P;unfold PA Ri;rw[P];dsimp only;rw[<-gV G d f1 e1,<-gV G d f2 e2];rfl
 .refine O (J:=(sB L R m).eE.bq) (ζ:=(AS AP R 1).bq) (g:=H.bq.length) (n:=(AS AP R 1).bq.length) _ d.nnd (λx q=>?_) (Dc _ _) (λv hv=>⟨(HU hv).1,Yg G (HU hv).1 (HU hv).2⟩) (aN _) λv hv=>RM (Yg G (HU hv).1 (HU hv).2)
  .obtain⟨y,E,u,rfl⟩:=A9 q;exact(d.node y E U).1
 .refine O (J:=(sB L R m).eE.ca) (ζ:=(AS AP R 1).ca) (g:=H.ca.length) (n:=(AS AP R 1).ca.length) _ d.Aa6 (λx q=>?_) (Dc _ _) (λv hv=>⟨(HT hv).1,Vk G (HT hv).1 (HT hv).2⟩) (aN _) λv hv=>RM (Vk G (HT hv).1 (HT hv).2)
  .obtain⟨y,E,u,rfl⟩:=A9 q;exact(d.edge y E U).1
end
end Go.Sf.Sc
