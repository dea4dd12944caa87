/- The invariant between an environment of the pure language and a frame with memory. -/
import Derived.Test.YtfcfkigfmofniaaGreatSfSem
import Derived.Laws.AppendOwn
set_option linter.all false
open Option renaming some->Y,none->W
open Bool renaming true->X
open Nat renaming le_trans->u!,lt_of_lt_of_le->u?,lt_or_ge->v1
namespace Go.Sf
open Go.RowKit (Below)
def Fd(w:World)(size:Nat)(v:Value)(n:Nat)(xs:List Value)(z:Option (Nat×Nat)):Prop:=
 xs.length=n*size/\
 ((v=.slice W 0 0/\n=0/\z=W)\/
 ∃g cap cur e,v=.slice (Y ⟨g,0,W⟩) n cap/\w.heap[g]?=Y (.cells cur e (0,0))/\n<=cap/\cap<=maxLen/\cur.size=cap*size/\cur.toList.take (n*size)=xs/\z=Y (g,n*size))
def Jc(w:World)(size:Nat)(v:Value)(n:Nat)(xs:List Value)(z:Option (Nat×Nat)):Prop:=
 ∃z0,Fd w size v n xs z0/\z=z0.map λp=>(p.1,0)
def Bm(w:World)(F:Nat->Nat->Prop)(z:Option (Nat×Nat)):TV->Value->Prop
 |.list n es,v=>∃xs,Fd w n v es.length xs z/\AP w F (es.flatMap TV.cells) xs/\(∀e∈es,e.cells.length=n)/\∀x∈xs,x.oneCell'=X|_,_=>False
abbrev Hn:=Nat->Nat->Option (Nat×Nat)
def Qb(w:World)(F:Nat->Nat->Prop)(z:Option (Nat×Nat))(n:Nat)(es:Fq)(v:Value):Prop:=
 ∃xs,Jc w n v es.length xs z/\AP w F (es.flatMap TV.cells) xs/\(∀e∈es,e.cells.length=n)/\∀x∈xs,x.oneCell'=X
def E4(w:World)(F:Nat->Nat->Prop)(ρ:Hn)(z:Option (Nat×Nat))(es:Fq)(v:Value):Prop:=
 ∃xs,Jc w 1 v es.length xs z/\(∀x∈xs,x.oneCell'=X)/\∀(j:Nat)(e:TV),es[j]?=Y e->∃g x n fs,z=Y (g,0)/\xs[j]?=Y x/\e=.list n fs/\Qb w F (ρ g j) n fs x
def D7(w:World)(F:Nat->Nat->Prop)(ρ:Hn)(z:Option (Nat×Nat)):TV->Value->Prop
 |.xl n es,v=>∃xs,Jc w n v es.length xs z/\AP w F (es.flatMap TV.cells) xs/\(∀e∈es,e.cells.length=n)/\∀x∈xs,x.oneCell'=X|.xn es,v=>E4 w F ρ z es v|t,v=>Bm w F z t v
variable{ρ:Hn}{t:TV}{v:Value}
theorem Bm.c{w:World}{F:Nat->Nat->Prop}{z:Option (Nat×Nat)}(h:Bm w F z t v):D7 w F ρ z t v:=by
 cases t<;>first|exact h|(simp[Bm]at h)
def A8(w:World)(F:Nat->Nat->Prop)(ρ:Hn)(z:Option (Nat×Nat))(c:AR)(v:Value):Prop:=
 match c with
 |⟨X,t⟩=>D7 w F ρ z t v|⟨false,t⟩=>Af w F t v/\v.oneCell'=X
abbrev BH:=Nat->Option Nat->Option (Nat×Nat)
def x9(a:Act)(G:BH):Hn:=λg j=>G (a.tmps.size+g) (Y j)
def AW(base:Nat)(F0:Nat->Nat->Prop)(G:BH)(b o:Nat):Prop:=(b<base/\F0 b o)\/∃s i lo,G s i=Y (b,lo)/\lo<=o
def slot(a:Act)(s:Nat):Value:=a.tmps.getD s undef
def XV(a:Act)(w:World)(q:Nat)(i:Option Nat)(v:Value):Prop:=
 match i with
 |none=>v=slot a q|some k=>∃b c θ,slot a q=.pointer (Y ⟨b,0,W⟩)/\w.heap[b]?=Y (.cells c θ (0,0))/\c[k]?=Y v
def NK.at(w:World)(x:Value):NK->Value->Prop
 |.hd,v=>v=x|.el j,v=>∃g len cap,x=.slice (Y ⟨g,0,W⟩) len cap/\v=.pointer (Y ⟨g,j,W⟩)|.rw j,v=>∃g len cap,x=.slice (Y ⟨g,0,W⟩) len cap/\w.cell? ⟨g,j,W⟩=Y v|.rp j p,v=>∃g len cap,x=.slice (Y ⟨g,0,W⟩) len cap/\∃r len' cap',w.cell? ⟨g,j,W⟩=Y (.slice (Y ⟨r,0,W⟩) len' cap')/\v=.pointer (Y ⟨r,p,W⟩)
def NH(a:Act)(w:World)(q i:Nat)(k:NK)(v:Value):Prop:=
 ∃b c θ x,slot a q=.pointer (Y ⟨b,0,W⟩)/\w.heap[b]?=Y (.cells c θ (0,0))/\c[i]?=Y x/\k.at w x v
def EP(k:Int×Int):Value:=.agg #[.int .i64 k.1,.int .i64 k.2]
def WB(w:World)(b:Nat)(kvs:BM):Prop:=
 ∃es clock,w.heap[b]?=Y (.map es clock)/\es.toList.map (λe=>(e.key,e.val))=kvs.map (λp=>(EP p.1,Value.int .i64 p.2))/\es.toList.Pairwise (λx y=>x.born<y.born)/\∀e∈es.toList,e.born<clock
def gY(w:World)(r b:Nat)(last:Option ((Int×Int)×Int))(todo:BM):Prop:=
 ∃(es:Array MapEntry)(clock since c0:Nat)(seen:Array Nat),w.heap[b]?=Y (.map es clock)/\w.heap[r]?=Y (.mapIter (Y b) since seen c0)/\es.toList.Pairwise (λx y=>x.born<y.born)/\(∀e∈es.toList,e.born<since)/\since<=c0/\since<=clock/\
  (∀p,last=Y p->∃(seen':Array Nat)(e:MapEntry),seen=seen'.push e.born/\e∈es.toList/\c0=clock/\e.key=EP p.1/\e.val=.int .i64 p.2)/\
  ((es.toList.filter λe=>!seen.contains e.born).map (λe=>(e.key,e.val))).Perm (todo.map (λp=>(EP p.1,Value.int .i64 p.2)))
def Uu(w:World)(F:Nat->Nat->Prop)(z z2:Option (Nat×Nat)):MX->Value->Prop
 |.mp b kvs,v=>v=.map (Y b)/\z=Y (b,0)/\WB w b kvs|.tm b kvs ts,v=>∃vs,v=.tuple (Value.map (Y b)::vs).toArray/\z=Y (b,0)/\WB w b kvs/\AP w F ts vs|.mi last todo,v=>∃r b,v=.pointer (Y ⟨r,0,W⟩)/\z=Y (r,0)/\z2=Y (b,0)/\gY w r b last todo
def AL(a:Act)(w:World)(F:Nat->Nat->Prop)(G:BH)(O:AB)(s:Nat):EV->Value->Prop
 |.undef,_=>True|.sk,v=>v=undef|.tv t,v=>Af w F t v|.ow t,v=>Bm w F (G s W) t v|.bx cs,v=>∃b c θ,v=.pointer (Y ⟨b,0,W⟩)/\w.heap[b]?=Y (.cells c θ (0,0))/\c.size=cs.length/\G s W=Y (b,0)/\∀(i:Nat)(d:AR),cs[i]?=Y d->∃x,c[i]?=Y x/\A8 w F (x9 a G) (G s (Y i)) d x|.bp q off,v=>(∃cs,O.get q=.bx cs)->∃b,slot a q=.pointer (Y ⟨b,0,W⟩)/\v=.pointer (Y ⟨b,off,W⟩)|.tp ts,v=>∃vs,v=.tuple vs/\AP w F ts vs.toList|.xo n es,v=>∃xs,Jc w n v es.length xs (G s W)/\AP w F (es.flatMap TV.cells) xs/\(∀e∈es,e.cells.length=n)/\∀x∈xs,x.oneCell'=X|.yy cs,v=>∃vs,v=.agg vs/\vs.size=cs.length/\∀(i:Nat)(d:AR),cs[i]?=Y d->∃x,vs[i]?=Y x/\A8 w F (x9 a G) (G s (Y i)) d x|.la q i,v=>(∃p,O.x5 q i=Y p)->XV a w q i v|.lp q i c,v=>(∃p,O.x5 q i=Y p)->∃g len cap,XV a w q i (.slice (Y ⟨g,0,W⟩) len cap)/\v=.pointer (Y ⟨g,c,W⟩)|.xn es,v=>E4 w F (x9 a G) (G s W) es v|.x1 n fs,v=>∃g cap x,v=.slice (Y ⟨g,0,W⟩) 1 cap/\1<=cap/\w.cell? ⟨g,0,W⟩=Y x/\¬F g 0/\x.oneCell'=X/\Qb w F (G s W) n fs x|.nh q i k,v=>(∃es,O.nat q i=Y es)->NH a w q i k v|.mx m,v=>Uu w F (G s W) (G s (Y 0)) m v
def XT(w:World)(E:Nat->Nat->Prop):Prop:=Tp w/\∀b o,E b o->bl<=b
structure W0 extends World where
 E:Nat->Nat->Prop
theorem D7.own{w:World}{F:Nat->Nat->Prop}{z:Option (Nat×Nat)}(h:D7 w F ρ z t v)(f:t.zK=false):Bm w F z t v:=by
 cases t<;>first|exact h|(simp[TV.zK]at f)
structure Ga(F0:Nat->Nat->Prop)(w0:W0)(w:World):Prop where
 os:w.os=w0.os
 tape:w.tape=w0.tape
 output:w.output=w0.output
 size:w0.heap.size<=w.heap.size
 block:∀k,k<w0.heap.size->(∀o,¬w0.E k o)->w.heap[k]?=w0.heap[k]?
 cell:∀b o u,¬w0.E b o->w0.cell? ⟨b,o,W⟩=Y u->w.cell? ⟨b,o,W⟩=Y u
 free:∀b o o',w0.E b o->¬F0 b o'
 tab:XT w0.toWorld w0.E
theorem Ga.trans{F0:Nat->Nat->Prop}{w0:W0}{w w':World}(h:Ga F0 w0 w)(j:w'.os=w.os)(l:w'.tape=w.tape)(m:w'.output=w.output)(r:w.heap.size<=w'.heap.size)(x:∀k,k<w0.heap.size->(∀o,¬w0.E k o)->w'.heap[k]?=w.heap[k]?)(y:∀b o u,b<w0.heap.size->¬w0.E b o->w.cell? ⟨b,o,W⟩=Y u->w'.cell? ⟨b,o,W⟩=Y u):Ga F0 w0 w':=
 ⟨j.trans h.os,l.trans h.tape,m.trans h.output,u! h.size r,λb f he=>(x b f he).trans (h.block b f he),λb o u he g=>y b o u (World.block_lt_of_cell? _ ⟨b,o,W⟩ g) he (h.cell b o u he g),h.free,h.tab⟩
theorem Ga.now{F0:Nat->Nat->Prop}{w0:W0}{w:World}(h:Ga F0 w0 w):Tp w:=
 h.tab.1.fu λb f=>h.block b (u? f h.tab.1.lt) λo e=>absurd (h.tab.2 b o e) U
theorem Ga.but{F0:Nat->Nat->Prop}{w0:W0}{w w':World}(h:Ga F0 w0 w)(f:w'.os=w.os)(g:w'.tape=w.tape)(j:w'.output=w.output)(l:w.heap.size<=w'.heap.size){Z:Nat->Prop}(m:∀b,Z b->w0.heap.size<=b\/∀o,w0.E b o)(r:∀k,k<w0.heap.size->¬Z k->w'.heap[k]?=w.heap[k]?):Ga F0 w0 w':=
 h.trans f g j l (λk x he=>r k x λz=>(m k z).elim (λe=>U) (λe=>he 0 (e 0))) (λb o u y he A=>by
  grind [World.cell?_of_block])
theorem Ga.go{F0:Nat->Nat->Prop}{w0:W0}{w w':World}(h:Ga F0 w0 w)(k:Below w.heap.size w w'):Ga F0 w0 w':=
 h.trans k.os k.tape k.output k.size (λb f _=>k.block b (u? f h.size)) (λb o u f _ g=>by rw[k.cell (p:=⟨b,o,W⟩) (u? f h.size)];exact g)
structure AN(F0:Nat->Nat->Prop)(w0:W0)(O:AB)(a:Act)(w:World)(G:BH):Prop where
 og:∀s i s' i' b lo lo',G s i=Y (b,lo)->G s' i'=Y (b,lo')->s=s'/\i=i'
 lt:∀s i b lo,G s i=Y (b,lo)->b<w.heap.size/\(w0.heap.size<=b\/∀o,lo<=o->w0.E b o)
 below:Ga F0 w0 w
 defers:a.defers=[]
 dom:∀s,a.tmps.size<=s->O.get s=.undef
 slots:∀s,s<a.tmps.size->AL a w (AW w0.heap.size F0 G) G O s (O.get s) (slot a s)
 wf:∀s,(O.get s).WF
variable{s:Nat}{i:Option Nat}
theorem AN.low{F0:Nat->Nat->Prop}{w0:W0}{O:AB}{a:Act}{w:World}{G:BH}(h:AN F0 w0 O a w G){b lo:Nat}(e:G s i=Y (b,lo)):bl<=b:=
 (h.lt _ _ _ _ e).2.elim (λk=>u! h.below.tab.1.lt k) λk=>h.below.tab.2 b lo (k lo (b6 _))
def Bj(F0:Nat->Nat->Prop)(w0:W0)(O:AB)(a:Act)(w:World):Prop:=∃G,AN F0 w0 O a w G
theorem AB.d6(k:Nat)(e:EV)(O:AB)(n:Nat):AB.get ((k,e)::O) n=if k=n then e else O.get n:=rfl
theorem AB.get_map_keep(O:AB):∀(live:QQ)(n:Nat),AB.get (live.map λs=>(s,O.get s)) n=if n∈live then O.get n else .undef
 |[],n=>by simp[AB.get]|s::live,n=>by
  simp [AB.get,AB.get_map_keep O live n]
  grind
theorem AB.zw(O:AB)(live:QQ)(n:Nat):(O.fu live).get n=if n∈live then O.get n else .undef:=AB.get_map_keep O live n
variable{q:Nat}
theorem AB.y9{O env':AB}(h:env'.get q=O.get q):env'.x5 q i=O.x5 q i:=by
 cases i<;>simp[AB.x5,h]
theorem AB.zI{O:AB}(h:O.get q=.undef):O.x5 q i=W:=by
 cases i<;>simp[AB.x5,h]
variable{live:QQ}
theorem AB.xat_keep{O:AB}(h:∃p,(O.fu live).x5 q i=Y p):∃p,O.x5 q i=Y p:=by grind[AB.y9,AB.zw,AB.zI]
variable{n:Nat}
theorem AB.tn{O:AB}{q k:Nat}{es:Fq}(h:O.x5 q (Y k)=Y (n,es)):∃cs,O.get q=.bx cs/\cs[k]?=Y ⟨X,.xl n es⟩:=by grind[AB.x5,t5]
theorem AB.x8{O:AB}{es:Fq}(h:O.x5 q W=Y (n,es)):O.get q=.xo n es:=by grind[AB.x5,t5]
theorem AB.zk{O env':AB}{i:Nat}(h:env'.get q=O.get q):env'.nat q i=O.nat q i:=by
 simp [AB.nat,h]
theorem AB.nat_undef{O:AB}{i:Nat}(h:O.get q=.undef):O.nat q i=W:=by
 simp [AB.nat,h]
theorem AB.nat_keep{O:AB}{i:Nat}(h:∃p,(O.fu live).nat q i=Y p):∃p,O.nat q i=Y p:=by grind[AB.zk,AB.zw,AB.nat_undef]
theorem AB.wi{O:AB}{q k:Nat}{es:Fq}(h:O.nat q k=Y es):∃cs,O.get q=.bx cs/\cs[k]?=Y ⟨X,.xn es⟩:=by grind[AB.nat,t5]
variable{b o:Nat}
theorem AW.mono{base:Nat}{F0:Nat->Nat->Prop}{G j:BH}(h:∀s i b lo,j s i=Y (b,lo)->∃s' g f,G s' g=Y (b,f)/\f<=lo)(hf:AW base F0 j b o):AW base F0 G b o:=by
 rcases hf with hf|⟨s,i,lo,r,u⟩
 .exact .inl hf
 .obtain⟨s',g,f,l,m⟩:=h s i b lo r;exact .inr ⟨s',g,f,l,u! m u⟩
theorem Bj.fu{F0:Nat->Nat->Prop}{w0:W0}{O:AB}{a:Act}{w:World}(h:Bj F0 w0 O a w)(live:QQ):Bj F0 w0 (O.fu live) a w:=by
 obtain ⟨G,g⟩:=h;refine⟨G,g.og,g.lt,g.below,g.defers,λs l=>?_,λs l=>?_,λs=>?_⟩
 .rw[AB.zw,g.dom s l];split<;>rfl
 .have:=g.slots s l;rw[AB.zw];split
  .cases he:O.get s with
   |bp q r=>
    rw [he]at this;simp only[AL]at this|-;rintro⟨cs,f⟩;rw[AB.zw]at f;split at f
    .exact this ⟨cs,f⟩
    .cases f
   |undef=>trivial|sk=>rw[he]at this;exact this|tv t=>rw[he]at this;exact this|ow t=>rw[he]at this;exact this|bx cs=>rw[he]at this;exact this|tp u=>rw[he]at this;exact this|xo n es=>rw[he]at this;exact this|yy cs=>rw[he]at this;exact this|xn es=>rw[he]at this;exact this|x1 n x=>rw[he]at this;exact this|mx m=>rw[he]at this;exact this|nh q i k=>
    rw [he]at this;simp only[AL]at this|-;exact λj=>this (AB.nat_keep j)
   |la q i=>
    rw [he]at this;simp only[AL]at this|-;exact λj=>this (AB.xat_keep j)
   |lp q i c=>
    rw [he]at this;simp only[AL]at this|-;exact λj=>this (AB.xat_keep j)
  .trivial
 .rw[AB.zw];split
  .exact g.wf s
  .trivial
section own
variable{w w':World}{F F':Nat->Nat->Prop}{z:Option (Nat×Nat)}
variable{size:Nat}{v:Value}{n:Nat}
theorem Fd.kept{xs:List Value}(h:Fd w size v n xs z)(l:∀b lo,z=Y (b,lo)->w'.heap[b]?=w.heap[b]?):Fd w' size v n xs z:=by
 refine ⟨h.1,?_⟩;rcases h.2 with f|⟨g,cap,j,e,m,r,u,x,y,A,B⟩
 .exact .inl f
 grind
theorem Jc.kept{xs:List Value}(h:Jc w size v n xs z)(g:∀b lo,z=Y (b,lo)->w'.heap[b]?=w.heap[b]?):Jc w' size v n xs z:=by
 obtain ⟨l,m,f⟩:=h;exact⟨l,m.kept (λb lo j=>g b 0 (by rw[f,j];rfl)),f⟩
variable{t:TV}
theorem Bm.kept(f:BS w w' F F')(h:Bm w F z t v)(g:∀b lo,z=Y (b,lo)->w'.heap[b]?=w.heap[b]?):Bm w' F' z t v:=by
 cases t<;>simp[Bm]at h|-;obtain⟨xs,j,l,m⟩:=h;exact⟨xs,j.kept g,Aj f _ _ l,m⟩
theorem Qb.kept{es:Fq}(f:BS w w' F F')(h:Qb w F z n es v)(g:∀b lo,z=Y (b,lo)->w'.heap[b]?=w.heap[b]?):Qb w' F' z n es v:=by
 obtain ⟨xs,j,l,m⟩:=h;exact⟨xs,j.kept g,Aj f _ _ l,m⟩
def BA(w w':World)(ρ:Hn):Prop:=∀g j b lo,ρ g j=Y (b,lo)->w'.heap[b]?=w.heap[b]?
variable{ρ:Hn}
theorem BA.rfl'{w:World}:BA w w ρ:=λ_ _ _ _ _=>rfl
theorem E4.kept{es:Fq}(f:BS w w' F F')(h:E4 w F ρ z es v)(l:∀b lo,z=Y (b,lo)->w'.heap[b]?=w.heap[b]?)(m:BA w w' ρ):E4 w' F' ρ z es v:=by
 obtain ⟨xs,y,A,B⟩:=h;refine⟨xs,y.kept l,A,λj e r=>?_⟩;obtain⟨g,x,n,C,D,E,H,I⟩:=B j e r;exact⟨g,x,n,C,D,E,H,I.kept f (λb lo u=>m g j b lo u)⟩
def WD(w w':World)(ρ:Hn)(z:Option (Nat×Nat)):Prop:=∀g lo j b lo',z=Y (g,lo)->ρ g j=Y (b,lo')->w'.heap[b]?=w.heap[b]?
theorem BA.spot{w w':World}{z:Option (Nat×Nat)}(h:BA w w' ρ):WD w w' ρ z:=λg _ j b f _ l=>h g j b f l
theorem E4.AaB{es:Fq}(l:BS w w' F F')(h:E4 w F ρ z es v)(m:∀b lo,z=Y (b,lo)->w'.heap[b]?=w.heap[b]?)(r:WD w w' ρ z):E4 w' F' ρ z es v:=by
 obtain ⟨xs,A,B,C⟩:=h;refine⟨xs,A.kept m,B,λj e u=>?_⟩;obtain⟨g,x,n,D,f,E,H,I⟩:=C j e u;exact⟨g,x,n,D,f,E,H,I.kept l (λb lo y=>r g 0 j b lo f y)⟩
variable{ρ':Hn}
theorem E4.x9{es:Fq}(h:E4 w F ρ z es v)(m:∀g lo j,z=Y (g,lo)->ρ' g j=ρ g j):E4 w F ρ' z es v:=by
 obtain ⟨xs,f,l,u⟩:=h;refine⟨xs,f,l,λj e r=>?_⟩
 grind
variable{c:AR}
theorem A8.x9(h:A8 w F ρ z c v)(f:∀g lo j,z=Y (g,lo)->ρ' g j=ρ g j):A8 w F ρ' z c v:=by
 obtain ⟨_|_,t⟩:=c
 .exact h
 .cases t<;>first|exact h|exact E4.x9 h f
theorem D7.kept(f:BS w w' F F')(h:D7 w F ρ z t v)(g:∀b lo,z=Y (b,lo)->w'.heap[b]?=w.heap[b]?)(j:BA w w' ρ):D7 w' F' ρ z t v:=by
 cases t<;>simp[D7]at h|- <;>first|exact Bm.kept f h g|exact E4.kept f h g j|skip
 obtain ⟨xs,l,m,r⟩:=h;exact⟨xs,l.kept g,Aj f _ _ m,r⟩
theorem A8.kept(f:BS w w' F F')(h:A8 w F ρ z c v)(g:∀b lo,z=Y (b,lo)->w'.heap[b]?=w.heap[b]?)(j:BA w w' ρ):A8 w' F' ρ z c v:=by
 obtain ⟨_|_,t⟩:=c
 .exact⟨By f _ _ h.1,h.2⟩
 .exact D7.kept f h g j
theorem A8.AaB(f:BS w w' F F')(h:A8 w F ρ z c v)(g:∀b lo,z=Y (b,lo)->w'.heap[b]?=w.heap[b]?)(j:WD w w' ρ z):A8 w' F' ρ z c v:=by
 obtain ⟨_|_,t⟩:=c
 .exact⟨By f _ _ h.1,h.2⟩
 .replace h:D7 w F ρ z t v:=h;show D7 w' F' ρ z t v;cases t<;>simp[D7]at h|- <;>first|exact Bm.kept f h g|exact E4.AaB f h g j|skip
  obtain ⟨xs,l,m,r⟩:=h;exact⟨xs,l.kept g,Aj f _ _ m,r⟩
end own
variable{v:Value}
theorem Uu.kept{w w':World}{F F':Nat->Nat->Prop}{z z2:Option (Nat×Nat)}{m:MX}(B:BS w w' F F')(h:Uu w F z z2 m v)(l:∀b lo,z=Y (b,lo)->w'.heap[b]?=w.heap[b]?)(u:∀b lo,z2=Y (b,lo)->w'.heap[b]?=w.heap[b]?):Uu w' F' z z2 m v:=by
 cases m with
 |mp b y=>
  obtain ⟨j,f,g⟩:=h;exact⟨j,f,by unfold WB;rw[l _ _ f];exact g⟩
 |tm b y C=>
  obtain ⟨vs,j,f,g,x⟩:=h;exact⟨vs,j,f,by unfold WB;rw[l _ _ f];exact g,Aj B _ _ x⟩
 |mi last A=>
  obtain ⟨r,b,j,f,g,x⟩:=h;exact⟨r,b,j,f,g,by unfold gY;rw[l _ _ f,u _ _ g];exact x⟩
variable{s:Nat}{e:EV}
theorem AL.kept'{a a':Act}{w w':World}{F F':Nat->Nat->Prop}{G L:BH}{O env':AB}
  (r:BS w w' F F')(u:∀i,L s i=G s i)(y:∀i b lo,G s i=Y (b,lo)->w'.heap[b]?=w.heap[b]?)
  (M:∀i g lo j,G s i=Y (g,lo)->x9 a' L g j=x9 a G g j)(N:∀i,WD w w' (x9 a G) (G s i))
  (P:∀q i k,e=.nh q i k->(∃p,env'.nat q i=Y p)->(∃p,O.nat q i=Y p)/\∀v,NH a w q i k v->NH a' w' q i k v)
  (Q:∀q B,e=.bp q B->(∃cs,env'.get q=.bx cs)->(∃cs,O.get q=.bx cs)/\slot a' q=slot a q)
  (H:∀q i,(e=.la q i\/∃c,e=.lp q i c)->(∃p,env'.x5 q i=Y p)->(∃p,O.x5 q i=Y p)/\∀v,XV a w q i v->XV a' w' q i v)
  (h:AL a w F G O s e v):AL a' w' F' L env' s e v:=by
 cases e with
 |undef=>trivial|sk=>exact h|tv t=>exact By r t v h|ow t=>
  simp [AL]at h|-;rw[u];exact h.kept r (λb lo=>y _ b lo)
 |bx cs=>
  simp only[AL]at h|-;obtain⟨b,c,θ,f,A,D,K,J⟩:=h;refine⟨b,c,θ,f,by rw[y _ _ _ K];exact A,D,by rw[u];exact K,λi d hd=>?_⟩;obtain⟨x,R,l⟩:=J i d hd;exact⟨x,R,by rw[u];exact(l.AaB r (λb lo=>y _ b lo) (N _)).x9 (λg lo j I=>M _ g lo j I)⟩
 |bp q B=>
  simp only[AL]at h|-;intro C;obtain⟨l,E⟩:=Q q B rfl C;rw[E];exact h l
 |tp ε=>
  simp [AL]at h|-;obtain⟨vs,f,A⟩:=h;exact⟨vs,f,Aj r _ _ A⟩
 |xo n es=>
  simp [AL]at h|-;obtain⟨xs,f,A,D⟩:=h;rw[u];exact⟨xs,f.kept (λb lo=>y _ b lo),Aj r _ _ A,D⟩
 |yy cs=>
  simp [AL]at h|-;obtain⟨vs,f,D,J⟩:=h;refine⟨vs,f,D,λi d hd=>?_⟩;obtain⟨x,R,l⟩:=J i d hd;exact⟨x,R,by rw[u];exact(l.AaB r (λb lo=>y _ b lo) (N _)).x9 (λg lo j I=>M _ g lo j I)⟩
 |xn es=>
  simp [AL]at h|-;rw[u];exact(h.AaB r (λb lo=>y _ b lo) (N _)).x9 (λg lo j I=>M _ g lo j I)
 |x1 n κ=>
  simp only[AL]at h|-;obtain⟨g,cap,x,f,A,D,K,J,S⟩:=h;rw[u];have:=r g 0 x D K;exact⟨g,cap,x,f,A,this.1,this.2,J,S.kept r (λb lo=>y _ b lo)⟩
 |mx m=>
  simp [AL]at h|-;rw[u,u];exact h.kept r (λb lo=>y _ b lo) (λb lo=>y _ b lo)
 |nh q i k=>
  simp only[AL]at h|-;intro C;obtain⟨l,E⟩:=P q i k rfl C;exact E _ (h l)
 |la q i=>
  simp only[AL]at h|-;intro C;obtain⟨l,E⟩:=H q i (.inl rfl) C;exact E _ (h l)
 |lp q i c=>
  simp only[AL]at h|-;intro C;obtain⟨l,E⟩:=H q i (.inr ⟨c,rfl⟩) C;obtain⟨g,len,cap,f,A⟩:=h l;exact⟨g,len,cap,E _ f,A⟩
theorem AL.kept{a a':Act}{w w':World}{F F':Nat->Nat->Prop}{G f:BH}{O env':AB}
  (x:BS w w' F F')(y:∀i,f s i=G s i)(A:∀i b lo,G s i=Y (b,lo)->w'.heap[b]?=w.heap[b]?)
  (B:x9 a' f=x9 a G)(C:BA w w' (x9 a G))
  (l:∀q i k,e=.nh q i k->(∃p,env'.nat q i=Y p)->(∃p,O.nat q i=Y p)/\∀v,NH a w q i k v->NH a' w' q i k v)
  (m:∀q u,e=.bp q u->(∃cs,env'.get q=.bx cs)->(∃cs,O.get q=.bx cs)/\slot a' q=slot a q)
  (r:∀q i,(e=.la q i\/∃c,e=.lp q i c)->(∃p,env'.x5 q i=Y p)->(∃p,O.x5 q i=Y p)/\∀v,XV a w q i v->XV a' w' q i v)
  (h:AL a w F G O s e v):AL a' w' F' f env' s e v:=
 AL.kept' x y A (λ_ g _ j _=>by rw[B]) (λ_=>BA.spot C) l m r h
variable{q:Nat}{i:Option Nat}
theorem AN.xv{F0:Nat->Nat->Prop}{w0:W0}{O:AB}{a a':Act}{w w':World}{G:BH}(h:AN F0 w0 O a w G)(x:∃p,O.x5 q i=Y p)(m:slot a' q=slot a q)(y:∀b,G q W=Y (b,0)->w'.heap[b]?=w.heap[b]?):∀v,XV a w q i v->XV a' w' q i v:=by
 intro v hv;cases i with
 |none=>exact hv.trans m.symm|some k=>
  obtain ⟨⟨n,es⟩,A⟩:=x;obtain⟨cs,g,_⟩:=AB.tn A;obtain⟨b,c,θ,u,B,C⟩:=hv;have f:q<a.tmps.size:=by
   rcases v1 q a.tmps.size with l|l
   .exact l
   .rw[h.dom q l]at g;cases g
  have r:=h.slots q f;rw[g]at r;obtain⟨E,c',H,j,I,_,D,_⟩:=r;rw[u]at j;simp at j;subst j;exact⟨b,c,θ,by rw[m,u],by rw[y b D];exact B,C⟩
theorem NK.at.kept{w w':World}{x:Value}{k:NK}(h:k.at w x v)(u:∀g len cap,x=.slice (Y ⟨g,0,W⟩) len cap->w'.heap[g]?=w.heap[g]?):k.at w' x v:=by
 have m:∀g len cap,x=.slice (Y ⟨g,0,W⟩) len cap->∀j,w'.cell? ⟨g,j,W⟩=w.cell? ⟨g,j,W⟩:=λg len cap e j=>World.cell?_of_block (w:=w) (w':=w') (a:=⟨g,j,W⟩) (u g len cap e);cases k with
 |hd=>exact h|el j=>exact h|rw j=>obtain⟨g,len,cap,e,h⟩:=h;exact⟨g,len,cap,e,by rw[m _ _ _ e];exact h⟩
 |rp j p=>obtain⟨g,len,cap,e,r,f,l,h,y⟩:=h;exact⟨g,len,cap,e,r,f,l,by rw[m _ _ _ e];exact h,y⟩
theorem NH.kept{a a':Act}{w w':World}{q i:Nat}{k:NK}(h:NH a w q i k v)(m:slot a' q=slot a q)(r:∀b,slot a q=.pointer (Y ⟨b,0,W⟩)->w'.heap[b]?=w.heap[b]?)
  (u:∀b c θ g len cap,slot a q=.pointer (Y ⟨b,0,W⟩)->w.heap[b]?=Y (.cells c θ (0,0))->c[i]?=Y (.slice (Y ⟨g,0,W⟩) len cap)->w'.heap[g]?=w.heap[g]?):NH a' w' q i k v:=by
 obtain ⟨b,c,θ,x,f,j,l,y⟩:=h;exact⟨b,c,θ,x,by rw[m];exact f,by rw[r b f];exact j,l,y.kept λg len cap e=>u b c θ g len cap f j (by rw[l,e])⟩
variable{ρ:Hn}
theorem E4.nil_or{w:World}{F:Nat->Nat->Prop}{z:Option (Nat×Nat)}{es:Fq}{g len cap:Nat}(h:E4 w F ρ z es (.slice (Y ⟨g,0,W⟩) len cap)):z=Y (g,0):=by
 obtain ⟨xs,⟨m,j,r⟩,_⟩:=h;rcases j.2 with⟨e,_⟩|⟨u,f,l,e,x,_,_,_,_,_,y⟩
 .cases e
 grind
theorem AN.lts{F0:Nat->Nat->Prop}{w0:W0}{O:AB}{a:Act}{w:World}{G:BH}(h:AN F0 w0 O a w G)(g:O.get q≠.undef):q<a.tmps.size:=by
 rcases v1 q a.tmps.size with f|f
 .exact f
 .exact absurd (h.dom q f) g
theorem AN.nh{F0:Nat->Nat->Prop}{w0:W0}{O:AB}{a a':Act}{w w':World}{G:BH}(h:AN F0 w0 O a w G){q i:Nat}{k:NK}(y:∃p,O.nat q i=Y p)(A:slot a' q=slot a q)(B:∀j b,(j=W\/j=Y i)->G q j=Y (b,0)->w'.heap[b]?=w.heap[b]?):∀v,NH a w q i k v->NH a' w' q i k v:=by
 intro v hv;obtain⟨es,I⟩:=y;obtain⟨cs,r,J⟩:=AB.wi I;have m:=h.slots q (h.lts (by rw[r];simp));rw[r]at m;obtain⟨M,c',N,f,u,_,P,K⟩:=m;refine hv.kept A (λb C=>?_) (λb c θ g len cap D E H=>?_)
 .grind
 .rw[D]at f;simp at f;subst f;rw[E]at u;cases u;obtain⟨x,l,L⟩:=K i _ J;rw[H]at l;simp at l;subst l;exact B (Y i) g (.inr rfl) (E4.nil_or L)
theorem AN.AaQ{F0:Nat->Nat->Prop}{w0:W0}{O:AB}{a:Act}{w:World}{G:BH}(h:AN F0 w0 O a w G)(u:s<a.tmps.size){b lo g j l f:Nat}(m:G s i=Y (b,lo))(r:x9 a G g j=Y (l,f)):l≠b:=by
 rintro rfl;have:=(h.og _ _ _ _ _ _ _ m r).1;omega
theorem MW{a a':Act}{G f:BH}(g:a'.tmps.size=a.tmps.size)(h:∀s,a.tmps.size<=s->f s=G s):x9 a' f=x9 a G:=by grind[x9]
theorem CS(a:Act)(d:Nat)(v:Value)(h:d<a.tmps.size):slot (a.put (Y d) v) d=v:=by
 simp [slot,Act.put,Array.getD_eq_getD_getElem?,h]
theorem AY(a:Act)(d s:Nat)(v:Value)(h:d≠s):slot (a.put (Y d) v) s=slot a s:=by
 simp [slot,Act.put,Array.getD_eq_getD_getElem?,Array.getElem?_setIfInBounds,h]
theorem BU(a:Act)(d:Option Nat)(v:Value):(a.put d v).tmps.size=a.tmps.size:=by
 cases d<;>simp[Act.put]
theorem EU(a:Act)(d:Option Nat)(v:Value):(a.put d v).defers=a.defers:=by
 cases d<;>simp[Act.put]
def Qa(a:Act)(d:Nat)(a':Act):Prop:=∃v,a'=a.put (Y d) v
structure Kr(N:Nat)(p:Option (Nat×Value))(a:Act):Prop where
 size:a.tmps.size=N
 pin:∀i v,p=Y (i,v)->slot a i=v
variable{d:Nat}
theorem Kr.put{N:Nat}{p:Option (Nat×Value)}{a a':Act}(h:Kr N p a)(hd:∀i v,p=Y (i,v)->Y d≠Y i)(k:Qa a d a'):Kr N p a':=by
 obtain ⟨v,rfl⟩:=k;exact⟨by rw[BU];exact h.size,λi u f=>by rw[AY _ _ _ _ (λe=>hd i u f (by rw[e]))];exact h.pin i u f⟩
theorem P7(w:World)(F:Nat->Nat->Prop):BS w w F F:=λ_ _ _ f g=>⟨f,g⟩
variable{t:TV}
theorem AN.rem{F0:Nat->Nat->Prop}{w0:W0}{O env':AB}{a:Act}{w:World}{G:BH}(h:AN F0 w0 O a w G)(s:Nat)(A:s<a.tmps.size)(m:Af w (AW w0.heap.size F0 G) t (slot a s))(x:t.WF)
  (l:∀n,env'.get n=O.get n\/(n=s/\env'.get n=.tv t)):AN F0 w0 env' a w G:=by
 refine ⟨h.og,h.lt,h.below,h.defers,λq u=>?_,λq u=>?_,λq=>?_⟩
 .rcases l q with e|⟨rfl,_⟩
  .rw[e];exact h.dom q u
  .omega
 .rcases l q with e|⟨rfl,e⟩
  .rw[e];refine AL.kept (P7 _ _) (λ_=>rfl) (λ_ _ _ _=>rfl) rfl BA.rfl' (λr i k m⟨p,g⟩=>?_) (λr y m⟨cs,j⟩=>?_) (λr i m⟨p,g⟩=>?_) (h.slots q u)
   .rcases l r with f|⟨_,f⟩
    .rw[AB.zk f]at g;exact⟨⟨p,g⟩,λ_ hv=>hv⟩
    .simp only[AB.nat,f]at g;cases g
   .rcases l r with f|⟨_,f⟩
    .rw[f]at j;exact⟨⟨cs,j⟩,rfl⟩
    .rw[f]at j;cases j
   .rcases l r with f|⟨_,f⟩
    .rw[AB.y9 f]at g;exact⟨⟨p,g⟩,λ_ hv=>hv⟩
    .cases i<;>simp[AB.x5,f]at g<;>cases g
  .rw[e];exact m
 .rcases l q with e|⟨_,e⟩
  .rw[e];exact h.wf q
  .rw[e];exact x
end Go.Sf
namespace Go.Sf
open Go.RowKit (Below)
theorem AB.yn(d:Nat):∀(O:AB),O.jj d=X->∀s,(O.get s).yi≠Y d
 |[],_,s=>by simp[AB.get,EV.yi]|(k,e)::r,f,s=>by
  simp [AB.jj]at f;rw[AB.d6];split
  .grind[EV.y8]
  .exact AB.yn d r f.2 s
theorem AB.z7(d:Nat)(O:AB)(h:O.jj d=X)(s:Nat):(∀i,O.get s≠.la d i)/\∀i c,O.get s≠.lp d i c:=
 ⟨λi e=>AB.yn d O h s r?,λi c e=>AB.yn d O h s r?⟩
theorem AB.zX(d:Nat)(O:AB)(h:O.jj d=X)(s f:Nat):O.get s≠.bp d f:=
 λe=>AB.yn d O h s r?
variable{d:Nat}{e:EV}{i:Option Nat}{p:Nat×Fq}
theorem AB.zY{O:AB}(h:AB.x5 ((d,e)::O) d i=Y p):(∃cs,e=.bx cs)\/(∃n es,e=.xo n es):=by
 obtain ⟨n,es⟩:=p;cases i with
 |none=>have:=AB.x8 h;rw[AB.d6,ae rfl]at this;exact .inr ⟨n,es,this⟩|some k=>obtain⟨cs,f,_⟩:=AB.tn h;rw[AB.d6,ae rfl]at f;exact .inl ⟨cs,f⟩
variable{q:Nat}
theorem AB.x4{O:AB}(f:∀cs,e≠.bx cs)(g:∀n es,e≠.xo n es)(h:AB.x5 ((d,e)::O) q i=Y p):d≠q/\O.x5 q i=Y p:=by grind[AB.zY,AB.y9,AB.d6]
theorem AB.yx{O:AB}(h:d≠q):AB.x5 ((d,e)::O) q i=O.x5 q i:=by grind[AB.y9,AB.d6]
variable{s:Nat}{k:Option Nat}
theorem AB.noXs_iff:∀{O:AB}{z:QQ},AB.Aa0 s k z O=X↔∀p,p∉z->(O.get p).noC s k=X
 |[],z=>by simp[AB.Aa0,AB.get,EV.noC]|(q,e)::r,z=>by
  simp [AB.Aa0,yk,AB.noXs_iff (O:=r)]
  grind [AB.d6]
theorem AB.Aal{O:AB}:O.noX s k=X↔∀p,(O.get p).noC s k=X:=
 AB.noXs_iff.trans ⟨λh p=>h p V,λh p _=>h p⟩
theorem AB.noX_all{s k:Nat}{O:AB}(f:O.noX s W=X):O.noX s (Y k)=X:=by
 rw [AB.Aal]at f|-;intro p;have h:=f p;generalize O.get p=e at h|-;cases e<;>try rfl
 .rename_i q i;cases i with
  |none=>rfl|some i=>simp[EV.noC]at h;simp[EV.noC,h]
 .rename_i q i c;cases i with
  |none=>rfl|some i=>simp[EV.noC]at h;simp[EV.noC,h]
 next q i c=>simp[EV.noC]at h;simp[EV.noC,h]
theorem AB.noX_ref{O:AB}(f:O.jj s=X):O.noX s W=X:=by
 rw [AB.Aal];intro p;have h:=AB.yn s O f p;generalize O.get p=e at h|-;cases e<;>try rfl
 .rename_i q i;cases i with
  |none=>rfl|some i=>simp[EV.noC,bne_iff_ne];exact λe=>h r?
 .rename_i q i c;cases i with
  |none=>rfl|some i=>simp[EV.noC,bne_iff_ne];exact λe=>h r?
 next q i c=>simp[EV.noC,bne_iff_ne];exact λe=>h r?
theorem AB.noX_nh{O:AB}(f:O.noX s k=X)(p j:Nat)(g:k=W\/k=Y j)(c:NK):O.get p≠.nh s j c:=by grind[AB.Aal,EV.noC]
theorem AB.Aap(d:Nat)(O:AB)(h:O.jj d=X)(s:Nat):∀i c,O.get s≠.nh d i c:=
 λi c e=>AB.yn d O h s r?
theorem AB.zF{O:AB}{d i:Nat}{p:Fq}(h:AB.nat ((d,e)::O) d i=Y p):∃cs,e=.bx cs:=by grind[AB.wi,AB.d6]
theorem AB.ym{O:AB}{d q i:Nat}{p:Fq}(f:∀cs,e≠.bx cs)(h:AB.nat ((d,e)::O) q i=Y p):d≠q/\O.nat q i=Y p:=by grind[AB.zF,AB.zk,AB.d6]
theorem AB.y4{O:AB}{d q i:Nat}(h:d≠q):AB.nat ((d,e)::O) q i=O.nat q i:=by grind[AB.zk,AB.d6]
theorem AB.noX_spec{O:AB}(f:O.noX s k=X)(p j:Nat)(g:k=W\/k=Y j):O.get p≠.la s (Y j)/\∀c,O.get p≠.lp s (Y j) c:=by grind[AB.Aal,EV.noC]
def JU(G:BH)(d:Nat)(zd:Option Nat->Option (Nat×Nat)):BH:=λs=>if s=d then zd else G s
theorem Bt(G:BH)(d:Nat)(f:Option Nat->Option (Nat×Nat)):JU G d f d=f:=by simp[JU]
theorem BC(G:BH)(d s:Nat)(f:Option Nat->Option (Nat×Nat))(h:s≠d):JU G d f s=G s:=by simp[JU,h]
section
variable{F0:Nat->Nat->Prop}{w0:W0}{O:AB}{a:Act}{w:World}{G:BH}
theorem KH{w':World}(u:Below w.heap.size w w')(d:Nat)(l:Option Nat->Option (Nat×Nat))(x:∀i b lo,l i=Y (b,lo)->w.heap.size<=b):
  BS w w' (AW w0.heap.size F0 G) (AW w0.heap.size F0 (JU G d l)):=by
 intro b o v m hf;have j:b<w.heap.size:=World.block_lt_of_cell? w ⟨b,o,W⟩ m;refine⟨by rw[u.cell (p:=⟨b,o,W⟩) j];exact m,λg=>hf ?_⟩;rcases g with h|⟨s,i,lo,f,y⟩
 .exact .inl h
 .by_cases r:s=d
  .subst r;rw[Bt]at f;have:=x i b lo f;omega
  .rw[BC _ _ _ _ r]at f;exact .inr ⟨s,i,lo,f,y⟩
theorem AN.Aad{w':World}(h:AN F0 w0 O a w G)(f:Below w.heap.size w w'):BA w w' (x9 a G):=by
 intro g j b lo l;exact f.block b (h.lt _ _ _ _ l).1
theorem AN.quiet{w':World}(h:AN F0 w0 O a w G)(C:Below w.heap.size w w')(d:Nat)(hd:d<a.tmps.size)(e:EV)(v:Value)
  (D:Option Nat->Option (Nat×Nat))(K:∀i b lo,D i=Y (b,lo)->w.heap.size<=b/\b<w'.heap.size)(L:∀i H b lo l,D i=Y (b,lo)->D H=Y (b,l)->i=H)
  (E:(∃cs,e=.bx cs)\/(∃n es,e=.xo n es)->O.jj d=X)
  (J:AL (a.put (Y d) v) w' (AW w0.heap.size F0 (JU G d D)) (JU G d D) ((d,e)::O) d e v)(M:e.WF):
  AN F0 w0 ((d,e)::O) (a.put (Y d) v) w' (JU G d D):=by
 have P:=KH (F0:=F0) (w0:=w0) (G:=G) C d D (λi b lo h=>(K i b lo h).1);refine⟨?_,?_,h.below.go C,g_,?_,?_,?_⟩
 .intro s i s' H b lo l m B;by_cases g:s=d<;>by_cases y:s'=d
  .subst g;subst y;rw[Bt]at m B;exact⟨rfl,L i H b lo l m B⟩
  .subst g;rw[Bt]at m;rw[BC _ _ _ _ y]at B;have:=(K i b lo m).1;have:=(h.lt s' H b l B).1;omega
  .subst y;rw[Bt]at B;rw[BC _ _ _ _ g]at m;have:=(K H b l B).1;have:=(h.lt s i b lo m).1;omega
  .rw[BC _ _ _ _ g]at m;rw[BC _ _ _ _ y]at B;exact h.og s i s' H b lo l m B
 .intro s i b lo m;by_cases g:s=d
  .subst g;rw[Bt]at m;have:=K i b lo m;exact⟨this.2,.inl (u! h.below.size this.1)⟩
  .rw[BC _ _ _ _ g]at m;have:=h.lt s i b lo m;exact⟨u? this.1 C.size,this.2⟩
 .intro s g;rw[BU]at g;rw[AB.d6,az U];exact h.dom s g
 .intro s g;rw[BU]at g;rw[AB.d6];by_cases A:d=s
  .subst A;rw[ae rfl,CS _ _ _ hd];exact J
  .rw[az A,AY _ _ _ _ A];refine AL.kept P (λi=>by rw[BC _ _ _ _ (λe=>A e.symm)]) (λi b lo R=>C.block b (h.lt s i b lo R).1) (MW (BU _ _ _) (λs g=>BC _ _ _ _ U)) (h.Aad C) (λq i k u⟨p,x⟩=>?_) (λq N u⟨cs,r⟩=>?_) (λq i u⟨p,x⟩=>?_) (h.slots s g)
   .by_cases f:d=q
    .subst f;exact absurd u (AB.Aap d O (E (.inl (AB.zF x))) s i k)
    .rw[AB.y4 f]at x;exact⟨⟨p,x⟩,h.nh ⟨p,x⟩ (AY _ _ _ _ f) (λj b _ I=>C.block b (h.lt _ _ _ _ I).1)⟩
   .rw[AB.d6]at r;by_cases f:d=q
    .subst f;rw[ae rfl]at r;exact absurd u (AB.zX d O (E (.inl ⟨cs,r⟩)) s N)
    .rw[az f]at r;exact⟨⟨cs,r⟩,AY _ _ _ _ f⟩
   .by_cases f:d=q
    .subst f;have Q:=AB.z7 d O (E (AB.zY x)) s;rcases u with u|⟨c,u⟩
     .exact absurd u (Q.1 i)
     .exact absurd u (Q.2 i c)
    .rw[AB.yx f]at x;exact⟨⟨p,x⟩,h.xv ⟨p,x⟩ (AY _ _ _ _ f) (λb I=>C.block b (h.lt _ _ _ _ I).1)⟩
 .intro s;rw[AB.d6];split
  .exact M
  .exact h.wf s
theorem AN.tv{w':World}(h:AN F0 w0 O a w G)(j:Below w.heap.size w w')(d:Nat)(hd:d<a.tmps.size)(t:TV)(v:Value)
  (f:Af w' (AW w0.heap.size F0 (JU G d λ_=>W)) t v)(g:t.WF):
  Bj F0 w0 ((d,.tv t)::O) (a.put (Y d) v) w':=
 ⟨_,h.quiet j d hd (.tv t) v (λ_=>W) V V V f g⟩
theorem AN.tv_same(h:AN F0 w0 O a w G)(d:Nat)(hd:d<a.tmps.size)(t:TV)(v:Value)
  (f:Af w (AW w0.heap.size F0 G) t v)(g:t.WF):
  Bj F0 w0 ((d,.tv t)::O) (a.put (Y d) v) w:=
 h.tv (Below.refl _ _) d hd t v (By (KH (Below.refl _ _) d _ V) t v f) g
theorem AN.ow{w':World}(h:AN F0 w0 O a w G)(m:Below w.heap.size w w')(d:Nat)(hd:d<a.tmps.size)(t:TV)(v:Value)(z:Option (Nat×Nat))
  (r:∀b lo,z=Y (b,lo)->w.heap.size<=b/\b<w'.heap.size)
  (f:Bm w' (AW w0.heap.size F0 (JU G d λi=>if i=W then z else W)) z t v)(g:t.WF):
  Bj F0 w0 ((d,.ow t)::O) (a.put (Y d) v) w':=by
 refine ⟨_,h.quiet m d hd (.ow t) v (λi=>if i=W then z else W) (λi b lo hi=>?_) (λi x b lo u j l=>?_) V ?_ g⟩
 .split at hi
  .exact r b lo hi
  .cases hi
 .split at j
  .split at l
   .simp_all
   .cases l
  .cases j
 .simp[AL,Bt];exact f
end
section reads
variable{w:World}{F:Nat->Nat->Prop}
theorem VT(n:Nat):∀(es:Fq)(b o:Nat),(∀e∈es,e.cells.length=n)->C0 w F (es.flatMap TV.cells) b o->H4 w F n es b o
 |[],_,_,_,_=>trivial|e::es,b,o,f,h=>by
  rw [QK];have he:e.cells.length=n:=f e V;rw[List.flatMap_cons]at h;refine⟨by have:=cU h e.cells.length;simpa using this,he,VT n es b (o+n) (λx g=>f x n!) ?_⟩;have:=PG h e.cells.length
  grind
theorem O2(n:Nat):∀(es:Fq),(∀e∈es,e.cells.length=n)->(es.flatMap TV.cells).length=es.length*n
 |[],_=>by simp|e::es,f=>by
  rw [List.flatMap_cons,bk,O2 n es (λx g=>f x n!),f e V,c7,Nat.add_mul,Nat.one_mul,Nat.add_comm]
variable{b o:Nat}
theorem RN{f:Fq}{xs:List Value}(h:AP w F f xs)(j:∀x∈xs,x.oneCell'=X)(l:∀(i:Nat)(x:Value),xs[i]?=Y x->w.cell? ⟨b,o+i,W⟩=Y x/\¬F b (o+i)):C0 w F f b o:=by
 rw [IS];rw[BQ]at h;intro i t hi;have g:i<f.length:=by
  grind
 have m:xs[i]?=Y xs[i]:=List.getElem?_eq_getElem U
 grind
variable{size:Nat}{v:Value}{n:Nat}
theorem Fd.cell{xs:List Value}{z:Option (Nat×Nat)}{g cap:Nat}(h:Fd w size v n xs z)(hv:v=.slice (Y ⟨g,0,W⟩) n cap):∀(j:Nat)(u:Value),xs[j]?=Y u->w.cell? ⟨g,j,W⟩=Y u:=by
 intro j u y;rcases h.2 with⟨rfl,_⟩|⟨r,m,f,e,rfl,x,_,_,_,l,_⟩
 .cases hv
 .simp only[Value.slice.injEq,t5,Addr.mk.injEq]at hv;obtain⟨⟨rfl,_⟩,_⟩:=hv;rw[cell_of_row w r j f e (0,0) x]
  grind
variable{t:TV}
theorem Bm.rep{z:Option (Nat×Nat)}(h:Bm w F z t v)(u:∀b lo o,z=Y (b,lo)->o<lo->¬F b o):Af w F t v:=by
 cases t<;>simp[Bm]at h;rename_i n es;obtain⟨xs,m,A,B,C⟩:=h;simp[Af];rcases m.2 with⟨rfl,J,r⟩|⟨g,cap,D,e,rfl,K,j,E,H,l,r⟩
 .grind
 .refine⟨Y ⟨g,0,W⟩,cap,rfl,j,V,λI f=>?_⟩;simp at f;subst f;refine⟨.inr rfl,VT n es g 0 B (RN A C λi x y=>?_)⟩;rw[Nat.zero_add];refine⟨m.cell rfl i x y,u g _ i r ?_⟩
  grind
variable{ρ:Hn}
theorem D7.rep{z:Option (Nat×Nat)}(h:D7 w F ρ z t v)(f:∀b lo o,z=Y (b,lo)->o<lo->¬F b o):Af w F t v:=by
 cases t<;>first|exact Bm.rep h f|skip
 all_goals
  obtain ⟨xs,⟨m,j,_⟩,_⟩:=h;simp[Af];rcases j.2 with⟨rfl,_⟩|⟨g,cap,l,e,rfl,_⟩<;>rfl
end reads
end Go.Sf
