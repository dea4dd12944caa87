/- The invariant between an environment of the pure language and a frame with memory. -/
import Derived.Test.YtagcclhejecceaaGreatSfSem
import Derived.Laws.AppendOwn
set_option linter.all false
namespace Go.Sf
open Go.RowKit (Below)
def FW(w:World)(size:Nat)(v:Value)(n:Nat)(xs:List Value)(z:Option (Nat×Nat)):Prop:=
 xs.length=n*size/\
 ((v=.slice none 0 0/\n=0/\z=none)\/
 ∃g cap cur e,v=.slice (some ⟨g,0,none⟩) n cap/\w.heap[g]?=some (.cells cur e (0,0))/\n<=cap/\cap<=maxLen/\cur.size=cap*size/\cur.toList.take (n*size)=xs/\z=some (g,n*size))
def I6(w:World)(size:Nat)(v:Value)(n:Nat)(xs:List Value)(z:Option (Nat×Nat)):Prop:=
 ∃z0,FW w size v n xs z0/\z=z0.map fun p=>(p.1,0)
def Bi(w:World)(F:Nat->Nat->Prop)(z:Option (Nat×Nat)):TV->Value->Prop
 |.list n es,v=>∃xs,FW w n v es.length xs z/\AQ w F (es.flatMap TV.cells) xs/\(∀e∈es,e.cells.length=n)/\∀x∈xs,x.oneCell'=true|_,_=>False
abbrev G6:=Nat->Nat->Option (Nat×Nat)
def PW(w:World)(F:Nat->Nat->Prop)(z:Option (Nat×Nat))(n:Nat)(es:Fq)(v:Value):Prop:=
 ∃xs,I6 w n v es.length xs z/\AQ w F (es.flatMap TV.cells) xs/\(∀e∈es,e.cells.length=n)/\∀x∈xs,x.oneCell'=true
def E1(w:World)(F:Nat->Nat->Prop)(ρ:G6)(z:Option (Nat×Nat))(es:Fq)(v:Value):Prop:=
 ∃xs,I6 w 1 v es.length xs z/\(∀x∈xs,x.oneCell'=true)/\∀(j:Nat)(e:TV),es[j]?=some e->∃g x n fs,z=some (g,0)/\xs[j]?=some x/\e=.list n fs/\PW w F (ρ g j) n fs x
def D0(w:World)(F:Nat->Nat->Prop)(ρ:G6)(z:Option (Nat×Nat)):TV->Value->Prop
 |.xl n es,v=>∃xs,I6 w n v es.length xs z/\AQ w F (es.flatMap TV.cells) xs/\(∀e∈es,e.cells.length=n)/\∀x∈xs,x.oneCell'=true|.xn es,v=>E1 w F ρ z es v|t,v=>Bi w F z t v
variable{ρ:G6}{t:TV}{v:Value}
theorem Bi.c{w:World}{F:Nat->Nat->Prop}{z:Option (Nat×Nat)}(h:Bi w F z t v):D0 w F ρ z t v:=by
 cases t<;>first|exact h|(simp[Bi]at h)
def BA(w:World)(F:Nat->Nat->Prop)(ρ:G6)(z:Option (Nat×Nat))(c:AN)(v:Value):Prop:=
 match c with
 |⟨true,t⟩=>D0 w F ρ z t v|⟨false,t⟩=>Ah w F t v/\v.oneCell'=true
abbrev BP:=Nat->Option Nat->Option (Nat×Nat)
def wk(a:Act)(G:BP):G6:=fun g j=>G (a.tmps.size+g) (some j)
def AS(base:Nat)(F0:Nat->Nat->Prop)(G:BP)(b o:Nat):Prop:=(b<base/\F0 b o)\/∃s i lo,G s i=some (b,lo)/\lo<=o
def slot(a:Act)(s:Nat):Value:=a.tmps.getD s undef
def XV(a:Act)(w:World)(q:Nat)(i:Option Nat)(v:Value):Prop:=
 match i with
 |none=>v=slot a q|some k=>∃b c T,slot a q=.pointer (some ⟨b,0,none⟩)/\w.heap[b]?=some (.cells c T (0,0))/\c[k]?=some v
def NK.at(w:World)(x:Value):NK->Value->Prop
 |.hd,v=>v=x|.el j,v=>∃g len cap,x=.slice (some ⟨g,0,none⟩) len cap/\v=.pointer (some ⟨g,j,none⟩)|.rw j,v=>∃g len cap,x=.slice (some ⟨g,0,none⟩) len cap/\w.cell? ⟨g,j,none⟩=some v|.rp j p,v=>∃g len cap,x=.slice (some ⟨g,0,none⟩) len cap/\∃r len' cap',w.cell? ⟨g,j,none⟩=some (.slice (some ⟨r,0,none⟩) len' cap')/\v=.pointer (some ⟨r,p,none⟩)
def NH(a:Act)(w:World)(q i:Nat)(k:NK)(v:Value):Prop:=
 ∃b c T x,slot a q=.pointer (some ⟨b,0,none⟩)/\w.heap[b]?=some (.cells c T (0,0))/\c[i]?=some x/\k.at w x v
def EQ(k:Int×Int):Value:=.agg #[.int .i64 k.1,.int .i64 k.2]
def Vc(w:World)(b:Nat)(kvs:BT):Prop:=
 ∃es clock,w.heap[b]?=some (.map es clock)/\es.toList.map (fun e=>(e.key,e.val))=kvs.map (fun p=>(EQ p.1,Value.int .i64 p.2))/\es.toList.Pairwise (fun x y=>x.born<y.born)/\∀e∈es.toList,e.born<clock
def eV(w:World)(r b:Nat)(last:Option ((Int×Int)×Int))(todo:BT):Prop:=
 ∃(es:Array MapEntry)(clock since c0:Nat)(seen:Array Nat),w.heap[b]?=some (.map es clock)/\w.heap[r]?=some (.mapIter (some b) since seen c0)/\es.toList.Pairwise (fun x y=>x.born<y.born)/\(∀e∈es.toList,e.born<since)/\since<=c0/\since<=clock/\
  (∀p,last=some p->∃(seen':Array Nat)(e:MapEntry),seen=seen'.push e.born/\e∈es.toList/\c0=clock/\e.key=EQ p.1/\e.val=.int .i64 p.2)/\
  ((es.toList.filter fun e=>!seen.contains e.born).map (fun e=>(e.key,e.val))).Perm (todo.map (fun p=>(EQ p.1,Value.int .i64 p.2)))
def T9(w:World)(F:Nat->Nat->Prop)(z z2:Option (Nat×Nat)):MX->Value->Prop
 |.mp b kvs,v=>v=.map (some b)/\z=some (b,0)/\Vc w b kvs|.tm b kvs ts,v=>∃vs,v=.tuple (Value.map (some b)::vs).toArray/\z=some (b,0)/\Vc w b kvs/\AQ w F ts vs|.mi last todo,v=>∃r b,v=.pointer (some ⟨r,0,none⟩)/\z=some (r,0)/\z2=some (b,0)/\eV w r b last todo
def AK(a:Act)(w:World)(F:Nat->Nat->Prop)(G:BP)(U:AB)(s:Nat):EV->Value->Prop
 |.undef,_=>True|.sk,v=>v=undef|.tv t,v=>Ah w F t v|.ow t,v=>Bi w F (G s none) t v|.bx cs,v=>∃b c T,v=.pointer (some ⟨b,0,none⟩)/\w.heap[b]?=some (.cells c T (0,0))/\c.size=cs.length/\G s none=some (b,0)/\∀(i:Nat)(d:AN),cs[i]?=some d->∃x,c[i]?=some x/\BA w F (wk a G) (G s (some i)) d x|.bp q off,v=>(∃cs,U.get q=.bx cs)->∃b,slot a q=.pointer (some ⟨b,0,none⟩)/\v=.pointer (some ⟨b,off,none⟩)|.tp ts,v=>∃vs,v=.tuple vs/\AQ w F ts vs.toList|.xo n es,v=>∃xs,I6 w n v es.length xs (G s none)/\AQ w F (es.flatMap TV.cells) xs/\(∀e∈es,e.cells.length=n)/\∀x∈xs,x.oneCell'=true|.wQ cs,v=>∃vs,v=.agg vs/\vs.size=cs.length/\∀(i:Nat)(d:AN),cs[i]?=some d->∃x,vs[i]?=some x/\BA w F (wk a G) (G s (some i)) d x|.la q i,v=>(∃p,U.tl q i=some p)->XV a w q i v|.lp q i c,v=>(∃p,U.tl q i=some p)->∃g len cap,XV a w q i (.slice (some ⟨g,0,none⟩) len cap)/\v=.pointer (some ⟨g,c,none⟩)|.xn es,v=>E1 w F (wk a G) (G s none) es v|.x1 n fs,v=>∃g cap x,v=.slice (some ⟨g,0,none⟩) 1 cap/\1<=cap/\w.cell? ⟨g,0,none⟩=some x/\¬F g 0/\x.oneCell'=true/\PW w F (G s none) n fs x|.nh q i k,v=>(∃es,U.nat q i=some es)->NH a w q i k v|.mx m,v=>T9 w F (G s none) (G s (some 0)) m v
def Wg(w:World)(E:Nat->Nat->Prop):Prop:=Rv w/\∀b o,E b o->aI<=b
structure W0 extends World where
 E:Nat->Nat->Prop
theorem D0.own{w:World}{F:Nat->Nat->Prop}{z:Option (Nat×Nat)}(h:D0 w F ρ z t v)(f:t.xh=false):Bi w F z t v:=by
 cases t<;>first|exact h|(simp[TV.xh]at f)
structure GZ(F0:Nat->Nat->Prop)(w0:W0)(w:World):Prop where
 os:w.os=w0.os
 tape:w.tape=w0.tape
 output:w.output=w0.output
 size:w0.heap.size<=w.heap.size
 block:∀k,k<w0.heap.size->(∀o,¬w0.E k o)->w.heap[k]?=w0.heap[k]?
 cell:∀b o u,¬w0.E b o->w0.cell? ⟨b,o,none⟩=some u->w.cell? ⟨b,o,none⟩=some u
 free:∀b o o',w0.E b o->¬F0 b o'
 tab:Wg w0.toWorld w0.E
theorem GZ.trans{F0:Nat->Nat->Prop}{w0:W0}{w w':World}(h:GZ F0 w0 w)(j:w'.os=w.os)(l:w'.tape=w.tape)(m:w'.output=w.output)(r:w.heap.size<=w'.heap.size)(x:∀k,k<w0.heap.size->(∀o,¬w0.E k o)->w'.heap[k]?=w.heap[k]?)(y:∀b o u,b<w0.heap.size->¬w0.E b o->w.cell? ⟨b,o,none⟩=some u->w'.cell? ⟨b,o,none⟩=some u):GZ F0 w0 w':=
 ⟨j.trans h.os,l.trans h.tape,m.trans h.output,Nat.le_trans h.size r,fun b f he=>(x b f he).trans (h.block b f he),fun b o u he g=>y b o u (World.block_lt_of_cell? _ ⟨b,o,none⟩ g) he (h.cell b o u he g),h.free,h.tab⟩
theorem GZ.now{F0:Nat->Nat->Prop}{w0:W0}{w:World}(h:GZ F0 w0 w):Rv w:=
 h.tab.1.ff fun b f=>h.block b (Nat.lt_of_lt_of_le f h.tab.1.lt) fun o e=>absurd (h.tab.2 b o e) (by omega)
theorem GZ.but{F0:Nat->Nat->Prop}{w0:W0}{w w':World}(h:GZ F0 w0 w)(f:w'.os=w.os)(g:w'.tape=w.tape)(j:w'.output=w.output)(l:w.heap.size<=w'.heap.size){Z:Nat->Prop}(m:∀b,Z b->w0.heap.size<=b\/∀o,w0.E b o)(r:∀k,k<w0.heap.size->¬Z k->w'.heap[k]?=w.heap[k]?):GZ F0 w0 w':=
 h.trans f g j l (fun k x he=>r k x fun z=>(m k z).elim (fun e=>by omega) (fun e=>he 0 (e 0))) (fun b o u y he A=>by
  grind [World.cell?_of_block])
theorem GZ.go{F0:Nat->Nat->Prop}{w0:W0}{w w':World}(h:GZ F0 w0 w)(k:Below w.heap.size w w'):GZ F0 w0 w':=
 h.trans k.os k.tape k.output k.size (fun b f _=>k.block b (Nat.lt_of_lt_of_le f h.size)) (fun b o u f _ g=>by rw[k.cell (p:=⟨b,o,none⟩) (Nat.lt_of_lt_of_le f h.size)];exact g)
structure AO(F0:Nat->Nat->Prop)(w0:W0)(U:AB)(a:Act)(w:World)(G:BP):Prop where
 ne:∀s i s' i' b lo lo',G s i=some (b,lo)->G s' i'=some (b,lo')->s=s'/\i=i'
 lt:∀s i b lo,G s i=some (b,lo)->b<w.heap.size/\(w0.heap.size<=b\/∀o,lo<=o->w0.E b o)
 below:GZ F0 w0 w
 defers:a.defers=[]
 dom:∀s,a.tmps.size<=s->U.get s=.undef
 slots:∀s,s<a.tmps.size->AK a w (AS w0.heap.size F0 G) G U s (U.get s) (slot a s)
 wf:∀s,(U.get s).WF
variable{s:Nat}{i:Option Nat}
theorem AO.low{F0:Nat->Nat->Prop}{w0:W0}{U:AB}{a:Act}{w:World}{G:BP}(h:AO F0 w0 U a w G){b lo:Nat}(e:G s i=some (b,lo)):aI<=b:=
 (h.lt _ _ _ _ e).2.elim (fun k=>Nat.le_trans h.below.tab.1.lt k) fun k=>h.below.tab.2 b lo (k lo (az _))
def Bm(F0:Nat->Nat->Prop)(w0:W0)(U:AB)(a:Act)(w:World):Prop:=∃G,AO F0 w0 U a w G
theorem AB.d4(k:Nat)(e:EV)(U:AB)(n:Nat):AB.get ((k,e)::U) n=if k=n then e else U.get n:=rfl
theorem AB.get_map_keep(U:AB):∀(live:Ne)(n:Nat),AB.get (live.map fun s=>(s,U.get s)) n=if n∈live then U.get n else .undef
 |[],n=>by simp[AB.get]|s::live,n=>by
  simp [AB.get,AB.get_map_keep U live n]
  grind
theorem AB.xd(U:AB)(live:Ne)(n:Nat):(U.ff live).get n=if n∈live then U.get n else .undef:=AB.get_map_keep U live n
variable{q:Nat}
theorem AB.wR{U env':AB}(h:env'.get q=U.get q):env'.tl q i=U.tl q i:=by
 cases i<;>simp[AB.tl,h]
theorem AB.xA{U:AB}(h:U.get q=.undef):U.tl q i=none:=by
 cases i<;>simp[AB.tl,h]
variable{live:Ne}
theorem AB.xat_keep{U:AB}(h:∃p,(U.ff live).tl q i=some p):∃p,U.tl q i=some p:=by grind[AB.wR,AB.xd,AB.xA]
variable{n:Nat}
theorem AB.wa{U:AB}{q k:Nat}{es:Fq}(h:U.tl q (some k)=some (n,es)):∃cs,U.get q=.bx cs/\cs[k]?=some ⟨true,.xl n es⟩:=by grind[AB.tl,tg]
theorem AB.wj{U:AB}{es:Fq}(h:U.tl q none=some (n,es)):U.get q=.xo n es:=by grind[AB.tl,tg]
theorem AB.w7{U env':AB}{i:Nat}(h:env'.get q=U.get q):env'.nat q i=U.nat q i:=by
 simp [AB.nat,h]
theorem AB.nat_undef{U:AB}{i:Nat}(h:U.get q=.undef):U.nat q i=none:=by
 simp [AB.nat,h]
theorem AB.nat_keep{U:AB}{i:Nat}(h:∃p,(U.ff live).nat q i=some p):∃p,U.nat q i=some p:=by grind[AB.w7,AB.xd,AB.nat_undef]
theorem AB.wd{U:AB}{q k:Nat}{es:Fq}(h:U.nat q k=some es):∃cs,U.get q=.bx cs/\cs[k]?=some ⟨true,.xn es⟩:=by grind[AB.nat,tg]
variable{b o:Nat}
theorem AS.mono{base:Nat}{F0:Nat->Nat->Prop}{G j:BP}(h:∀s i b lo,j s i=some (b,lo)->∃s' g f,G s' g=some (b,f)/\f<=lo)(hf:AS base F0 j b o):AS base F0 G b o:=by
 rcases hf with hf|⟨s,i,lo,r,u⟩
 .exact .inl hf
 .obtain⟨s',g,f,l,m⟩:=h s i b lo r;exact .inr ⟨s',g,f,l,Nat.le_trans m u⟩
theorem Bm.ff{F0:Nat->Nat->Prop}{w0:W0}{U:AB}{a:Act}{w:World}(h:Bm F0 w0 U a w)(live:Ne):Bm F0 w0 (U.ff live) a w:=by
 obtain ⟨G,g⟩:=h;refine⟨G,g.ne,g.lt,g.below,g.defers,fun s l=>?_,fun s l=>?_,fun s=>?_⟩
 .rw[AB.xd,g.dom s l];split<;>rfl
 .have:=g.slots s l;rw[AB.xd];split
  .cases he:U.get s with
   |bp q r=>
    rw [he]at this;simp only[AK]at this|-;rintro⟨cs,f⟩;rw[AB.xd]at f;split at f
    .exact this ⟨cs,f⟩
    .cases f
   |undef=>trivial|sk=>rw[he]at this;exact this|tv t=>rw[he]at this;exact this|ow t=>rw[he]at this;exact this|bx cs=>rw[he]at this;exact this|tp u=>rw[he]at this;exact this|xo n es=>rw[he]at this;exact this|wQ cs=>rw[he]at this;exact this|xn es=>rw[he]at this;exact this|x1 n x=>rw[he]at this;exact this|mx m=>rw[he]at this;exact this|nh q i k=>
    rw [he]at this;simp only[AK]at this|-;exact fun j=>this (AB.nat_keep j)
   |la q i=>
    rw [he]at this;simp only[AK]at this|-;exact fun j=>this (AB.xat_keep j)
   |lp q i c=>
    rw [he]at this;simp only[AK]at this|-;exact fun j=>this (AB.xat_keep j)
  .trivial
 .rw[AB.xd];split
  .exact g.wf s
  .trivial
section own
variable{w w':World}{F F':Nat->Nat->Prop}{z:Option (Nat×Nat)}
variable{size:Nat}{v:Value}{n:Nat}
theorem FW.kept{xs:List Value}(h:FW w size v n xs z)(l:∀b lo,z=some (b,lo)->w'.heap[b]?=w.heap[b]?):FW w' size v n xs z:=by
 refine ⟨h.1,?_⟩;rcases h.2 with f|⟨g,cap,j,e,m,r,u,x,y,A,B⟩
 .exact .inl f
 grind
theorem I6.kept{xs:List Value}(h:I6 w size v n xs z)(g:∀b lo,z=some (b,lo)->w'.heap[b]?=w.heap[b]?):I6 w' size v n xs z:=by
 obtain ⟨l,m,f⟩:=h;exact⟨l,m.kept (fun b lo j=>g b 0 (by rw[f,j];rfl)),f⟩
variable{t:TV}
theorem Bi.kept(f:BY w w' F F')(h:Bi w F z t v)(g:∀b lo,z=some (b,lo)->w'.heap[b]?=w.heap[b]?):Bi w' F' z t v:=by
 cases t<;>simp[Bi]at h|-;obtain⟨xs,j,l,m⟩:=h;exact⟨xs,j.kept g,Ak f _ _ l,m⟩
theorem PW.kept{es:Fq}(f:BY w w' F F')(h:PW w F z n es v)(g:∀b lo,z=some (b,lo)->w'.heap[b]?=w.heap[b]?):PW w' F' z n es v:=by
 obtain ⟨xs,j,l,m⟩:=h;exact⟨xs,j.kept g,Ak f _ _ l,m⟩
def BD(w w':World)(ρ:G6):Prop:=∀g j b lo,ρ g j=some (b,lo)->w'.heap[b]?=w.heap[b]?
variable{ρ:G6}
theorem BD.rfl'{w:World}:BD w w ρ:=fun _ _ _ _ _=>rfl
theorem E1.kept{es:Fq}(f:BY w w' F F')(h:E1 w F ρ z es v)(l:∀b lo,z=some (b,lo)->w'.heap[b]?=w.heap[b]?)(m:BD w w' ρ):E1 w' F' ρ z es v:=by
 obtain ⟨xs,y,A,B⟩:=h;refine⟨xs,y.kept l,A,fun j e r=>?_⟩;obtain⟨g,x,n,C,D,E,H,I⟩:=B j e r;exact⟨g,x,n,C,D,E,H,I.kept f (fun b lo u=>m g j b lo u)⟩
def Ve(w w':World)(ρ:G6)(z:Option (Nat×Nat)):Prop:=∀g lo j b lo',z=some (g,lo)->ρ g j=some (b,lo')->w'.heap[b]?=w.heap[b]?
theorem BD.spot{w w':World}{z:Option (Nat×Nat)}(h:BD w w' ρ):Ve w w' ρ z:=fun g _ j b f _ l=>h g j b f l
theorem E1.yz{es:Fq}(l:BY w w' F F')(h:E1 w F ρ z es v)(m:∀b lo,z=some (b,lo)->w'.heap[b]?=w.heap[b]?)(r:Ve w w' ρ z):E1 w' F' ρ z es v:=by
 obtain ⟨xs,A,B,C⟩:=h;refine⟨xs,A.kept m,B,fun j e u=>?_⟩;obtain⟨g,x,n,D,f,E,H,I⟩:=C j e u;exact⟨g,x,n,D,f,E,H,I.kept l (fun b lo y=>r g 0 j b lo f y)⟩
variable{ρ':G6}
theorem E1.wk{es:Fq}(h:E1 w F ρ z es v)(m:∀g lo j,z=some (g,lo)->ρ' g j=ρ g j):E1 w F ρ' z es v:=by
 obtain ⟨xs,f,l,u⟩:=h;refine⟨xs,f,l,fun j e r=>?_⟩
 grind
variable{c:AN}
theorem BA.wk(h:BA w F ρ z c v)(f:∀g lo j,z=some (g,lo)->ρ' g j=ρ g j):BA w F ρ' z c v:=by
 obtain ⟨_|_,t⟩:=c
 .exact h
 .cases t<;>first|exact h|exact E1.wk h f
theorem D0.kept(f:BY w w' F F')(h:D0 w F ρ z t v)(g:∀b lo,z=some (b,lo)->w'.heap[b]?=w.heap[b]?)(j:BD w w' ρ):D0 w' F' ρ z t v:=by
 cases t<;>simp[D0]at h|- <;>first|exact Bi.kept f h g|exact E1.kept f h g j|skip
 obtain ⟨xs,l,m,r⟩:=h;exact⟨xs,l.kept g,Ak f _ _ m,r⟩
theorem BA.kept(f:BY w w' F F')(h:BA w F ρ z c v)(g:∀b lo,z=some (b,lo)->w'.heap[b]?=w.heap[b]?)(j:BD w w' ρ):BA w' F' ρ z c v:=by
 obtain ⟨_|_,t⟩:=c
 .exact⟨B5 f _ _ h.1,h.2⟩
 .exact D0.kept f h g j
theorem BA.yz(f:BY w w' F F')(h:BA w F ρ z c v)(g:∀b lo,z=some (b,lo)->w'.heap[b]?=w.heap[b]?)(j:Ve w w' ρ z):BA w' F' ρ z c v:=by
 obtain ⟨_|_,t⟩:=c
 .exact⟨B5 f _ _ h.1,h.2⟩
 .replace h:D0 w F ρ z t v:=h;show D0 w' F' ρ z t v;cases t<;>simp[D0]at h|- <;>first|exact Bi.kept f h g|exact E1.yz f h g j|skip
  obtain ⟨xs,l,m,r⟩:=h;exact⟨xs,l.kept g,Ak f _ _ m,r⟩
end own
variable{v:Value}
theorem T9.kept{w w':World}{F F':Nat->Nat->Prop}{z z2:Option (Nat×Nat)}{m:MX}(B:BY w w' F F')(h:T9 w F z z2 m v)(l:∀b lo,z=some (b,lo)->w'.heap[b]?=w.heap[b]?)(u:∀b lo,z2=some (b,lo)->w'.heap[b]?=w.heap[b]?):T9 w' F' z z2 m v:=by
 cases m with
 |mp b y=>
  obtain ⟨j,f,g⟩:=h;exact⟨j,f,by unfold Vc;rw[l _ _ f];exact g⟩
 |tm b y C=>
  obtain ⟨vs,j,f,g,x⟩:=h;exact⟨vs,j,f,by unfold Vc;rw[l _ _ f];exact g,Ak B _ _ x⟩
 |mi last A=>
  obtain ⟨r,b,j,f,g,x⟩:=h;exact⟨r,b,j,f,g,by unfold eV;rw[l _ _ f,u _ _ g];exact x⟩
variable{s:Nat}{e:EV}
theorem AK.kept'{a a':Act}{w w':World}{F F':Nat->Nat->Prop}{G L:BP}{U env':AB}
  (r:BY w w' F F')(u:∀i,L s i=G s i)(y:∀i b lo,G s i=some (b,lo)->w'.heap[b]?=w.heap[b]?)
  (M:∀i g lo j,G s i=some (g,lo)->wk a' L g j=wk a G g j)(N:∀i,Ve w w' (wk a G) (G s i))
  (O:∀q i k,e=.nh q i k->(∃p,env'.nat q i=some p)->(∃p,U.nat q i=some p)/\∀v,NH a w q i k v->NH a' w' q i k v)
  (P:∀q B,e=.bp q B->(∃cs,env'.get q=.bx cs)->(∃cs,U.get q=.bx cs)/\slot a' q=slot a q)
  (H:∀q i,(e=.la q i\/∃c,e=.lp q i c)->(∃p,env'.tl q i=some p)->(∃p,U.tl q i=some p)/\∀v,XV a w q i v->XV a' w' q i v)
  (h:AK a w F G U s e v):AK a' w' F' L env' s e v:=by
 cases e with
 |undef=>trivial|sk=>exact h|tv t=>exact B5 r t v h|ow t=>
  simp [AK]at h|-;rw[u];exact h.kept r (fun b lo=>y _ b lo)
 |bx cs=>
  simp only[AK]at h|-;obtain⟨b,c,T,f,A,D,K,J⟩:=h;refine⟨b,c,T,f,by rw[y _ _ _ K];exact A,D,by rw[u];exact K,fun i d hd=>?_⟩;obtain⟨x,Q,l⟩:=J i d hd;exact⟨x,Q,by rw[u];exact(l.yz r (fun b lo=>y _ b lo) (N _)).wk (fun g lo j I=>M _ g lo j I)⟩
 |bp q B=>
  simp only[AK]at h|-;intro C;obtain⟨l,E⟩:=P q B rfl C;rw[E];exact h l
 |tp S=>
  simp [AK]at h|-;obtain⟨vs,f,A⟩:=h;exact⟨vs,f,Ak r _ _ A⟩
 |xo n es=>
  simp [AK]at h|-;obtain⟨xs,f,A,D⟩:=h;rw[u];exact⟨xs,f.kept (fun b lo=>y _ b lo),Ak r _ _ A,D⟩
 |wQ cs=>
  simp [AK]at h|-;obtain⟨vs,f,D,J⟩:=h;refine⟨vs,f,D,fun i d hd=>?_⟩;obtain⟨x,Q,l⟩:=J i d hd;exact⟨x,Q,by rw[u];exact(l.yz r (fun b lo=>y _ b lo) (N _)).wk (fun g lo j I=>M _ g lo j I)⟩
 |xn es=>
  simp [AK]at h|-;rw[u];exact(h.yz r (fun b lo=>y _ b lo) (N _)).wk (fun g lo j I=>M _ g lo j I)
 |x1 n V=>
  simp only[AK]at h|-;obtain⟨g,cap,x,f,A,D,K,J,R⟩:=h;rw[u];have:=r g 0 x D K;exact⟨g,cap,x,f,A,this.1,this.2,J,R.kept r (fun b lo=>y _ b lo)⟩
 |mx m=>
  simp [AK]at h|-;rw[u,u];exact h.kept r (fun b lo=>y _ b lo) (fun b lo=>y _ b lo)
 |nh q i k=>
  simp only[AK]at h|-;intro C;obtain⟨l,E⟩:=O q i k rfl C;exact E _ (h l)
 |la q i=>
  simp only[AK]at h|-;intro C;obtain⟨l,E⟩:=H q i (.inl rfl) C;exact E _ (h l)
 |lp q i c=>
  simp only[AK]at h|-;intro C;obtain⟨l,E⟩:=H q i (.inr ⟨c,rfl⟩) C;obtain⟨g,len,cap,f,A⟩:=h l;exact⟨g,len,cap,E _ f,A⟩
theorem AK.kept{a a':Act}{w w':World}{F F':Nat->Nat->Prop}{G f:BP}{U env':AB}
  (x:BY w w' F F')(y:∀i,f s i=G s i)(A:∀i b lo,G s i=some (b,lo)->w'.heap[b]?=w.heap[b]?)
  (B:wk a' f=wk a G)(C:BD w w' (wk a G))
  (l:∀q i k,e=.nh q i k->(∃p,env'.nat q i=some p)->(∃p,U.nat q i=some p)/\∀v,NH a w q i k v->NH a' w' q i k v)
  (m:∀q u,e=.bp q u->(∃cs,env'.get q=.bx cs)->(∃cs,U.get q=.bx cs)/\slot a' q=slot a q)
  (r:∀q i,(e=.la q i\/∃c,e=.lp q i c)->(∃p,env'.tl q i=some p)->(∃p,U.tl q i=some p)/\∀v,XV a w q i v->XV a' w' q i v)
  (h:AK a w F G U s e v):AK a' w' F' f env' s e v:=
 AK.kept' x y A (fun _ g _ j _=>by rw[B]) (fun _=>BD.spot C) l m r h
variable{q:Nat}{i:Option Nat}
theorem AO.xv{F0:Nat->Nat->Prop}{w0:W0}{U:AB}{a a':Act}{w w':World}{G:BP}(h:AO F0 w0 U a w G)(x:∃p,U.tl q i=some p)(m:slot a' q=slot a q)(y:∀b,G q none=some (b,0)->w'.heap[b]?=w.heap[b]?):∀v,XV a w q i v->XV a' w' q i v:=by
 intro v hv;cases i with
 |none=>exact hv.trans m.symm|some k=>
  obtain ⟨⟨n,es⟩,A⟩:=x;obtain⟨cs,g,_⟩:=AB.wa A;obtain⟨b,c,T,u,B,C⟩:=hv;have f:q<a.tmps.size:=by
   rcases Nat.lt_or_ge q a.tmps.size with l|l
   .exact l
   .rw[h.dom q l]at g;cases g
  have r:=h.slots q f;rw[g]at r;obtain⟨E,c',H,j,I,_,D,_⟩:=r;rw[u]at j;simp at j;subst j;exact⟨b,c,T,by rw[m,u],by rw[y b D];exact B,C⟩
theorem NK.at.kept{w w':World}{x:Value}{k:NK}(h:k.at w x v)(u:∀g len cap,x=.slice (some ⟨g,0,none⟩) len cap->w'.heap[g]?=w.heap[g]?):k.at w' x v:=by
 have m:∀g len cap,x=.slice (some ⟨g,0,none⟩) len cap->∀j,w'.cell? ⟨g,j,none⟩=w.cell? ⟨g,j,none⟩:=fun g len cap e j=>World.cell?_of_block (w:=w) (w':=w') (a:=⟨g,j,none⟩) (u g len cap e);cases k with
 |hd=>exact h|el j=>exact h|rw j=>obtain⟨g,len,cap,e,h⟩:=h;exact⟨g,len,cap,e,by rw[m _ _ _ e];exact h⟩
 |rp j p=>obtain⟨g,len,cap,e,r,f,l,h,y⟩:=h;exact⟨g,len,cap,e,r,f,l,by rw[m _ _ _ e];exact h,y⟩
theorem NH.kept{a a':Act}{w w':World}{q i:Nat}{k:NK}(h:NH a w q i k v)(m:slot a' q=slot a q)(r:∀b,slot a q=.pointer (some ⟨b,0,none⟩)->w'.heap[b]?=w.heap[b]?)
  (u:∀b c T g len cap,slot a q=.pointer (some ⟨b,0,none⟩)->w.heap[b]?=some (.cells c T (0,0))->c[i]?=some (.slice (some ⟨g,0,none⟩) len cap)->w'.heap[g]?=w.heap[g]?):NH a' w' q i k v:=by
 obtain ⟨b,c,T,x,f,j,l,y⟩:=h;exact⟨b,c,T,x,by rw[m];exact f,by rw[r b f];exact j,l,y.kept fun g len cap e=>u b c T g len cap f j (by rw[l,e])⟩
variable{ρ:G6}
theorem E1.nil_or{w:World}{F:Nat->Nat->Prop}{z:Option (Nat×Nat)}{es:Fq}{g len cap:Nat}(h:E1 w F ρ z es (.slice (some ⟨g,0,none⟩) len cap)):z=some (g,0):=by
 obtain ⟨xs,⟨m,j,r⟩,_⟩:=h;rcases j.2 with⟨e,_⟩|⟨u,f,l,e,x,_,_,_,_,_,y⟩
 .cases e
 grind
theorem AO.lts{F0:Nat->Nat->Prop}{w0:W0}{U:AB}{a:Act}{w:World}{G:BP}(h:AO F0 w0 U a w G)(g:U.get q≠.undef):q<a.tmps.size:=by
 rcases Nat.lt_or_ge q a.tmps.size with f|f
 .exact f
 .exact absurd (h.dom q f) g
theorem AO.nh{F0:Nat->Nat->Prop}{w0:W0}{U:AB}{a a':Act}{w w':World}{G:BP}(h:AO F0 w0 U a w G){q i:Nat}{k:NK}(y:∃p,U.nat q i=some p)(A:slot a' q=slot a q)(B:∀j b,(j=none\/j=some i)->G q j=some (b,0)->w'.heap[b]?=w.heap[b]?):∀v,NH a w q i k v->NH a' w' q i k v:=by
 intro v hv;obtain⟨es,I⟩:=y;obtain⟨cs,r,J⟩:=AB.wd I;have m:=h.slots q (h.lts (by rw[r];simp));rw[r]at m;obtain⟨M,c',N,f,u,_,O,K⟩:=m;refine hv.kept A (fun b C=>?_) (fun b c T g len cap D E H=>?_)
 .grind
 .rw[D]at f;simp at f;subst f;rw[E]at u;cases u;obtain⟨x,l,L⟩:=K i _ J;rw[H]at l;simp at l;subst l;exact B (some i) g (.inr rfl) (E1.nil_or L)
theorem AO.yS{F0:Nat->Nat->Prop}{w0:W0}{U:AB}{a:Act}{w:World}{G:BP}(h:AO F0 w0 U a w G)(u:s<a.tmps.size){b lo g j l f:Nat}(m:G s i=some (b,lo))(r:wk a G g j=some (l,f)):l≠b:=by
 rintro rfl;have:=(h.ne _ _ _ _ _ _ _ m r).1;omega
theorem Kd{a a':Act}{G f:BP}(g:a'.tmps.size=a.tmps.size)(h:∀s,a.tmps.size<=s->f s=G s):wk a' f=wk a G:=by grind[wk]
theorem Ce(a:Act)(d:Nat)(v:Value)(h:d<a.tmps.size):slot (a.put (some d) v) d=v:=by
 simp [slot,Act.put,Array.getD_eq_getD_getElem?,h]
theorem AV(a:Act)(d s:Nat)(v:Value)(h:d≠s):slot (a.put (some d) v) s=slot a s:=by
 simp [slot,Act.put,Array.getD_eq_getD_getElem?,Array.getElem?_setIfInBounds,h]
theorem Bc(a:Act)(d:Option Nat)(v:Value):(a.put d v).tmps.size=a.tmps.size:=by
 cases d<;>simp[Act.put]
theorem EY(a:Act)(d:Option Nat)(v:Value):(a.put d v).defers=a.defers:=by
 cases d<;>simp[Act.put]
def PU(a:Act)(d:Nat)(a':Act):Prop:=∃v,a'=a.put (some d) v
structure KH(N:Nat)(p:Option (Nat×Value))(a:Act):Prop where
 size:a.tmps.size=N
 pin:∀i v,p=some (i,v)->slot a i=v
variable{d:Nat}
theorem KH.put{N:Nat}{p:Option (Nat×Value)}{a a':Act}(h:KH N p a)(hd:∀i v,p=some (i,v)->some d≠some i)(k:PU a d a'):KH N p a':=by
 obtain ⟨v,rfl⟩:=k;exact⟨by rw[Bc];exact h.size,fun i u f=>by rw[AV _ _ _ _ (fun e=>hd i u f (by rw[e]))];exact h.pin i u f⟩
theorem Oy(w:World)(F:Nat->Nat->Prop):BY w w F F:=fun _ _ _ f g=>⟨f,g⟩
variable{t:TV}
theorem AO.rem{F0:Nat->Nat->Prop}{w0:W0}{U env':AB}{a:Act}{w:World}{G:BP}(h:AO F0 w0 U a w G)(s:Nat)(A:s<a.tmps.size)(m:Ah w (AS w0.heap.size F0 G) t (slot a s))(x:t.WF)
  (l:∀n,env'.get n=U.get n\/(n=s/\env'.get n=.tv t)):AO F0 w0 env' a w G:=by
 refine ⟨h.ne,h.lt,h.below,h.defers,fun q u=>?_,fun q u=>?_,fun q=>?_⟩
 .rcases l q with e|⟨rfl,_⟩
  .rw[e];exact h.dom q u
  .omega
 .rcases l q with e|⟨rfl,e⟩
  .rw[e];refine AK.kept (Oy _ _) (fun _=>rfl) (fun _ _ _ _=>rfl) rfl BD.rfl' (fun r i k m⟨p,g⟩=>?_) (fun r y m⟨cs,j⟩=>?_) (fun r i m⟨p,g⟩=>?_) (h.slots q u)
   .rcases l r with f|⟨_,f⟩
    .rw[AB.w7 f]at g;exact⟨⟨p,g⟩,fun _ hv=>hv⟩
    .simp only[AB.nat,f]at g;cases g
   .rcases l r with f|⟨_,f⟩
    .rw[f]at j;exact⟨⟨cs,j⟩,rfl⟩
    .rw[f]at j;cases j
   .rcases l r with f|⟨_,f⟩
    .rw[AB.wR f]at g;exact⟨⟨p,g⟩,fun _ hv=>hv⟩
    .cases i<;>simp[AB.tl,f]at g<;>cases g
  .rw[e];exact m
 .rcases l q with e|⟨_,e⟩
  .rw[e];exact h.wf q
  .rw[e];exact x
end Go.Sf
namespace Go.Sf
open Go.RowKit (Below)
theorem AB.wg(d:Nat):∀(U:AB),U.f0 d=true->∀s,(U.get s).we≠some d
 |[],_,s=>by simp[AB.get,EV.we]|(k,e)::r,f,s=>by
  simp [AB.f0]at f;rw[AB.d4];split
  .grind[EV.wL]
  .exact AB.wg d r f.2 s
theorem AB.xM(d:Nat)(U:AB)(h:U.f0 d=true)(s:Nat):(∀i,U.get s≠.la d i)/\∀i c,U.get s≠.lp d i c:=
 ⟨fun i e=>AB.wg d U h s (by rw[e];rfl),fun i c e=>AB.wg d U h s (by rw[e];rfl)⟩
theorem AB.xK(d:Nat)(U:AB)(h:U.f0 d=true)(s f:Nat):U.get s≠.bp d f:=
 fun e=>AB.wg d U h s (by rw[e];rfl)
variable{d:Nat}{e:EV}{i:Option Nat}{p:Nat×Fq}
theorem AB.xT{U:AB}(h:AB.tl ((d,e)::U) d i=some p):(∃cs,e=.bx cs)\/(∃n es,e=.xo n es):=by
 obtain ⟨n,es⟩:=p;cases i with
 |none=>have:=AB.wj h;rw[AB.d4,a6 rfl]at this;exact .inr ⟨n,es,this⟩|some k=>obtain⟨cs,f,_⟩:=AB.wa h;rw[AB.d4,a6 rfl]at f;exact .inl ⟨cs,f⟩
variable{q:Nat}
theorem AB.t5{U:AB}(f:∀cs,e≠.bx cs)(g:∀n es,e≠.xo n es)(h:AB.tl ((d,e)::U) q i=some p):d≠q/\U.tl q i=some p:=by grind[AB.xT,AB.wR,AB.d4]
theorem AB.wJ{U:AB}(h:d≠q):AB.tl ((d,e)::U) q i=U.tl q i:=by grind[AB.wR,AB.d4]
variable{s:Nat}{k:Option Nat}
theorem AB.noXs_iff:∀{U:AB}{z:Ne},AB.zB s k z U=true↔∀p,p∉z->(U.get p).yT s k=true
 |[],z=>by simp[AB.zB,AB.get,EV.yT]|(q,e)::r,z=>by
  simp [AB.zB,wq,AB.noXs_iff (U:=r)]
  grind [AB.d4]
theorem AB.x6{U:AB}:U.yp s k=true↔∀p,(U.get p).yT s k=true:=
 AB.noXs_iff.trans ⟨fun h p=>h p (by simp),fun h p _=>h p⟩
theorem AB.noX_all{s k:Nat}{U:AB}(f:U.yp s none=true):U.yp s (some k)=true:=by
 rw [AB.x6]at f|-;intro p;have h:=f p;generalize U.get p=e at h|-;cases e<;>try rfl
 .rename_i q i;cases i with
  |none=>rfl|some i=>simp[EV.yT]at h;simp[EV.yT,h]
 .rename_i q i c;cases i with
  |none=>rfl|some i=>simp[EV.yT]at h;simp[EV.yT,h]
 .rename_i q i c;simp[EV.yT]at h;simp[EV.yT,h]
theorem AB.noX_ref{U:AB}(f:U.f0 s=true):U.yp s none=true:=by
 rw [AB.x6];intro p;have h:=AB.wg s U f p;generalize U.get p=e at h|-;cases e<;>try rfl
 .rename_i q i;cases i with
  |none=>rfl|some i=>simp[EV.yT,bne_iff_ne];exact fun e=>h (by rw[e];rfl)
 .rename_i q i c;cases i with
  |none=>rfl|some i=>simp[EV.yT,bne_iff_ne];exact fun e=>h (by rw[e];rfl)
 .rename_i q i c;simp[EV.yT,bne_iff_ne];exact fun e=>h (by rw[e];rfl)
theorem AB.noX_nh{U:AB}(f:U.yp s k=true)(p j:Nat)(g:k=none\/k=some j)(c:NK):U.get p≠.nh s j c:=by grind[AB.x6,EV.yT]
theorem AB.yh(d:Nat)(U:AB)(h:U.f0 d=true)(s:Nat):∀i c,U.get s≠.nh d i c:=
 fun i c e=>AB.wg d U h s (by rw[e];rfl)
theorem AB.xy{U:AB}{d i:Nat}{p:Fq}(h:AB.nat ((d,e)::U) d i=some p):∃cs,e=.bx cs:=by grind[AB.wd,AB.d4]
theorem AB.ws{U:AB}{d q i:Nat}{p:Fq}(f:∀cs,e≠.bx cs)(h:AB.nat ((d,e)::U) q i=some p):d≠q/\U.nat q i=some p:=by grind[AB.xy,AB.w7,AB.d4]
theorem AB.wO{U:AB}{d q i:Nat}(h:d≠q):AB.nat ((d,e)::U) q i=U.nat q i:=by grind[AB.w7,AB.d4]
theorem AB.noX_spec{U:AB}(f:U.yp s k=true)(p j:Nat)(g:k=none\/k=some j):U.get p≠.la s (some j)/\∀c,U.get p≠.lp s (some j) c:=by grind[AB.x6,EV.yT]
def IU(G:BP)(d:Nat)(zd:Option Nat->Option (Nat×Nat)):BP:=fun s=>if s=d then zd else G s
theorem Bq(G:BP)(d:Nat)(f:Option Nat->Option (Nat×Nat)):IU G d f d=f:=by simp[IU]
theorem A9(G:BP)(d s:Nat)(f:Option Nat->Option (Nat×Nat))(h:s≠d):IU G d f s=G s:=by simp[IU,h]
section
variable{F0:Nat->Nat->Prop}{w0:W0}{U:AB}{a:Act}{w:World}{G:BP}
theorem Jk{w':World}(u:Below w.heap.size w w')(d:Nat)(l:Option Nat->Option (Nat×Nat))(x:∀i b lo,l i=some (b,lo)->w.heap.size<=b):
  BY w w' (AS w0.heap.size F0 G) (AS w0.heap.size F0 (IU G d l)):=by
 intro b o v m hf;have j:b<w.heap.size:=World.block_lt_of_cell? w ⟨b,o,none⟩ m;refine⟨by rw[u.cell (p:=⟨b,o,none⟩) j];exact m,fun g=>hf ?_⟩;rcases g with h|⟨s,i,lo,f,y⟩
 .exact .inl h
 .by_cases r:s=d
  .subst r;rw[Bq]at f;have:=x i b lo f;omega
  .rw[A9 _ _ _ _ r]at f;exact .inr ⟨s,i,lo,f,y⟩
theorem AO.xW{w':World}(h:AO F0 w0 U a w G)(f:Below w.heap.size w w'):BD w w' (wk a G):=by
 intro g j b lo l;exact f.block b (h.lt _ _ _ _ l).1
theorem AO.quiet{w':World}(h:AO F0 w0 U a w G)(C:Below w.heap.size w w')(d:Nat)(hd:d<a.tmps.size)(e:EV)(v:Value)
  (D:Option Nat->Option (Nat×Nat))(K:∀i b lo,D i=some (b,lo)->w.heap.size<=b/\b<w'.heap.size)(L:∀i H b lo l,D i=some (b,lo)->D H=some (b,l)->i=H)
  (E:(∃cs,e=.bx cs)\/(∃n es,e=.xo n es)->U.f0 d=true)
  (J:AK (a.put (some d) v) w' (AS w0.heap.size F0 (IU G d D)) (IU G d D) ((d,e)::U) d e v)(M:e.WF):
  AO F0 w0 ((d,e)::U) (a.put (some d) v) w' (IU G d D):=by
 have O:=Jk (F0:=F0) (w0:=w0) (G:=G) C d D (fun i b lo h=>(K i b lo h).1);refine⟨?_,?_,h.below.go C,by rw[EY];exact h.defers,?_,?_,?_⟩
 .intro s i s' H b lo l m B;by_cases g:s=d<;>by_cases y:s'=d
  .subst g;subst y;rw[Bq]at m B;exact⟨rfl,L i H b lo l m B⟩
  .subst g;rw[Bq]at m;rw[A9 _ _ _ _ y]at B;have:=(K i b lo m).1;have:=(h.lt s' H b l B).1;omega
  .subst y;rw[Bq]at B;rw[A9 _ _ _ _ g]at m;have:=(K H b l B).1;have:=(h.lt s i b lo m).1;omega
  .rw[A9 _ _ _ _ g]at m;rw[A9 _ _ _ _ y]at B;exact h.ne s i s' H b lo l m B
 .intro s i b lo m;by_cases g:s=d
  .subst g;rw[Bq]at m;have:=K i b lo m;exact⟨this.2,.inl (Nat.le_trans h.below.size this.1)⟩
  .rw[A9 _ _ _ _ g]at m;have:=h.lt s i b lo m;exact⟨Nat.lt_of_lt_of_le this.1 C.size,this.2⟩
 .intro s g;rw[Bc]at g;rw[AB.d4,ae (by omega)];exact h.dom s g
 .intro s g;rw[Bc]at g;rw[AB.d4];by_cases A:d=s
  .subst A;rw[a6 rfl,Ce _ _ _ hd];exact J
  .rw[ae A,AV _ _ _ _ A];refine AK.kept O (fun i=>by rw[A9 _ _ _ _ (fun e=>A e.symm)]) (fun i b lo Q=>C.block b (h.lt s i b lo Q).1) (Kd (Bc _ _ _) (fun s g=>A9 _ _ _ _ (by omega))) (h.xW C) (fun q i k u⟨p,x⟩=>?_) (fun q N u⟨cs,r⟩=>?_) (fun q i u⟨p,x⟩=>?_) (h.slots s g)
   .by_cases f:d=q
    .subst f;exact absurd u (AB.yh d U (E (.inl (AB.xy x))) s i k)
    .rw[AB.wO f]at x;exact⟨⟨p,x⟩,h.nh ⟨p,x⟩ (AV _ _ _ _ f) (fun j b _ I=>C.block b (h.lt _ _ _ _ I).1)⟩
   .rw[AB.d4]at r;by_cases f:d=q
    .subst f;rw[a6 rfl]at r;exact absurd u (AB.xK d U (E (.inl ⟨cs,r⟩)) s N)
    .rw[ae f]at r;exact⟨⟨cs,r⟩,AV _ _ _ _ f⟩
   .by_cases f:d=q
    .subst f;have P:=AB.xM d U (E (AB.xT x)) s;rcases u with u|⟨c,u⟩
     .exact absurd u (P.1 i)
     .exact absurd u (P.2 i c)
    .rw[AB.wJ f]at x;exact⟨⟨p,x⟩,h.xv ⟨p,x⟩ (AV _ _ _ _ f) (fun b I=>C.block b (h.lt _ _ _ _ I).1)⟩
 .intro s;rw[AB.d4];split
  .exact M
  .exact h.wf s
theorem AO.tv{w':World}(h:AO F0 w0 U a w G)(j:Below w.heap.size w w')(d:Nat)(hd:d<a.tmps.size)(t:TV)(v:Value)
  (f:Ah w' (AS w0.heap.size F0 (IU G d fun _=>none)) t v)(g:t.WF):
  Bm F0 w0 ((d,.tv t)::U) (a.put (some d) v) w':=
 ⟨_,h.quiet j d hd (.tv t) v (fun _=>none) (by simp) (by simp) (by simp) f g⟩
theorem AO.tv_same(h:AO F0 w0 U a w G)(d:Nat)(hd:d<a.tmps.size)(t:TV)(v:Value)
  (f:Ah w (AS w0.heap.size F0 G) t v)(g:t.WF):
  Bm F0 w0 ((d,.tv t)::U) (a.put (some d) v) w:=
 h.tv (Below.refl _ _) d hd t v (B5 (Jk (Below.refl _ _) d _ (by simp)) t v f) g
theorem AO.ow{w':World}(h:AO F0 w0 U a w G)(m:Below w.heap.size w w')(d:Nat)(hd:d<a.tmps.size)(t:TV)(v:Value)(z:Option (Nat×Nat))
  (r:∀b lo,z=some (b,lo)->w.heap.size<=b/\b<w'.heap.size)
  (f:Bi w' (AS w0.heap.size F0 (IU G d fun i=>if i=none then z else none)) z t v)(g:t.WF):
  Bm F0 w0 ((d,.ow t)::U) (a.put (some d) v) w':=by
 refine ⟨_,h.quiet m d hd (.ow t) v (fun i=>if i=none then z else none) (fun i b lo hi=>?_) (fun i x b lo u j l=>?_) (by simp) ?_ g⟩
 .split at hi
  .exact r b lo hi
  .cases hi
 .split at j
  .split at l
   .simp_all
   .cases l
  .cases j
 .simp[AK,Bq];exact f
end
section reads
variable{w:World}{F:Nat->Nat->Prop}
theorem Up(n:Nat):∀(es:Fq)(b o:Nat),(∀e∈es,e.cells.length=n)->C8 w F (es.flatMap TV.cells) b o->Hs w F n es b o
 |[],_,_,_,_=>trivial|e::es,b,o,f,h=>by
  rw [O6];have he:e.cells.length=n:=f e (by simp);rw[List.flatMap_cons]at h;refine⟨by have:=aq h e.cells.length;simpa using this,he,Up n es b (o+n) (fun x g=>f x (by simp[g])) ?_⟩;have:=OF h e.cells.length
  grind
theorem N5(n:Nat):∀(es:Fq),(∀e∈es,e.cells.length=n)->(es.flatMap TV.cells).length=es.length*n
 |[],_=>by simp|e::es,f=>by
  rw [List.flatMap_cons,bk,N5 n es (fun x g=>f x (by simp[g])),f e (by simp),cE,Nat.add_mul,Nat.one_mul,Nat.add_comm]
variable{b o:Nat}
theorem QK{f:Fq}{xs:List Value}(h:AQ w F f xs)(j:∀x∈xs,x.oneCell'=true)(l:∀(i:Nat)(x:Value),xs[i]?=some x->w.cell? ⟨b,o+i,none⟩=some x/\¬F b (o+i)):C8 w F f b o:=by
 rw [IA];rw[BZ]at h;intro i t hi;have g:i<f.length:=by
  grind
 have m:xs[i]?=some xs[i]:=List.getElem?_eq_getElem (by omega)
 grind
variable{size:Nat}{v:Value}{n:Nat}
theorem FW.cell{xs:List Value}{z:Option (Nat×Nat)}{g cap:Nat}(h:FW w size v n xs z)(hv:v=.slice (some ⟨g,0,none⟩) n cap):∀(j:Nat)(u:Value),xs[j]?=some u->w.cell? ⟨g,j,none⟩=some u:=by
 intro j u y;rcases h.2 with⟨rfl,_⟩|⟨r,m,f,e,rfl,x,_,_,_,l,_⟩
 .cases hv
 .simp only[Value.slice.injEq,tg,Addr.mk.injEq]at hv;obtain⟨⟨rfl,_⟩,_⟩:=hv;rw[cell_of_row w r j f e (0,0) x]
  grind
variable{t:TV}
theorem Bi.zw{z:Option (Nat×Nat)}(h:Bi w F z t v)(u:∀b lo o,z=some (b,lo)->o<lo->¬F b o):Ah w F t v:=by
 cases t<;>simp[Bi]at h;rename_i n es;obtain⟨xs,m,A,B,C⟩:=h;simp[Ah];rcases m.2 with⟨rfl,J,r⟩|⟨g,cap,D,e,rfl,K,j,E,H,l,r⟩
 .grind
 .refine⟨some ⟨g,0,none⟩,cap,rfl,j,by simp,fun I f=>?_⟩;simp at f;subst f;refine⟨.inr rfl,Up n es g 0 B (QK A C fun i x y=>?_)⟩;rw[Nat.zero_add];refine⟨m.cell rfl i x y,u g _ i r ?_⟩
  grind
variable{ρ:G6}
theorem D0.zw{z:Option (Nat×Nat)}(h:D0 w F ρ z t v)(f:∀b lo o,z=some (b,lo)->o<lo->¬F b o):Ah w F t v:=by
 cases t<;>first|exact Bi.zw h f|skip
 all_goals
  obtain ⟨xs,⟨m,j,_⟩,_⟩:=h;simp[Ah];rcases j.2 with⟨rfl,_⟩|⟨g,cap,l,e,rfl,_⟩<;>rfl
end reads
end Go.Sf
