/- The functions of the program as Lean functions. -/
import Derived.Test.YthhobbgaejimgaaGreatDoorTypes
import Derived.Test.YthhobbgaejimgaaGreatDoorSfText
import Derived.Test.YthhobbgaejimgaaGreatDoorSfF
set_option linter.all false
set_option maxRecDepth 100000
namespace Go.Sf.Sc
open Go Go.Sf
noncomputable section
abbrev JH:BD:=BD.mk (jj.mk (⟨#[]⟩:ByteArray) (ff.mk (d3.mk [] []) [] 0 []) (ff.mk (d3.mk [] []) [] 0 []) (B3.mk [] []) (ec.mk [] []) false (fd.mk 0 [] (ec.mk [] []) (ff.mk (d3.mk [] []) [] 0 []))) (AR.mk (ec.mk [] []) []) (AL.mk (d3.mk [] []) []) (AL.mk (d3.mk [] []) []) (ec.mk [] []) (ec.mk [] [])
abbrev FB:Bh:=Bh.mk 0 (AR.mk (ec.mk [] []) []) []
abbrev FH:AN:=AN.mk (AL.mk (d3.mk [] []) []) []
def CE[Ev](a:D1)(f:Int->Fp):K1:=
 hV (pq (ρ:=Int) (fun i0 _=>
 (idx a i0).bind fun b=>
 (f b).bind fun c=>
 if c then
 some (.ret i0)
 else
 some (.next ())) 0 (a.length:Int) ()) (fun _=>
 some (-1)) some
def Ag[Ev](a:D1)(f:Int->Fp):Fp:=
 (CE a f).bind fun b=>
 some (decide (0<=b))
def Ee(n:Int)(a:Int):Fp:=
 some (n<a||999999999<n)
def CB[Ev](l:D1)(a:Int):Fp:=
 (Ag l (fun y0=>Ee y0 a)).bind some
def strconv_Itoa(i:Int):Option ByteArray:=if 0<=i/\i<100 then some (Un i.toNat)else none
def Cp(l:D1):Option ByteArray:=
 (rl (fun i0(s0:ByteArray)=>
 (idx l i0).bind fun a=>
 if (a<0:Bool)then
 (strconv_Itoa (AT (-a))).bind fun b=>
 (JZ (⟨#[32,45,32]⟩:ByteArray) b).bind fun c=>
 (JZ s0 c).bind some
 else
 (strconv_Itoa a).bind fun e=>
 (JZ (⟨#[32]⟩:ByteArray) e).bind fun f=>
 (JZ s0 f).bind some) 0 (l.length:Int) (⟨#[40]⟩:ByteArray)).bind fun s0=>
 (JZ s0 (⟨#[32,41]⟩:ByteArray)).bind some
def J3(m:CQ):Option ByteArray:=
 if m.qj.ec.ci=[]/\m.qj.ec.d6=[]/\m.qj.k8=[]then
  (strconv_Itoa m.jj).bind fun s=>(Cp []).bind fun t=>
  let o:ByteArray:=((((((((⟨#[109,111,118,101,32]⟩:ByteArray)++s)++(⟨#[32]⟩:ByteArray))++t)++(⟨#[32]⟩:ByteArray))++t)++(⟨#[32]⟩:ByteArray))++t)++(⟨#[32,59,10]⟩:ByteArray)
  if o.size<=1000 then some o else none
 else none
def Cg(r:List CQ)(l:List UInt8):Option (List UInt8):=
 r.foldl (fun a m=>a.bind fun l=>(J3 m).bind fun o=>some (l++o.data.toList)) (some l)
def Fw(d:AN):Option (ByteArray×Int):=
 if d.o4.length<=30/\d.o4≠[]then(Cg d.o4 []).map fun l=>(⟨l.toArray⟩,0)else none
def KE:Option AB:=
 some (AB.mk [Ba.mk (⟨#[65,99,99,111,117,110,116]⟩:ByteArray) (-1) true [o3.mk (⟨#[98,97,108,97,110,99,101]⟩:ByteArray) (-1000) 1000 []],Ba.mk (⟨#[67,97,115,104]⟩:ByteArray) 0 false [],Ba.mk (⟨#[76,111,97,110]⟩:ByteArray) 0 false [o3.mk (⟨#[115,116,97,116,101]⟩:ByteArray) 0 1 [(⟨#[111,112,101,110]⟩:ByteArray),(⟨#[99,108,111,115,101,100]⟩:ByteArray)]],Ba.mk (⟨#[80,101,114,115,111,110]⟩:ByteArray) (-1) false []] [Bl.mk (⟨#[111,119,110,115]⟩:ByteArray) 3 0 0 (-1) 1 1,Bl.mk (⟨#[112,97,121,115]⟩:ByteArray) 1 1 0 (-1) 0 (-1)])
def slices_Clone_int(a:D1):Option D1:=
 Aj [] a
def Dq(a:List Bv):Option (List Bv):=
 Aj [] a
def Cb(a:AL):Option AL:=
 (slices_Clone_int a.d3.ci).bind fun f=>
 (Dq a.d3.d6).bind fun b=>
 (rl (fun i0(s0:AL)=>
 (idx a.hT i0).bind fun c=>
 (slices_Clone_int c).bind fun d=>
 (Aj s0.hT [d]).bind fun e=>
 some (AL.mk s0.d3 e)) 0 (a.hT.length:Int) (AL.mk (d3.mk f b) [])).bind some
def Du[Ev](a:ByteArray)(e:Int->Fp):K1:=
 hV (Dy (ρ:=Int) (fun(s0:Int)=>
 (if(s0<(a.size:Int):Bool)then((rx a s0).bind fun b=>
 (e b).bind some)else some false).bind fun d=>
 if d then
 some (.next (AT (s0+1)))
 else
 some (.brk s0)) 0) some some
def Hf(c:Int):Fp:=
 some (97<=c&&c<=122||(65<=c&&c<=90))
def G4(c:Int):Fp:=
 some (48<=c&&c<=57)
def JC(c:Int):Fp:=
 (Hf c).bind fun a=>
 (if a then some true else((G4 c).bind some)).bind fun d=>
 some (d||c=95)
def GH(c:Int):Fp:=
 some ((32<=c&&c<=126)&&(!c=34))
def DD[Ev](a:ByteArray):Option (Int×Int):=
 (rB a 1 a.size).bind fun e=>
 (Du e GH).bind fun b=>
 (if((AT (1+b))=(a.size:Int):Bool)then some true else((rx a (AT (1+b))).bind fun c=>
 some (!c=34))).bind fun d=>
 if d then
 some (0,2)
 else
 if (60<b:Bool)then
 some (0,3)
 else
 some (AT (b+2),0)
def slices_Index_string(a:List ByteArray)(c:ByteArray):K1:=
 hV (pq (ρ:=Int) (fun i0 _=>
 (idx a i0).bind fun b=>
 if (c==b)then
 some (.ret i0)
 else
 some (.next ())) 0 (a.length:Int) ()) (fun _=>
 some (-1)) some
def slices_Contains_string(b:List ByteArray)(a:ByteArray):Fp:=
 (slices_Index_string b a).bind fun c=>
 some (decide (0<=c))
def Gl(a:ByteArray):Fp:=
 (if(2<=(a.size:Int):Bool)then((rB a 0 2).bind fun d=>
 (slices_Contains_string [(⟨#[45,62]⟩:ByteArray),(⟨#[60,61]⟩:ByteArray),(⟨#[62,61]⟩:ByteArray),(⟨#[61,61]⟩:ByteArray),(⟨#[33,61]⟩:ByteArray)] d).bind some)else some false).bind some
def strings_IndexByte(s:ByteArray)(c:Int):K1:=some (Go.Lib.indexByte s.data.toList c.toNat.toUInt8)
def DF[Ev](a:ByteArray):Option (Int×Int×Int):=
 (rx a 0).bind fun b=>
 (Hf b).bind fun f=>
 if f then
 (Du a JC).bind fun c=>
 if (20<c:Bool)then
 some (0,0,3)
 else
 some (1,c,0)
 else
 (G4 b).bind fun g=>
 if g then
 (Du a G4).bind fun d=>
 if (9<d:Bool)then
 some (0,0,3)
 else
 some (2,d,0)
 else
 if (b=34:Bool)then
 (DD a).bind fun e=>
 some (3,e.1,e.2)
 else
 (Gl a).bind fun h=>
 if h then
 some (4,2,0)
 else
 (strings_IndexByte (⟨#[123,125,40,41,91,93,44,59,58,61,43,45,42,60,62,33,38,124,46,63]⟩:ByteArray) b).bind fun i=>
 if (0<=i:Bool)then
 some (4,1,0)
 else
 some (0,0,2)
def DX[Ev](t:Ap):Option (ByteArray×Bool):=
 (if(t.qh=3:Bool)then
 (JZ (⟨#[34]⟩:ByteArray) t.r7).bind fun b=>
 (JZ b (⟨#[34]⟩:ByteArray)).bind some
 else
 some t.r7).bind fun w1=>
 if (w1==(⟨#[]⟩:ByteArray))then
 some ((⟨#[]⟩:ByteArray),false)
 else
 (DF w1).bind fun a=>
 some (w1,(a.2.2=0&&a.1=t.qh)&&a.2.1=(w1.size:Int))
def CY[Ev](a:ByteArray):Fp:=
 (DX (Ap.mk 1 a 0)).bind fun b=>
 some b.2
def CO[Ev](a:List Ba)(f:Ba->Fp):K1:=
 hV (pq (ρ:=Int) (fun i0 _=>
 (idx a i0).bind fun b=>
 (f b).bind fun c=>
 if c then
 some (.ret i0)
 else
 some (.next ())) 0 (a.length:Int) ()) (fun _=>
 some (-1)) some
def Be[Ev](a:List Ba)(f:Ba->Fp):Fp:=
 (CO a f).bind fun b=>
 some (decide (0<=b))
def JF(m:Ba)(a:Ba):Fp:=
 some (m.og==a.og)
def CS[Ev]:Nat->AB->Int->Option (List o3)
 |0,_,_=>none|n+1,t,a=>
  (idx t.ci a).bind fun b=>
  (if(0<=b.ru:Bool)then
  (CS n t b.ru).bind some
  else
  some []).bind fun w1=>
  (idx t.ci a).bind fun d=>
  (Aj w1 d.qv).bind some
def G6[Ev](t:AB)(a:Int):Option (List o3):=LG fun n=>CS n t a
def Cj[Ev](a:List o3)(f:o3->Fp):K1:=
 hV (pq (ρ:=Int) (fun i0 _=>
 (idx a i0).bind fun b=>
 (f b).bind fun c=>
 if c then
 some (.ret i0)
 else
 some (.next ())) 0 (a.length:Int) ()) (fun _=>
 some (-1)) some
def B1[Ev](a:List o3)(f:o3->Fp):Fp:=
 (Cj a f).bind fun b=>
 some (decide (0<=b))
def F2(y:o3)(a:o3):Fp:=
 some (y.og==a.og)
def Em[Ev](l:List ByteArray):K1:=
 if (20<(l.length:Int):Bool)then
 some 3
 else
 hV (pq (ρ:=Int) (fun i0 _=>
 (idx l i0).bind fun a=>
 (CY a).bind fun b=>
 if (!b)then
 some (.ret 2)
 else
 (sM l 0 i0).bind fun c=>
 (slices_Contains_string c a).bind fun d=>
 if d then
 some (.ret 5)
 else
 some (.next ())) 0 (l.length:Int) ()) (fun _=>
 some 0) some
def C5[Ev](a:o3)(b:List o3):K1:=
 (CY a.og).bind fun d=>
 if (!d)then
 some 2
 else
 (B1 b (fun y0=>F2 y0 a)).bind fun e=>
 if e then
 some 5
 else
 (Em a.qu).bind fun c=>
 if (!c=0)then
 some c
 else
 (if(0<(a.qu.length:Int):Bool)then
 some (a.s7=0&&a.sb=(AT ((a.qu.length:Int)-1)))
 else
 some (((-1000000)<=a.s7&&a.s7<=a.sb)&&a.sb<=1000000)).bind fun w1=>
 if (!w1)then
 some 6
 else
 some 0
def Ff[Ev](t:AB)(c:Int):K1:=
 (idx t.ci c).bind fun a=>
 (CY a.og).bind fun e=>
 if (!e)then
 some 2
 else
 (sM t.ci 0 c).bind fun f=>
 (Be f (fun y0=>JF y0 a)).bind fun g=>
 if g then
 some 5
 else
 if (a.ru<(-1)||c<=a.ru)then
 some 6
 else
 if (4<(a.qv.length:Int):Bool)then
 some 3
 else
 (G6 t c).bind fun b=>
 if (8<(b.length:Int):Bool)then
 some 3
 else
 hV (pq (ρ:=Int) (fun i1 _=>
 (idx b i1).bind fun h=>
 (sM b 0 i1).bind fun i=>
 (C5 h i).bind fun d=>
 if (!d=0)then
 some (.ret d)
 else
 some (.next ())) (AT ((b.length:Int)-(a.qv.length:Int))) (b.length:Int) ()) (fun _=>
 some 0) some
def Hg(n:Int)(a:AB):Fp:=
 some (0<=n&&n<(a.ci.length:Int))
def CN[Ev](a:List Bl)(f:Bl->Fp):K1:=
 hV (pq (ρ:=Int) (fun i0 _=>
 (idx a i0).bind fun b=>
 (f b).bind fun c=>
 if c then
 some (.ret i0)
 else
 some (.next ())) 0 (a.length:Int) ()) (fun _=>
 some (-1)) some
def Bc[Ev](a:List Bl)(f:Bl->Fp):Fp:=
 (CN a f).bind fun b=>
 some (decide (0<=b))
def JE(y:Bl)(a:Bl):Fp:=
 some (y.og==a.og)
def Gu(b:Int)(a:Int):Fp:=
 some ((0<=b&&b<=40)&&(a=(-1)||(b<=a&&a<=40)))
def Fe[Ev](t:AB)(c:Int):K1:=
 (idx t.d6 c).bind fun a=>
 (CY a.og).bind fun d=>
 if (!d)then
 some 2
 else
 (sM t.d6 0 c).bind fun e=>
 (Bc e (fun y0=>JE y0 a)).bind fun f=>
 if f then
 some 5
 else
 (Hg a.qx t).bind fun g=>
 (if(!g)then some true else((Hg a.To t).bind fun h=>
 some (!h))).bind fun b=>
 (if b then
 some b
 else
 (Gu a.sX a.sB).bind fun i=>
 (if(!i)then some true else((Gu a.tL a.sZ).bind fun j=>
 some (!j))).bind some).bind fun w1=>
 if w1 then
 some 6
 else
 some 0
def B5[Ev](t:AB):Option (ByteArray×Int):=
 if ((t.ci.length:Int)=0:Bool)then
 some ((⟨#[]⟩:ByteArray),7)
 else
 if (12<(t.ci.length:Int)||20<(t.d6.length:Int))then
 some ((⟨#[]⟩:ByteArray),3)
 else
 hV (pq (ρ:=(ByteArray×Int)) (fun i1 _=>
 (idx t.ci i1).bind fun c=>
 (Ff t i1).bind fun a=>
 if (!a=0)then
 some (.ret (c.og,a))
 else
 some (.next ())) 0 (t.ci.length:Int) ()) (fun _=>
 hV (pq (ρ:=(ByteArray×Int)) (fun i3 _=>
 (idx t.d6 i3).bind fun d=>
 (Fe t i3).bind fun b=>
 if (!b=0)then
 some (.ret (d.og,b))
 else
 some (.next ())) 0 (t.d6.length:Int) ()) (fun _=>
 some ((⟨#[]⟩:ByteArray),0)) some) some
def Ex(n:Int)(a:Int):Fp:=
 some (0<=n&&n<=a)
def IE(t:Int):Fp:=
 (Ex t 99).bind fun a=>
 some (!a)
def Ck[Ev](a:List Bv)(f:Bv->Fp):K1:=
 hV (pq (ρ:=Int) (fun i0 _=>
 (idx a i0).bind fun b=>
 (f b).bind fun c=>
 if c then
 some (.ret i0)
 else
 some (.next ())) 0 (a.length:Int) ()) (fun _=>
 some (-1)) some
def BM[Ev](a:List Bv)(f:Bv->Fp):Fp:=
 (Ck a f).bind fun b=>
 some (decide (0<=b))
def Im(e:Bv)(a:Int):Fp:=
 (Ex e.qz 99).bind fun g=>
 (if g then((Ex e.qx (AT (a-1))).bind some)else some false).bind fun c=>
 (if c then((Ex e.To (AT (a-1))).bind some)else some false).bind some
def IF(e:Bv)(b:d3):Fp:=
 (Im e (b.ci.length:Int)).bind fun a=>
 some (!a)
def CG[Ev](g:d3):K1:=
 if (40<(g.ci.length:Int)||80<(g.d6.length:Int))then
 some 3
 else
 (Ag g.ci IE).bind fun a=>
 if a then
 some 6
 else
 (BM g.d6 (fun y0=>IF y0 g)).bind fun b=>
 if b then
 some 6
 else
 some 0
def II(a:Int)(b:AB):Fp:=
 some (a<0||(b.ci.length:Int)<=a)
def DY[Ev](t:AB)(l:D1):K1:=
 (B5 t).bind fun b=>
 if (!b.2=0)then
 some b.2
 else
 (Ag l (fun y0=>II y0 t)).bind fun a=>
 if a then
 some 6
 else
 some 0
def slices_Clone_string(a:List ByteArray):Option (List ByteArray):=
 Aj [] a
def Cv[Ev](t:AB)(a:Int):Option (List o3×Int):=
 (DY t [a]).bind fun c=>
 if (!c=0)then
 some ([],c)
 else
 (G6 t a).bind fun d=>
 (rl (fun i0(s0:List o3)=>
 (idx s0 i0).bind fun e=>
 (slices_Clone_string e.qu).bind fun f=>
 (idx s0 i0).bind fun b=>
 some (CI s0 i0 (o3.mk b.og b.s7 b.sb f))) 0 (d.length:Int) d).bind fun s0=>
 some (s0,0)
def GJ[Ev](t:AB)(a:Int)(h:D1):K1:=
 if ((t.ci.length:Int)<=a:Bool)then
 some 6
 else
 (idx t.ci a).bind fun d=>
 if d.se then
 some 13
 else
 (Cv t a).bind fun b=>
 if (!(h.length:Int)=(b.1.length:Int))then
 some 20
 else
 hV (pq (ρ:=Int) (fun i0 _=>
 (idx b.1 i0).bind fun c=>
 (idx h i0).bind fun e=>
 (if(e<c.s7:Bool)then some true else((idx h i0).bind fun f=>
 some (decide (c.sb<f)))).bind fun g=>
 if g then
 some (.ret 6)
 else
 some (.next ())) 0 (b.1.length:Int) ()) (fun _=>
 some 0) some
def slices_Index_int(a:D1)(c:Int):K1:=
 hV (pq (ρ:=Int) (fun i0 _=>
 (idx a i0).bind fun b=>
 if (c=b:Bool)then
 some (.ret i0)
 else
 some (.next ())) 0 (a.length:Int) ()) (fun _=>
 some (-1)) some
def slices_Contains_int(b:D1)(a:Int):Fp:=
 (slices_Index_int b a).bind fun c=>
 some (decide (0<=c))
def slices_Reverse_int(l:D1):Option D1:=if l.length<=Bi then some l.reverse else none
def Gm[Ev](t:AB)(a:Int):Option D1:=
 hV (Dy (ρ:=D1) (fun(s0:Int×D1)=>
 if (0<=s0.1:Bool)then
 (Aj s0.2 [s0.1]).bind fun b=>
 (idx t.ci s0.1).bind fun c=>
 some (.next (c.ru,b))
 else
 some (.brk (s0.1,s0.2))) (a,[])) (fun s0=>
 (slices_Reverse_int s0.2).bind some) some
def Fu[Ev](t:AB)(a:Int)(b:Int):Fp:=
 (Gm t a).bind fun d=>
 (slices_Contains_int d b).bind some
def Ei[Ev](t:AB)(a:Int)(b:Int)(c:Int):Fp:=
 (DY t [b,c]).bind fun d=>
 if (((!d=0)||a<0)||(t.d6.length:Int)<=a)then
 some false
 else
 (idx t.d6 a).bind fun e=>
 (Fu t b e.qx).bind fun f=>
 (if f then((idx t.d6 a).bind fun g=>
 (Fu t c g.To).bind some)else some false).bind some
def Cx[Ev](t:AB)(a:AL):Option (Int×Int):=
 (B5 t).bind fun c=>
 if (!c.2=0)then
 some ((-1),c.2)
 else
 (CG a.d3).bind fun d=>
 if (!d=0)then
 some ((-1),d)
 else
 if (!(a.hT.length:Int)=(a.d3.ci.length:Int))then
 some ((-1),20)
 else
 hV (pq (ρ:=(Int×Int)) (fun i0 _=>
 (idx a.d3.ci i0).bind fun f=>
 (idx a.hT i0).bind fun g=>
 (GJ t f g).bind fun e=>
 if (!e=0)then
 some (.ret (i0,e))
 else
 some (.next ())) 0 (a.d3.ci.length:Int) ()) (fun _=>
 hV (pq (ρ:=(Int×Int)) (fun i2 _=>
 (idx a.d3.d6 i2).bind fun b=>
 if ((t.d6.length:Int)<=b.qz:Bool)then
 some (.ret (i2,6))
 else
 (idx a.d3.ci b.qx).bind fun h=>
 (idx a.d3.ci b.To).bind fun i=>
 (Ei t b.qz h i).bind fun j=>
 if (!j)then
 some (.ret (i2,13))
 else
 some (.next ())) 0 (a.d3.d6.length:Int) ()) (fun _=>
 some ((-1),0)) some) some
def Hx(n:Int)(a:AB):Fp:=
 some (decide ((a.ci.length:Int)<=n))
def Hy(a:Bv)(b:AB):Fp:=
 some (decide ((b.d6.length:Int)<=a.qz))
def Cn(n:Int)(b:Int)(a:Int):Fp:=
 some (b<=n&&n<=a)
def Eo[Ev](t:AB)(p:ff)(a:CT):Option (o3×Bool):=
 (Cn a.rD 0 (AT ((p.d3.ci.length:Int)-1))).bind fun c=>
 if (!c)then
 some (o3.mk (⟨#[]⟩:ByteArray) 0 0 [],false)
 else
 (idx p.d3.ci a.rD).bind fun d=>
 (Cv t d).bind fun b=>
 (Cn a.o3 0 (AT ((b.1.length:Int)-1))).bind fun e=>
 if (!e)then
 some (o3.mk (⟨#[]⟩:ByteArray) 0 0 [],false)
 else
 (idx b.1 a.o3).bind fun f=>
 some (f,true)
def HF(n:Int)(t:qp):Fp:=
 some ((((-1)<=t.Var&&t.Var<n)&&(-1000000)<=t.Add)&&t.Add<=1000000)
def JP(n:Int)(a:Test):K1:=
 if ((!a.qh=1)&&(!a.qh=2))then
 some 1
 else
 (HF n a.ql).bind fun b=>
 (if(!b)then some true else((HF n a.j4).bind fun c=>
 some (!c))).bind fun d=>
 if d then
 some 6
 else
 some 0
def IK(n:Int)(l:List Test):K1:=
 if (n<0||12<n)then
 some 6
 else
 if (40<(l.length:Int):Bool)then
 some 3
 else
 hV (pq (ρ:=Int) (fun i0 _=>
 (idx l i0).bind fun b=>
 (JP n b).bind fun a=>
 if (!a=0)then
 some (.ret a)
 else
 some (.next ())) 0 (l.length:Int) ()) (fun _=>
 some 0) some
def H2(a:Ne)(c:Bool):K1:=
 hV (pq (ρ:=Int) (fun i0 _=>
 (idx a i0).bind fun b=>
 if (c==b)then
 some (.ret i0)
 else
 some (.next ())) 0 (a.length:Int) ()) (fun _=>
 some (-1)) some
def Gh(b:Ne)(a:Bool):Fp:=
 (H2 b a).bind fun c=>
 some (decide (0<=c))
def Ce[Ev](t:AB)(p:ff):K1:=
 (B5 t).bind fun c=>
 if (!c.2=0)then
 some c.2
 else
 (CG p.d3).bind fun d=>
 if (!d=0)then
 some d
 else
 (Ag p.d3.ci (fun y0=>Hx y0 t)).bind fun f=>
 (if f then some true else((BM p.d3.d6 (fun y0=>Hy y0 t)).bind some)).bind fun h=>
 if h then
 some 13
 else
 (Cn p.k8 0 12).bind fun i=>
 if (!i)then
 some 6
 else
 if (10<(p.pr.length:Int)||10<(p.ri.length:Int))then
 some 3
 else
 (Mr p.k8 false).bind fun j=>
 hV (pq (ρ:=Int) (fun i0(s0:Ne)=>
 (idx p.pr i0).bind fun a=>
 (Eo t p a).bind fun k=>
 (if(!k.2)then some true else((Cn a.qp.Var (-1) (AT (p.k8-1))).bind fun l=>
 some (!l))).bind fun m=>
 (if m then some true else((Cn a.qp.Add (-1000000) 1000000).bind fun n=>
 some (!n))).bind fun o=>
 if o then
 some (.ret 6)
 else
 if (0<=a.qp.Var:Bool)then
 (idx s0 a.qp.Var).bind fun q=>
 some (.next (CI s0 a.qp.Var true))
 else
 some (.next s0)) 0 (p.pr.length:Int) j) (fun s0=>
 (IK p.k8 p.ri).bind fun b=>
 if (!b=0)then
 some b
 else
 (Gh s0 false).bind fun e=>
 if e then
 some 9
 else
 some 0) some
def Ku(n:Int)(a:AB):Fp:=
 some (decide ((a.ci.length:Int)<=n))
def Kv(a:Bv)(b:AB):Fp:=
 some (decide ((b.d6.length:Int)<=a.qz))
def Hn[Ev](t:AB)(g:d3):Fp:=
 (Ag g.ci (fun y0=>Ku y0 t)).bind fun c=>
 (if(!c)then((BM g.d6 (fun y0=>Kv y0 t)).bind fun a=>
 some (!a))else some false).bind some
def Cl[Ev](a:List CT)(f:CT->Fp):K1:=
 hV (pq (ρ:=Int) (fun i0 _=>
 (idx a i0).bind fun b=>
 (f b).bind fun c=>
 if c then
 some (.ret i0)
 else
 some (.next ())) 0 (a.length:Int) ()) (fun _=>
 some (-1)) some
def B2[Ev](a:List CT)(f:CT->Fp):Fp:=
 (Cl a f).bind fun b=>
 some (decide (0<=b))
def LV(y:CT)(a:CT):Fp:=
 some (y.rD=a.rD&&y.o3=a.o3)
def IV[Ev](t:AB)(b:jj)(c:Int):K1:=
 (idx b.j4.pr c).bind fun a=>
 if (a.rD<0||(b.j4.d3.ci.length:Int)<=a.rD)then
 some 6
 else
 (idx b.j4.d3.ci a.rD).bind fun d=>
 (Cv t d).bind fun e=>
 if (((((a.o3<0||(e.1.length:Int)<=a.o3)||a.qp.Var<(-1))||b.j4.k8<=a.qp.Var)||a.qp.Add<(-1000000))||1000000<a.qp.Add)then
 some 6
 else
 (sM b.j4.pr 0 c).bind fun f=>
 (B2 f (fun y0=>LV y0 a)).bind fun g=>
 if g then
 some 5
 else
 some 0
def Hm[Ev](t:AB)(a:jj):K1:=
 (CG a.j4.d3).bind fun b=>
 if (!b=0)then
 some b
 else
 (Hn t a.j4.d3).bind fun d=>
 if (!d)then
 some 13
 else
 if ((!a.j4.k8=a.ql.k8)||0<(a.j4.ri.length:Int))then
 some 1
 else
 if (10<(a.j4.pr.length:Int):Bool)then
 some 3
 else
 hV (pq (ρ:=Int) (fun i1 _=>
 (IV t a i1).bind fun c=>
 if (!c=0)then
 some (.ret c)
 else
 some (.next ())) 0 (a.j4.pr.length:Int) ()) (fun _=>
 some 0) some
def IH(l:D1)(n:Int):K1:=
 hV (pq (ρ:=Int) (fun i0 _=>
 (idx l i0).bind fun a=>
 if (a<0||n<=a)then
 some (.ret 6)
 else
 (if(0<i0:Bool)then((idx l (AT (i0-1))).bind fun b=>
 some (decide (a<=b)))else some false).bind fun c=>
 if c then
 some (.ret 12)
 else
 some (.next ())) 0 (l.length:Int) ()) (fun _=>
 some 0) some
def slices_BinarySearch_int(l:D1)(x:Int):Option (Int×Bool):=if l.length<=Bi/\l.Pairwise (·<=·)then some ((l.countP (·<x):Nat),l.contains x)else none
def JB(l:D1)(n:Int):Fp:=
 (slices_BinarySearch_int l n).bind fun a=>
 some a.2
def KJ(g:d3)(p:B3):K1:=
 (IH p.ci (g.ci.length:Int)).bind fun a=>
 if (!a=0)then
 some a
 else
 (IH p.d6 (g.d6.length:Int)).bind fun b=>
 if (!b=0)then
 some b
 else
 hV (pq (ρ:=Int) (fun i0 _=>
 (idx p.d6 i0).bind fun c=>
 (idx g.d6 c).bind fun d=>
 (JB p.ci d.qx).bind fun e=>
 (if(!e)then some true else((idx g.d6 c).bind fun f=>
 (JB p.ci f.To).bind fun h=>
 some (!h))).bind fun i=>
 if i then
 some (.ret 14)
 else
 some (.next ())) 0 (p.d6.length:Int) ()) (fun _=>
 some 0) some
def D7[Ev](g:d3)(p:B3):K1:=
 (CG g).bind fun b=>
 if (!b=0)then
 some b
 else
 (KJ g p).bind some
def D6[Ev](g:d3)(p:B3):Option (d3×ec×Int):=
 (D7 g p).bind fun b=>
 if (!b=0)then
 some (d3.mk [] [],ec.mk [] [],b)
 else
 (rl (fun i0(s0:d3)=>
 (idx p.ci i0).bind fun c=>
 (idx g.ci c).bind fun d=>
 (Aj s0.ci [d]).bind fun e=>
 some (d3.mk e s0.d6)) 0 (p.ci.length:Int) (d3.mk [] [])).bind fun s0=>
 (rl (fun i2(s2:d3)=>
 (idx p.d6 i2).bind fun f=>
 (idx g.d6 f).bind fun a=>
 (slices_BinarySearch_int p.ci a.qx).bind fun h=>
 (slices_BinarySearch_int p.ci a.To).bind fun i=>
 (Aj s2.d6 [Bv.mk a.qz h.1 i.1]).bind fun j=>
 some (d3.mk s2.ci j)) 0 (p.d6.length:Int) s0).bind fun s2=>
 (slices_Clone_int p.ci).bind fun k=>
 (slices_Clone_int p.d6).bind fun l=>
 some (s2,ec.mk k l,0)
def Cz[Ev](a:d3)(b:d3)(m:ec):K1:=
 (CG a).bind fun g=>
 if (!g=0)then
 some g
 else
 (CG b).bind fun h=>
 if (!h=0)then
 some h
 else
 if ((!(m.ci.length:Int)=(a.ci.length:Int))||(!(m.d6.length:Int)=(a.d6.length:Int)))then
 some 20
 else
 hV (pq (ρ:=Int) (fun i0 _=>
 (idx m.ci i0).bind fun c=>
 if (c<0||(b.ci.length:Int)<=c)then
 some (.ret 6)
 else
 (idx b.ci c).bind fun l=>
 (idx a.ci i0).bind fun n=>
 if (!l=n)then
 some (.ret 13)
 else
 some (.next ())) 0 (m.ci.length:Int) ()) (fun _=>
 hV (pq (ρ:=Int) (fun i2 _=>
 (idx m.d6 i2).bind fun d=>
 if (d<0||(b.d6.length:Int)<=d)then
 some (.ret 6)
 else
 (idx a.d6 i2).bind fun e=>
 (idx b.d6 d).bind fun f=>
 if (!e.qz=f.qz)then
 some (.ret 13)
 else
 (idx m.ci e.qx).bind fun i=>
 (if(!i=f.qx)then some true else((idx m.ci e.To).bind fun j=>
 some (!j=f.To))).bind fun k=>
 if k then
 some (.ret 11)
 else
 some (.next ())) 0 (m.d6.length:Int) ()) (fun _=>
 some 0) some) some
def slices_Sort_int(l:D1):Option D1:=if l.length<=Bi then some (OP l)else none
def slices_Compact_int(l:D1):Option D1:=if l.length<=Bi then some (Go.Lib.compact l)else none
def HP(l:D1):K1:=
 (slices_Clone_int l).bind fun a=>
 (slices_Sort_int a).bind fun b=>
 (slices_Compact_int b).bind fun c=>
 some (c.length:Int)
def Cr[Ev](a:d3)(b:d3)(m:ec):Fp:=
 (Cz a b m).bind fun c=>
 (if(c=0:Bool)then((HP m.ci).bind fun d=>
 some (decide (d=(m.ci.length:Int))))else some false).bind fun e=>
 (if e then((HP m.d6).bind fun f=>
 some (decide (f=(m.d6.length:Int))))else some false).bind some
def IU[Ev](a:jj):K1:=
 (D6 a.ql.d3 a.rN).bind fun b=>
 if (!b.2.2=0)then
 some b.2.2
 else
 (Cz b.1 a.j4.d3 a.rA).bind fun c=>
 if (!c=0)then
 some c
 else
 (Cr b.1 a.j4.d3 a.rA).bind fun d=>
 if (!d)then
 some 11
 else
 some 0
def Ju(l:D1)(n:Int):Option D1:=
 (rl (fun i0(s0:D1)=>
 (slices_Contains_int l i0).bind fun a=>
 if (!a)then
 (Aj s0 [i0]).bind some
 else
 some s0) 0 n []).bind some
def Kt(a:jj):Option (D1×D1):=
 (Ju a.rA.ci (a.j4.d3.ci.length:Int)).bind fun b=>
 (Ju a.rA.d6 (a.j4.d3.d6.length:Int)).bind fun c=>
 some (b,c)
def JY(c:Int)(d:AB)(e:d3):Fp:=
 (idx e.ci c).bind fun a=>
 (idx d.ci a).bind fun b=>
 some b.se
def Er[Ev](f:Int)(e:d3)(g:AB):Fp:=
 (idx e.d6 f).bind fun a=>
 (idx e.ci a.qx).bind fun b=>
 (idx e.ci a.To).bind fun c=>
 (Ei g a.qz b c).bind fun d=>
 some (!d)
def GD[Ev](t:AB)(g:d3)(b:D1)(a:D1):Fp:=
 (Ag b (fun y0=>JY y0 t g)).bind fun c=>
 (if(!c)then((Ag a (fun y0=>Er y0 g t)).bind fun d=>
 some (!d))else some false).bind some
def Ep(c:fd):Fp:=
 some ((AT ((AT ((AT ((AT ((AT ((c.Map.ci.length:Int)+(c.Map.d6.length:Int)))+(c.ff.d3.ci.length:Int)))+(c.ff.d3.d6.length:Int)))+(c.ff.pr.length:Int)))+(c.ff.ri.length:Int)))=0&&c.ff.k8=0)
def B8[Ev](a:List fd)(f:fd->Fp):K1:=
 hV (pq (ρ:=Int) (fun i0 _=>
 (idx a i0).bind fun b=>
 (f b).bind fun c=>
 if c then
 some (.ret i0)
 else
 some (.next ())) 0 (a.length:Int) ()) (fun _=>
 some (-1)) some
def Bt[Ev](a:List fd)(f:fd->Fp):Fp:=
 (B8 a f).bind fun b=>
 some (decide (0<=b))
mutual
def BI[Ev]:Nat->fd->Fp
 |0,_=>none|n+1,c=>
  (if(c.qh=1:Bool)then
  (if((c.qt.length:Int)=0:Bool)then((Ep c).bind some)else some false).bind some
  else
  if (c.qh=2:Bool)then
  (if((c.qt.length:Int)=1:Bool)then((Ep c).bind some)else some false).bind some
  else
  if (c.qh=3:Bool)then
  if (c.qh=3:Bool)then
  (if(1<=(c.qt.length:Int):Bool)then((Ep c).bind some)else some false).bind some
  else
  if (c.qh=5:Bool)then
  some (decide ((c.qt.length:Int)=1))
  else
  some false
  else
  if (c.qh=4:Bool)then
  (if(1<=(c.qt.length:Int):Bool)then((Ep c).bind some)else some false).bind some
  else
  if (c.qh=5:Bool)then
  some (decide ((c.qt.length:Int)=1))
  else
  some false).bind fun w1=>
  (if w1 then((Bt c.qt (BP n)).bind fun h=>
  some (!h))else some false).bind some
def BP[Ev]:Nat->fd->Fp
 |0,_=>none|n+1,k=>
  (BI n k).bind fun a=>
  some (!a)
end
def Ed[Ev](c:fd):Fp:=LG fun n=>BI n c
def LR[Ev](k:fd):Fp:=LG fun n=>BP n k
def CA[Ev]:Nat->fd->Option (Int×Int)
 |0,_=>none|n+1,c=>
  (rl (fun i0(s0:Int×Int)=>
  (idx c.qt i0).bind fun b=>
  (CA n b).bind fun a=>
  some (AT (s0.1+a.1),max s0.2 a.2)) 0 (c.qt.length:Int) (1,0)).bind fun s0=>
  (if(c.qh=5:Bool)then
  some (AT (s0.2+1))
  else
  some s0.2).bind fun w1=>
  some (s0.1,w1)
def Fv[Ev](c:fd):Option (Int×Int):=LG fun n=>CA n c
def EN[Ev](c:fd):K1:=
 (Ed c).bind fun b=>
 if (!b)then
 some 1
 else
 (Fv c).bind fun a=>
 if (12<a.1||3<a.2)then
 some 3
 else
 some 0
def G7(a:CT)(b:Int):Fp:=
 some (decide (a.qp.Var=b))
def Dl[Ev](t:AB)(q:ff)(b:Int):K1:=
 (Ce t q).bind fun a=>
 if (!a=9)then
 some a
 else
 hV (Dy (ρ:=Int) (fun(s0:Int)=>
 if (s0<q.k8:Bool)then
 (B2 q.pr (fun y0=>G7 y0 s0)).bind fun c=>
 if (!c)then
 some (.ret a)
 else
 some (.next (AT (s0+1)))
 else
 some (.brk s0)) b) (fun s0=>
 some 0) some
def B4[Ev]:Nat->AB->ff->fd->K1
 |0,_,_,_=>none|n+1,t,p,c=>
  if (c.qh=5:Bool)then
  if (c.ff.k8<p.k8:Bool)then
  some 20
  else
  (Dl t c.ff p.k8).bind fun d=>
  if (!d=0)then
  some d
  else
  (Cz p.d3 c.ff.d3 c.Map).bind fun e=>
  if (!e=0)then
  some e
  else
  (Cr p.d3 c.ff.d3 c.Map).bind fun f=>
  if (!f)then
  some 1
  else
  hV (pq (ρ:=Int) (fun i0 _=>
  (idx c.qt i0).bind fun b=>
  (B4 n t c.ff b).bind fun a=>
  if (!a=0)then
  some (.ret a)
  else
  some (.next ())) 0 (c.qt.length:Int) ()) (fun _=>
  some 0) some
  else
  hV (pq (ρ:=Int) (fun i0 _=>
  (idx c.qt i0).bind fun b=>
  (B4 n t p b).bind fun a=>
  if (!a=0)then
  some (.ret a)
  else
  some (.next ())) 0 (c.qt.length:Int) ()) (fun _=>
  some 0) some
def GT[Ev](t:AB)(p:ff)(c:fd):K1:=LG fun n=>B4 n t p c
def Dg[Ev](t:AB)(p:ff)(c:fd):K1:=
 (Ce t p).bind fun a=>
 if (!a=0)then
 some a
 else
 (EN c).bind fun b=>
 if (!b=0)then
 some b
 else
 (GT t p c).bind some
def Gf[Ev](t:AB)(a:jj):K1:=
 (B5 t).bind fun b=>
 if (!b.2=0)then
 some b.2
 else
 (CY a.og).bind fun g=>
 if (!g)then
 some 2
 else
 (Ce t a.ql).bind fun c=>
 if (!c=0)then
 some c
 else
 (Hm t a).bind fun d=>
 if (!d=0)then
 some d
 else
 (IU a).bind fun e=>
 if (!e=0)then
 some e
 else
 (Kt a).bind fun f=>
 (GD t a.j4.d3 f.1 f.2).bind fun h=>
 if (!h)then
 some 13
 else
 (Dg t a.ql a.fd).bind some
def DI[Ev](t:AB)(a:List jj)(f:AL):K1:=
 (B5 t).bind fun b=>
 if (!b.2=0)then
 some b.2
 else
 if (10<(a.length:Int):Bool)then
 some 3
 else
 hV (pq (ρ:=Int) (fun i0 _=>
 (idx a i0).bind fun d=>
 (Gf t d).bind fun c=>
 if (!c=0)then
 some (.ret c)
 else
 some (.next ())) 0 (a.length:Int) ()) (fun _=>
 (Cx t f).bind fun e=>
 some e.2) some
def Gk[Ev](t:AB)(e:jj)(d:AL):K1:=
 (B5 t).bind fun a=>
 if (!a.2=0)then
 some a.2
 else
 (Gf t e).bind fun b=>
 if (!b=0)then
 some b
 else
 (Cx t d).bind fun c=>
 some c.2
def De[Ev](t:AB)(p:ff)(c:AL):K1:=
 (Ce t p).bind fun a=>
 if (!a=0)then
 some a
 else
 (Cx t c).bind fun b=>
 some b.2
def I7(n:Int)(a:AB):Fp:=
 some (decide ((a.ci.length:Int)<=n))
def I8(a:Bv)(b:AB):Fp:=
 some (decide ((b.d6.length:Int)<=a.qz))
def EY[Ev](t:AB)(g:d3):Fp:=
 (Ag g.ci (fun y0=>I7 y0 t)).bind fun c=>
 (if(!c)then((BM g.d6 (fun y0=>I8 y0 t)).bind fun a=>
 some (!a))else some false).bind some
def Di[Ev](t:AB)(p:d3)(g:d3):K1:=
 (B5 t).bind fun a=>
 if (!a.2=0)then
 some a.2
 else
 hV (pq (ρ:=Int) (fun i0 _=>
 (idx [p,g] i0).bind fun c=>
 (CG c).bind fun b=>
 if (!b=0)then
 some (.ret b)
 else
 some (.next ())) 0 ([p,g].length:Int) ()) (fun _=>
 (EY t p).bind fun d=>
 (if(!d)then some true else((EY t g).bind fun e=>
 some (!e))).bind fun f=>
 if f then
 some 13
 else
 some 0) some
def G5[Ev](t:AB)(a:Int):Option (D1×Int):=
 (DY t [a]).bind fun b=>
 if (!b=0)then
 some ([],b)
 else
 (rl (fun i0(s0:D1)=>
 (Fu t i0 a).bind fun c=>
 if c then
 (Aj s0 [i0]).bind some
 else
 some s0) 0 (t.ci.length:Int) []).bind fun s0=>
 some (s0,0)
def E5[Ev](t:AB):Option (List Ne):=
 (rl (fun i0(s0:List Ne)=>
 (Mr (t.ci.length:Int) false).bind fun c=>
 (G5 t i0).bind fun a=>
 (rl (fun i2(s2:Ne)=>
 (idx a.1 i2).bind fun b=>
 (idx s2 b).bind fun e=>
 some (CI s2 b true)) 0 (a.1.length:Int) c).bind fun s2=>
 (Aj s0 [s2]).bind some) 0 (t.ci.length:Int) []).bind some
def Kw(l:Option D1)(i:Int):K1:=match l with
 |none=>some (-1)|some l=>(Uv l).bind fun _=>(idx l i).bind some
def EL(f:AU)(c:Int)(k:Int):Fp:=
 (idx f.p.d6 c).bind fun a=>
 (Kw f.qf.d6 c).bind fun b=>
 if (0<=b&&(!b=k))then
 some false
 else
 (idx f.g.d6 k).bind fun d=>
 (idx f.k7 a.qx).bind fun e=>
 (idx f.k7 a.To).bind fun h=>
 some (decide (d=(Bv.mk a.qz e h)))
def Ec(f:AU):Fp:=
 hV (pq (ρ:=Bool) (fun i0 _=>
 (idx f.p.d6 i0).bind fun a=>
 if (!(max a.qx a.To)=(AT ((f.k7.length:Int)-1)))then
 some (.next ())
 else
 hV (pq (ρ:=Bool) (fun i2(s2:Bool)=>
 (EL f i0 i2).bind fun b=>
 if b then
 some (.brk true)
 else
 some (.next s2)) 0 (f.g.d6.length:Int) false) (fun s2=>
 if (!s2)then
 some (.ret false)
 else
 some (.next ())) (fun v2=>some (.ret v2))) 0 (f.p.d6.length:Int) ()) (fun _=>
 some true) some
def BT[Ev]:Nat->AU->Option AU
 |0,_=>none|n+1,f=>
  (if((f.out.length:Int)=f.qn:Bool)then
  some f
  else
  if ((f.k7.length:Int)<(f.p.ci.length:Int):Bool)then
  (rl (fun i1(s1:AU)=>
  (idx f.g.ci i1).bind fun u=>
  (Kw s1.qf.ci (f.k7.length:Int)).bind fun e=>
  (if(0<=e&&(!e=i1))then some true else((idx s1.p.ci (f.k7.length:Int)).bind fun v=>
  (idx s1.is v).bind fun w=>
  (idx w u).bind fun x=>
  some (!x))).bind fun h=>
  (if h then some true else((if s1.j0 then((slices_Contains_int s1.k7 i1).bind some)else some false).bind some)).bind fun k=>
  if k then
  some s1
  else
  (Aj s1.k7 [i1]).bind fun c=>
  (Ec (AU.mk s1.p s1.g s1.is s1.qf s1.j0 s1.qn c s1.qr s1.out)).bind fun l=>
  if l then
  (BT n (AU.mk s1.p s1.g s1.is s1.qf s1.j0 s1.qn c s1.qr s1.out)).bind fun a=>
  (sM a.k7 0 (f.k7.length:Int)).bind fun d=>
  some (AU.mk a.p a.g a.is a.qf a.j0 a.qn d a.qr a.out)
  else
  (sM c 0 (f.k7.length:Int)).bind fun d=>
  some (AU.mk s1.p s1.g s1.is s1.qf s1.j0 s1.qn d s1.qr s1.out)) 0 (f.g.ci.length:Int) f).bind some
  else
  if ((f.qr.length:Int)<(f.p.d6.length:Int):Bool)then
  (rl (fun i3(s3:AU)=>
  (EL s3 (f.qr.length:Int) i3).bind fun m=>
  (if(!m)then some true else((if s3.j0 then((slices_Contains_int s3.qr i3).bind some)else some false).bind some)).bind fun r=>
  if r then
  some s3
  else
  (Aj s3.qr [i3]).bind fun s=>
  (BT n (AU.mk s3.p s3.g s3.is s3.qf s3.j0 s3.qn s3.k7 s s3.out)).bind fun b=>
  (sM b.qr 0 (f.qr.length:Int)).bind fun t=>
  some (AU.mk b.p b.g b.is b.qf b.j0 b.qn b.k7 t b.out)) 0 (f.g.d6.length:Int) f).bind some
  else
  (slices_Clone_int f.k7).bind fun y=>
  (slices_Clone_int f.qr).bind fun z=>
  (Aj f.out [ec.mk y z]).bind fun A=>
  some (AU.mk f.p f.g f.is f.qf f.j0 f.qn f.k7 f.qr A)).bind some
def EK[Ev](f:AU):Option AU:=LG fun n=>BT n f
def GE[Ev](t:AB)(p:d3)(g:d3)(b:JM)(a:Bool)(c:Int):Option (List ec):=
 (E5 t).bind fun d=>
 (EK (AU.mk p g d b a c [] [] [])).bind fun e=>
 some e.out
def Gg[Ev](t:AB)(p:d3)(g:d3)(b:JM)(a:Bool):Option (List ec×Int):=
 (GE t p g b a 5001).bind fun c=>
 if (5000<(c.length:Int):Bool)then
 some ([],3)
 else
 some (c,0)
def Ho[Ev](t:AB)(p:d3)(g:d3)(a:Bool):Option (List ec×Int):=
 (Di t p g).bind fun b=>
 if (!b=0)then
 some ([],b)
 else
 (Gg t p g (JM.mk none none) a).bind fun c=>
 some (c.1,c.2)
def FO(a:qp)(c:D1):K1:=
 if (a.Var<0:Bool)then
 some a.Add
 else
 (idx c a.Var).bind fun b=>
 some (AT (b+a.Add))
def HO(a b c:Int):Option (Int×Int):=if(0<=a/\a<18446744073709551616)/\(0<=b/\b<18446744073709551616)/\0<=c/\c<=1 then some ((a+b+c) % 18446744073709551616,(a+b+c) / 18446744073709551616)else none
def HH(a:Int)(b:Int):Option (Int×Int):=
 (HO (IntKind.u64.wrap a) (IntKind.u64.wrap b) 0).bind fun c=>
 (J2 .i64 .shr a 63).bind fun d=>
 (J2 .i64 .shr b 63).bind fun e=>
 some (AT ((AT (d+e))+(AT c.2)),c.1)
def FP(t:qp)(d:D1):Option (Int×Int×Bool):=
 if (t.Var=(-1):Bool)then
 (HH 0 t.Add).bind fun a=>
 some (a.1,a.2,true)
 else
 if (t.Var<0||(d.length:Int)<=t.Var)then
 some (0,0,false)
 else
 (idx d t.Var).bind fun c=>
 (HH c t.Add).bind fun b=>
 some (b.1,b.2,true)
def L9(a:D1):K1:=
 hV (pq (ρ:=Int) (fun i0 _=>
 (idx a i0).bind fun b=>
 if (!b=0)then
 some (.ret b)
 else
 some (.next ())) 0 (a.length:Int) ()) (fun _=>
 some 0) some
def cmp_isNaN_int(a:Int):Fp:=
 some (!a=a)
def cmp_Compare_int(a:Int)(y:Int):K1:=
 (cmp_isNaN_int a).bind fun c=>
 (cmp_isNaN_int y).bind fun b=>
 if c then
 if b then
 some 0
 else
 some (-1)
 else
 if b then
 some 1
 else
 if (a<y:Bool)then
 some (-1)
 else
 if (y<a:Bool)then
 some 1
 else
 some 0
def GQ(a:Int):Fp:=
 some (!a=a)
def HU(a:Int)(y:Int):K1:=
 (GQ a).bind fun c=>
 (GQ y).bind fun b=>
 if c then
 if b then
 some 0
 else
 some (-1)
 else
 if b then
 some 1
 else
 if (a<y:Bool)then
 some (-1)
 else
 if (y<a:Bool)then
 some 1
 else
 some 0
def GW(a:Test)(g:D1):Fp:=
 (FP a.ql g).bind fun b=>
 (FP a.j4 g).bind fun c=>
 if ((!b.2.2)||(!c.2.2))then
 some false
 else
 (cmp_Compare_int b.1 c.1).bind fun e=>
 (HU b.2.1 c.2.1).bind fun f=>
 (L9 [e,f]).bind fun d=>
 some (a.qh=1&&d<=0||(a.qh=2&&d=0))
def HD(p:ff)(l:AL)(m:ec):Option (D1×Int):=
 (Mr p.k8 0).bind fun d=>
 (Mr p.k8 false).bind fun e=>
 hV (pq (ρ:=(D1×Int)) (fun i0(s0:D1×Ne)=>
 (idx p.pr i0).bind fun a=>
 (idx m.ci a.rD).bind fun f=>
 (idx l.hT f).bind fun g=>
 (idx g a.o3).bind fun b=>
 (if(0<=a.qp.Var:Bool)then((idx s0.2 a.qp.Var).bind fun h=>
 some (!h))else some false).bind fun i=>
 if i then
 (idx s0.1 a.qp.Var).bind fun n=>
 (idx s0.2 a.qp.Var).bind fun o=>
 (FO a.qp (CI s0.1 a.qp.Var (AT (b-a.qp.Add)))).bind fun c=>
 if (!c=b)then
 some (.ret ([],11))
 else
 some (.next (CI s0.1 a.qp.Var (AT (b-a.qp.Add)),CI s0.2 a.qp.Var true))
 else
 (FO a.qp s0.1).bind fun c=>
 if (!c=b)then
 some (.ret ([],11))
 else
 some (.next (s0.1,s0.2))) 0 (p.pr.length:Int) (d,e)) (fun s0=>
 hV (pq (ρ:=(D1×Int)) (fun i2 _=>
 (idx p.ri i2).bind fun j=>
 (GW j s0.1).bind fun k=>
 if (!k)then
 some (.ret ([],16))
 else
 some (.next ())) 0 (p.ri.length:Int) ()) (fun _=>
 some (s0.1,0)) some) some
def Dj[Ev](t:AB)(p:ff)(c:AL)(a:Bool):Option (List AR×Int):=
 (De t p c).bind fun d=>
 if (!d=0)then
 some ([],d)
 else
 (Ho t p.d3 c.d3 a).bind fun b=>
 if (!b.2=0)then
 some ([],b.2)
 else
 (rl (fun i0(s0:List AR)=>
 (idx b.1 i0).bind fun e=>
 (HD p c e).bind fun f=>
 if (f.2=0:Bool)then
 (Aj s0 [AR.mk e f.1]).bind some
 else
 some s0) 0 (b.1.length:Int) []).bind fun s0=>
 some (s0,0)
def slices_Equal_int(a:D1)(b:D1):Fp:=
 if (!(a.length:Int)=(b.length:Int))then
 some false
 else
 hV (pq (ρ:=Bool) (fun i0 _=>
 (idx a i0).bind fun c=>
 (idx b i0).bind fun d=>
 if (!c=d)then
 some (.ret false)
 else
 some (.next ())) 0 (a.length:Int) ()) (fun _=>
 some true) some
def E6[Ev](t:AB)(p:d3)(g:d3)(m:ec):K1:=
 if ((!(m.ci.length:Int)=(p.ci.length:Int))||(!(m.d6.length:Int)=(p.d6.length:Int)))then
 some 20
 else
 (E5 t).bind fun i=>
 hV (pq (ρ:=Int) (fun i0 _=>
 (idx m.ci i0).bind fun a=>
 if (a<0||(g.ci.length:Int)<=a)then
 some (.ret 6)
 else
 (idx p.ci i0).bind fun j=>
 (idx i j).bind fun k=>
 (idx g.ci a).bind fun l=>
 (idx k l).bind fun n=>
 if (!n)then
 some (.ret 13)
 else
 some (.next ())) 0 (m.ci.length:Int) ()) (fun _=>
 hV (pq (ρ:=Int) (fun i2 _=>
 (idx m.d6 i2).bind fun b=>
 if (b<0||(g.d6.length:Int)<=b)then
 some (.ret 6)
 else
 (idx p.d6 i2).bind fun c=>
 (idx g.d6 b).bind fun d=>
 if (!c.qz=d.qz)then
 some (.ret 13)
 else
 (idx m.ci c.qx).bind fun e=>
 (if(!e=d.qx)then some true else((idx m.ci c.To).bind fun f=>
 some (!f=d.To))).bind fun h=>
 if h then
 some (.ret 11)
 else
 some (.next ())) 0 (m.d6.length:Int) ()) (fun _=>
 some 0) some) some
def He(l:D1):Fp:=if l.length<=4096 then some (ua l)else none
def EJ[Ev](t:AB)(p:d3)(g:d3)(m:ec)(a:Bool):K1:=
 (Di t p g).bind fun b=>
 if (!b=0)then
 some b
 else
 (E6 t p g m).bind fun c=>
 if (!c=0)then
 some c
 else
 (if a then((He m.ci).bind fun d=>
 (if d then some true else((He m.d6).bind some)).bind some)else some false).bind fun h=>
 if h then
 some 5
 else
 some 0
def Dd[Ev](t:AB)(p:ff)(a:AL)(m:ec):Option (D1×Int):=
 (De t p a).bind fun b=>
 if (!b=0)then
 some ([],b)
 else
 (EJ t p.d3 a.d3 m false).bind fun c=>
 if (!c=0)then
 some ([],c)
 else
 (HD p a m).bind fun d=>
 some (d.1,d.2)
def GF[Ev](t:AB)(b:jj)(c:AL)(m:AR):K1:=
 (EJ t b.ql.d3 c.d3 m.ec b.rd).bind fun d=>
 if (!d=0)then
 some 1
 else
 (Dd t b.ql c m.ec).bind fun a=>
 if (!a.2=0)then
 some a.2
 else
 (slices_Equal_int a.1 m.k8).bind fun e=>
 if (!e)then
 some 11
 else
 some 0
def ET[Ev](t:AB)(p:d3)(g:d3)(m:ec):Option (d3×Int):=
 (Di t p g).bind fun a=>
 if (!a=0)then
 some (d3.mk [] [],a)
 else
 (E6 t p g m).bind fun b=>
 if (!b=0)then
 some (d3.mk [] [],b)
 else
 (Dq p.d6).bind fun c=>
 (rl (fun i0(s0:d3)=>
 (idx m.ci i0).bind fun d=>
 (idx g.ci d).bind fun e=>
 (Aj s0.ci [e]).bind fun f=>
 some (d3.mk f s0.d6)) 0 (m.ci.length:Int) (d3.mk [] c)).bind fun s0=>
 some (s0,0)
def CJ[Ev](a:BX):K1:=
 (Cz a.l a.g a.m).bind fun b=>
 if (!b=0)then
 some b
 else
 (D7 a.l a.kq).bind some
def GR(a:D1)(b:D1):Option (List L0):=
 (rl (fun i0(s0:List L0)=>
 (rl (fun i2(s2:List L0)=>
 (idx a i0).bind fun c=>
 (idx a i2).bind fun d=>
 (if(c=d:Bool)then((slices_Contains_int b i0).bind fun e=>
 (if(!e)then some true else((slices_Contains_int b i2).bind fun f=>
 some (!f))).bind some)else some false).bind fun h=>
 if h then
 (Aj s2 [L0.mk i0 i2]).bind some
 else
 some s2) (AT (i0+1)) (a.length:Int) s0).bind some) 0 (a.length:Int) []).bind some
def Db(a:BX):Option (List L0×List L0):=
 (GR a.m.ci a.kq.ci).bind fun b=>
 (GR a.m.d6 a.kq.d6).bind fun c=>
 some (b,c)
def EB(a:BX):Option D1:=
 (rl (fun i0(s0:D1)=>
 (idx a.m.ci i0).bind fun b=>
 (slices_Contains_int a.kq.ci i0).bind fun c=>
 if (!c)then
 (Aj s0 [b]).bind some
 else
 some s0) 0 (a.m.ci.length:Int) []).bind some
def Dz(a:BX):Option D1:=
 (EB a).bind fun j=>
 (rl (fun i0(s0:D1)=>
 (idx a.g.d6 i0).bind fun b=>
 (slices_Contains_int a.m.d6 i0).bind fun c=>
 (if(!c)then((slices_Contains_int j b.qx).bind fun d=>
 (if d then some true else((slices_Contains_int j b.To).bind some)).bind some)else some false).bind fun h=>
 if h then
 (Aj s0 [i0]).bind some
 else
 some s0) 0 (a.g.d6.length:Int) []).bind some
def HE(n:Int)(a:D1)(c:D1):Option D1:=
 (Mr n false).bind fun d=>
 (rl (fun i0(s0:Ne)=>
 (idx a i0).bind fun b=>
 (slices_Contains_int c i0).bind fun e=>
 if (!e)then
 (idx s0 b).bind fun h=>
 some (CI s0 b true)
 else
 some s0) 0 (a.length:Int) d).bind fun s0=>
 (rl (fun i2(s2:D1)=>
 (idx s0 i2).bind fun f=>
 if (!f)then
 (Aj s2 [i2]).bind some
 else
 some s2) 0 (s0.length:Int) []).bind some
def FJ[Ev](l:d3)(g:d3)(a:B3)(m:ec):Option (B3×Int):=
 (CJ (BX.mk l g a m)).bind fun b=>
 if (!b=0)then
 some (B3.mk [] [],b)
 else
 (Db (BX.mk l g a m)).bind fun c=>
 if (0<(AT ((c.1.length:Int)+(c.2.length:Int))):Bool)then
 some (B3.mk [] [],15)
 else
 (Dz (BX.mk l g a m)).bind fun d=>
 if (0<(d.length:Int):Bool)then
 some (B3.mk [] [],14)
 else
 (HE (g.ci.length:Int) m.ci a.ci).bind fun e=>
 (HE (g.d6.length:Int) m.d6 a.d6).bind fun f=>
 some (B3.mk e f,0)
def EM[Ev](t:AB)(p:ff)(c:fd)(d:AL)(m:AR)(a:Bool):K1:=
 (Dg t p c).bind fun e=>
 if (!e=0)then
 some e
 else
 (Cx t d).bind fun f=>
 if (!f.2=0)then
 some f.2
 else
 (EJ t p.d3 d.d3 m.ec a).bind fun g=>
 if (!g=0)then
 some g
 else
 (Dd t p d m.ec).bind fun b=>
 if (!b.2=0)then
 some b.2
 else
 (slices_Equal_int b.1 m.k8).bind fun h=>
 if (!h)then
 some 11
 else
 some 0
def EZ(l:D1)(n:Int):Option D1:=if l.length=1/\0<=n/\n<=4096 then some (List.replicate n.toNat (l.headD 0))else none
def GU(n:Int)(c:D1)(a:D1):Option D1:=
 (EZ [(-1)] n).bind fun d=>
 (rl (fun i0(s0:D1)=>
 (idx c i0).bind fun b=>
 (idx a i0).bind fun e=>
 (idx s0 b).bind fun f=>
 some (CI s0 b e)) 0 (c.length:Int) d).bind some
def KH(k:Int)(a:Int):Fp:=
 some (k<(-1)||a<=k)
def Ft[Ev](l:D1)(n:Int):K1:=
 (Ag l (fun y0=>KH y0 n)).bind fun a=>
 if a then
 some 6
 else
 some 0
def FL[Ev](t:AB)(p:d3)(g:d3)(a:ec)(b:Bool):Option (List ec×Int):=
 (Di t p g).bind fun c=>
 if (!c=0)then
 some ([],c)
 else
 if ((!(a.ci.length:Int)=(p.ci.length:Int))||(!(a.d6.length:Int)=(p.d6.length:Int)))then
 some ([],20)
 else
 (Ft a.ci (g.ci.length:Int)).bind fun d=>
 if (!d=0)then
 some ([],d)
 else
 (Ft a.d6 (g.d6.length:Int)).bind fun e=>
 if (!e=0)then
 some ([],e)
 else
 (Gg t p g a b).bind fun f=>
 some (f.1,f.2)
def F6(a:qp)(d:D1):Option (Int×Int):=
 (Cn a.Var (-1) (AT ((d.length:Int)-1))).bind fun b=>
 if (!b)then
 some (0,6)
 else
 (FO a d).bind fun c=>
 some (c,0)
def Et(p:Ar)(q:ff)(m:ec)(b:D1):Option (D1×Bool):=
 (slices_Clone_int b).bind fun g=>
 (Rw g (AT (q.k8-(b.length:Int))) 0).bind fun i=>
 (Mr q.k8 false).bind fun j=>
 (rl (fun i0(s0:Ne)=>
 (idx s0 i0).bind fun r=>
 some (CI s0 i0 true)) 0 (b.length:Int) j).bind fun s0=>
 hV (pq (ρ:=(D1×Bool)) (fun i2(s2:D1×Ne)=>
 (idx q.pr i2).bind fun a=>
 (idx m.ci a.rD).bind fun k=>
 (idx p.h.hT k).bind fun l=>
 (idx l a.o3).bind fun d=>
 (if(0<=a.qp.Var:Bool)then((idx s2.2 a.qp.Var).bind fun n=>
 some (!n))else some false).bind fun o=>
 if o then
 (idx s2.1 a.qp.Var).bind fun s=>
 (idx s2.2 a.qp.Var).bind fun t=>
 (F6 a.qp (CI s2.1 a.qp.Var (AT (d-a.qp.Add)))).bind fun c=>
 if ((!c.2=0)||(!c.1=d))then
 some (.ret ([],false))
 else
 some (.next (CI s2.1 a.qp.Var (AT (d-a.qp.Add)),CI s2.2 a.qp.Var true))
 else
 (F6 a.qp s2.1).bind fun c=>
 if ((!c.2=0)||(!c.1=d))then
 some (.ret ([],false))
 else
 some (.next (s2.1,s2.2))) 0 (q.pr.length:Int) (i,s0)) (fun s2=>
 hV (pq (ρ:=(D1×Bool)) (fun i4 _=>
 (idx q.ri i4).bind fun e=>
 (GW e s2.1).bind fun f=>
 if (!f)then
 some (.ret ([],false))
 else
 some (.next ())) 0 (q.ri.length:Int) ()) (fun _=>
 some (s2.1,true)) some) some
def Bx[Ev](b:Ar)(c:fd)(m:AR):Option (List AR×Int):=
 (GU (c.ff.d3.ci.length:Int) c.Map.ci m.ec.ci).bind fun f=>
 (GU (c.ff.d3.d6.length:Int) c.Map.d6 m.ec.d6).bind fun g=>
 (FL b.t c.ff.d3 b.h.d3 (ec.mk f g) b.j0).bind fun a=>
 if (!a.2=0)then
 some ([],a.2)
 else
 (rl (fun i0(s0:List AR)=>
 (idx a.1 i0).bind fun d=>
 (Et b c.ff d m.k8).bind fun e=>
 if e.2 then
 (Aj s0 [AR.mk d e.1]).bind some
 else
 some s0) 0 (a.1.length:Int) []).bind fun s0=>
 some (s0,0)
mutual
def Ao[Ev]:Nat->Ar->fd->AR->Option (Bh×Int)
 |0,_,_,_=>none|n+1,b,c,m=>
  if (c.qh=2:Bool)then
  (idx c.qt 0).bind fun g=>
  (Ao n b g m).bind fun e=>
  if (e.2=0:Bool)then
  some (FB,10)
  else
  if (e.2=10:Bool)then
  some (FB,0)
  else
  some (FB,e.2)
  else
  if (c.qh=3:Bool)then
  hV (pq (ρ:=(Bh×Int)) (fun i2(s2:Bh×Bh)=>
  (idx c.qt i2).bind fun h=>
  (Ao n b h m).bind fun f=>
  if (!f.2=0)then
  some (.ret (FB,f.2))
  else
  (Aj s2.2.qt [f.1]).bind fun i=>
  some (.next (s2.1,Bh.mk s2.2.sL s2.2.qj i))) 0 (c.qt.length:Int) (FB,FB)) (fun s2=>
  some (s2.2,0)) some
  else
  if (c.qh=4:Bool)then
  hV (pq (ρ:=(Bh×Int)) (fun i4(s4:Bh)=>
  (idx c.qt i4).bind fun j=>
  (Ao n b j m).bind fun a=>
  if (a.2=0:Bool)then
  some (.ret (Bh.mk i4 (AR.mk (ec.mk [] []) []) [a.1],0))
  else
  if (!a.2=10)then
  some (.ret (FB,a.2))
  else
  some (.next s4)) 0 (c.qt.length:Int) FB) (fun s4=>
  some (FB,10)) some
  else
  if (c.qh=5:Bool)then
  (BB n b c m).bind fun d=>
  some (d.1,d.2)
  else
  some (FB,0)
def BB[Ev]:Nat->Ar->fd->AR->Option (Bh×Int)
 |0,_,_,_=>none|n+1,e,c,m=>
  (Bx e c m).bind fun a=>
  if (!a.2=0)then
  some (FB,a.2)
  else
  hV (pq (ρ:=(Bh×Int)) (fun i0(s0:Bh)=>
  (idx a.1 i0).bind fun d=>
  (idx c.qt 0).bind fun f=>
  (Ao n e f d).bind fun b=>
  if (b.2=0:Bool)then
  some (.ret (Bh.mk 0 d [b.1],0))
  else
  if (!b.2=10)then
  some (.ret (FB,b.2))
  else
  some (.next s0)) 0 (a.1.length:Int) FB) (fun s0=>
  some (FB,10)) some
end
def DU[Ev](a:Ar)(c:fd)(m:AR):Option (Bh×Int):=LG fun n=>Ao n a c m
def KB[Ev](a:Ar)(c:fd)(m:AR):Option (Bh×Int):=LG fun n=>BB n a c m
def Dk[Ev](t:AB)(p:ff)(c:fd)(e:AL)(m:AR)(a:Bool):Option (Bh×Int):=
 (EM t p c e m a).bind fun b=>
 if (!b=0)then
 some (FB,b)
 else
 (DU (Ar.mk t e a) c m).bind fun d=>
 some (d.1,d.2)
def C6[Ev](t:AB)(p:ff)(c:fd)(d:AL)(m:AR)(a:Bool):Option (Bool×Int):=
 (Dk t p c d m a).bind fun b=>
 if (b.2=10:Bool)then
 some (false,0)
 else
 some (decide (b.2=0),b.2)
def Ja(m:AR):Option AR:=
 (slices_Clone_int m.ec.ci).bind fun c=>
 (slices_Clone_int m.ec.d6).bind fun a=>
 (slices_Clone_int m.k8).bind fun b=>
 some (AR.mk (ec.mk c a) b)
def KI(a:AL):Option AL:=
 (slices_Clone_int a.d3.ci).bind fun f=>
 (Dq a.d3.d6).bind fun b=>
 (rl (fun i0(s0:AL)=>
 (idx a.hT i0).bind fun c=>
 (Aj [] c).bind fun d=>
 (Aj s0.hT [d]).bind fun e=>
 some (AL.mk s0.d3 e)) 0 (a.hT.length:Int) (AL.mk (d3.mk f b) [])).bind some
def KY(n:Int)(l:D1):Option D1:=
 (Mr n 0).bind fun a=>
 (rl (fun i0(s0:D1)=>
 (slices_BinarySearch_int l i0).bind fun b=>
 if (!b.2)then
 (idx s0 i0).bind fun c=>
 some (CI s0 i0 (-1))
 else
 (idx s0 i0).bind fun c=>
 some (CI s0 i0 b.1)) 0 (a.length:Int) a).bind some
def JA(d:Int)(f:D1)(b:D1)(a:D1)(c:D1)(n:Int):Option D1:=
 (EZ [(-1)] d).bind fun g=>
 (rl (fun i0(s0:D1)=>
 (idx b i0).bind fun e=>
 (idx f i0).bind fun h=>
 (idx a h).bind fun i=>
 (idx c i).bind fun j=>
 (idx s0 e).bind fun l=>
 some (CI s0 e j)) 0 (b.length:Int) g).bind fun s0=>
 (rl (fun i2(s2:Int×D1)=>
 (idx s2.2 i2).bind fun k=>
 if (k<0:Bool)then
 (idx s2.2 i2).bind fun m=>
 some (AT (s2.1+1),CI s2.2 i2 s2.1)
 else
 some (s2.1,s2.2)) 0 (s0.length:Int) (n,s0)).bind fun s2=>
 some s2.2
def Hr[Ev](t:AB)(b:Int):Option D1:=
 (Cv t b).bind fun a=>
 (rl (fun i0(s0:D1)=>
 (idx a.1 i0).bind fun c=>
 (Aj s0 [c.s7]).bind some) 0 (a.1.length:Int) []).bind some
def Hq[Ev](t:AB)(a:BD)(d:B3):Option BD:=
 (rl (fun i0(s0:BD)=>
 (idx d.ci i0).bind fun f=>
 (idx a.rQ.d3.ci f).bind fun r=>
 (Aj s0.q9.d3.ci [r]).bind fun s=>
 (idx a.rQ.hT f).bind fun u=>
 (Aj [] u).bind fun v=>
 (Aj s0.q9.hT [v]).bind fun w=>
 some (BD.mk s0.jj s0.qj s0.rQ (AL.mk (d3.mk s s0.q9.d3.d6) w) s0.rZ s0.rI)) 0 (d.ci.length:Int) a).bind fun s0=>
 (rl (fun i2(s2:BD)=>
 (idx d.d6 i2).bind fun x=>
 (idx a.rQ.d3.d6 x).bind fun e=>
 (idx s2.rZ.ci e.qx).bind fun g=>
 (idx s2.rZ.ci e.To).bind fun h=>
 (Aj s2.q9.d3.d6 [Bv.mk e.qz g h]).bind fun i=>
 some (BD.mk s2.jj s2.qj s2.rQ (AL.mk (d3.mk s2.q9.d3.ci i) s2.q9.hT) s2.rZ s2.rI)) 0 (d.d6.length:Int) s0).bind fun s2=>
 (rl (fun i4(s4:BD)=>
 (idx a.jj.j4.d3.ci i4).bind fun c=>
 (idx s4.rI.ci i4).bind fun j=>
 if (j=(s4.q9.d3.ci.length:Int):Bool)then
 (Aj s4.q9.d3.ci [c]).bind fun k=>
 (Hr t c).bind fun l=>
 (Aj s4.q9.hT [l]).bind fun m=>
 some (BD.mk s4.jj s4.qj s4.rQ (AL.mk (d3.mk k s4.q9.d3.d6) m) s4.rZ s4.rI)
 else
 some s4) 0 (a.jj.j4.d3.ci.length:Int) s2).bind fun s4=>
 (rl (fun i6(s6:BD)=>
 (idx a.jj.j4.d3.d6 i6).bind fun b=>
 (idx s6.rI.d6 i6).bind fun n=>
 if (n=(s6.q9.d3.d6.length:Int):Bool)then
 (idx s6.rI.ci b.qx).bind fun o=>
 (idx s6.rI.ci b.To).bind fun p=>
 (Aj s6.q9.d3.d6 [Bv.mk b.qz o p]).bind fun q=>
 some (BD.mk s6.jj s6.qj s6.rQ (AL.mk (d3.mk s6.q9.d3.ci q) s6.q9.hT) s6.rZ s6.rI)
 else
 some s6) 0 (a.jj.j4.d3.d6.length:Int) s4).bind some
def Tb(s:BD):TV:=.agg ((Ca s).map (·.t))
def IG(s:BD):Option (Bf×Int):=
 hV (pq (ρ:=(Bf×Int)) (fun i0(s0:Bf)=>
 (idx s.jj.j4.pr i0).bind fun a=>
 (F6 a.qp s.qj.k8).bind fun b=>
 if (!b.2=0)then
 some (.ret ([],b.2))
 else
 (idx s.rI.ci a.rD).bind fun c=>
 if ((s0.look (c,a.o3)).isSome&&(!(s0.look (c,a.o3)).getD 0=b.1))then
 some (.ret ([],11))
 else
 some (.next (s0.set (c,a.o3) b.1))) 0 (s.jj.j4.pr.length:Int) []) (fun s0=>some (s0,0)) some
def Jw(s:BD)(V:List D1):BD:=BD.mk s.jj s.qj s.rQ (AL.mk s.q9.d3 V) s.rZ s.rI
def Jh[Ev](t:AB)(s:BD)(V:List D1)(p:(Int×Int)×Int):Option (Bk (List D1) Unit):=
 (idx s.q9.d3.ci p.1.1).bind fun c=>
 (Cv t c).bind fun a=>
 (idx a.1 p.1.2).bind fun d=>
 (if(p.2<d.s7:Bool)then some true else((idx a.1 p.1.2).bind fun e=>
 some (decide (e.sb<p.2)))).bind fun f=>
 if f then
 some (.ret ())
 else
 (idx V p.1.1).bind fun b=>
 (idx b p.1.2).bind fun g=>
 some (.next (CI V p.1.1 (CI b p.1.2 p.2)))
def LC[Ev](t:AB)(s:BD)(p:(Int×Int)×Int):Fp:=
 (Jh t s s.q9.hT p).bind fun c=>match c with|.next _=>some true|.ret _=>some false|.brk _=>none
def IX[Ev](t:AB)(s:BD):Option (Int×BD):=
 (IG s).bind fun a=>
 if (!a.2=0)then
 some (a.2,s)
 else
 if decide (List.Pairwise (fun x y:(Int×Int)×Int=>x.1≠y.1) a.1)then
 (sN (LC t s) a.1).bind fun c=>
 if c then
 some (0,Jw s (a.1.foldl D9 s.q9.hT))
 else
 some (6,s)
 else
 none
def Gi[Ev](t:AB)(a:jj)(d:AL)(m:AR):Option (BD×Int):=
 (GF t a d m).bind fun g=>
 if (!g=0)then
 some (JH,g)
 else
 (ET t a.ql.d3 d.d3 m.ec).bind fun e=>
 if (!e.2=0)then
 some (JH,e.2)
 else
 (FJ e.1 d.d3 a.rN m.ec).bind fun c=>
 if (!c.2=0)then
 some (JH,c.2)
 else
 (C6 t a.ql a.fd d m a.rd).bind fun f=>
 if (!f.2=0)then
 some (JH,f.2)
 else
 if (!f.1)then
 some (JH,16)
 else
 (Ja m).bind fun n=>
 (KI d).bind fun o=>
 (KY (d.d3.ci.length:Int) c.1.ci).bind fun h=>
 (KY (d.d3.d6.length:Int) c.1.d6).bind fun i=>
 (JA (a.j4.d3.ci.length:Int) a.rN.ci a.rA.ci m.ec.ci h (c.1.ci.length:Int)).bind fun j=>
 (JA (a.j4.d3.d6.length:Int) a.rN.d6 a.rA.d6 m.ec.d6 i (c.1.d6.length:Int)).bind fun k=>
 (Hq t (BD.mk a n o (AL.mk (d3.mk [] []) []) (ec.mk h i) (ec.mk j k)) c.1).bind fun l=>
 (IX t l).bind fun b=>
 if (!b.1=0)then
 some (JH,b.1)
 else
 if (40<(b.2.q9.d3.ci.length:Int)||80<(b.2.q9.d3.d6.length:Int))then
 some (JH,3)
 else
 some (b.2,0)
def EU[Ev](t:AB)(b:jj)(c:AL):Option (List AR×Int):=
 (Gk t b c).bind fun d=>
 if (!d=0)then
 some ([],d)
 else
 (Dj t b.ql c b.rd).bind fun a=>
 if (!a.2=0)then
 some ([],a.2)
 else
 (rl (fun i0(s0:List AR)=>
 (idx a.1 i0).bind fun e=>
 (Gi t b c e).bind fun f=>
 if (f.2=0:Bool)then
 (Aj s0 [e]).bind some
 else
 some s0) 0 (a.1.length:Int) []).bind fun s0=>
 some (s0,0)
def C8[Ev](t:AB)(a:List jj)(f:AL):Option (List CQ×Int):=
 hV (pq (ρ:=(List CQ×Int)) (fun i0(s0:List CQ)=>
 (idx a i0).bind fun c=>
 (EU t c f).bind fun b=>
 if (!b.2=0)then
 some (.ret ([],b.2))
 else
 (rl (fun i2(s2:List CQ)=>
 (idx b.1 i2).bind fun d=>
 (Aj s2 [CQ.mk i0 d]).bind some) 0 (b.1.length:Int) s0).bind fun s2=>
 some (.next s2)) 0 (a.length:Int) []) (fun s0=>
 some (s0,0)) some
def Hp[Ev](t:AB)(d:jj)(c:AL)(m:AR):Option (BD×Int):=
 (Gk t d c).bind fun a=>
 if (!a=0)then
 some (JH,a)
 else
 (Gi t d c m).bind fun b=>
 some (b.1,b.2)
def DH[Ev](t:AB)(a:List jj)(d:AL)(m:CQ):Option (BD×Int):=
 if (m.jj<0||(a.length:Int)<=m.jj)then
 some (JH,6)
 else
 (idx a m.jj).bind fun c=>
 (Hp t c d m.qj).bind fun b=>
 some (b.1,b.2)
def Dm[Ev](t:AB)(c:List jj)(e:AL)(a:D1):Option (AN×Int):=
 (DI t c e).bind fun f=>
 if (!f=0)then
 some (FH,f)
 else
 if (30<(a.length:Int):Bool)then
 some (FH,3)
 else
 (Cb e).bind fun h=>
 hV (pq (ρ:=(AN×Int)) (fun i0(s0:AL×AN×AN)=>
 (idx a i0).bind fun i=>
 (C8 t c s0.1).bind fun b=>
 if (!b.2=0)then
 some (.ret (FH,b.2))
 else
 if ((b.1.length:Int)=0:Bool)then
 some (.brk (s0.1,s0.2.1,s0.2.2))
 else
 (Tz i (b.1.length:Int)).bind fun j=>
 (Tz (AT (j+(b.1.length:Int))) (b.1.length:Int)).bind fun k=>
 (idx b.1 k).bind fun g=>
 (DH t c s0.1 g).bind fun d=>
 if (!d.2=0)then
 some (.ret (FH,d.2))
 else
 (Aj s0.2.2.o4 [g]).bind fun l=>
 some (.next (d.1.q9,s0.2.1,AN.mk s0.2.2.qy l))) 0 (a.length:Int) (e,FH,AN.mk h [])) (fun s0=>
 some (s0.2.2,0)) some
def Dn[Ev](t:AB)(a:List jj)(d:AN):Option (List BD×Int×Int):=
 (DI t a d.qy).bind fun c=>
 if (!c=0)then
 some ([],0,c)
 else
 if (30<(d.o4.length:Int):Bool)then
 some ([],0,3)
 else
 hV (pq (ρ:=(List BD×Int×Int)) (fun i0(s0:List BD×AL)=>
 (idx d.o4 i0).bind fun e=>
 (DH t a s0.2 e).bind fun b=>
 if (!b.2=0)then
 some (.ret ([],i0,b.2))
 else
 (Aj s0.1 [b.1]).bind fun f=>
 some (.next (f,b.1.q9))) 0 (d.o4.length:Int) ([],d.qy)) (fun s0=>
 some (s0.1,(s0.1.length:Int),0)) some
def Gd(n:Int):Option D1:=
 (Mr n 0).bind fun a=>
 (rl (fun i0(s0:D1)=>
 (idx s0 i0).bind fun b=>
 some (CI s0 i0 i0)) 0 (a.length:Int) a).bind some
def Do[Ev](g:d3):Option (ec×Int):=
 (CG g).bind fun c=>
 if (!c=0)then
 some (ec.mk [] [],c)
 else
 (Gd (g.ci.length:Int)).bind fun a=>
 (Gd (g.d6.length:Int)).bind fun b=>
 some (ec.mk a b,0)
def C7[Ev](g:d3):Option ec:=
 (Do g).bind fun a=>
 some a.1
def GV(l:D1)(c:D1):Option D1:=
 (slices_Clone_int l).bind fun d=>
 (rl (fun i0(s0:D1)=>
 (idx s0 i0).bind fun a=>
 if (0<=a:Bool)then
 (idx c a).bind fun b=>
 (idx s0 i0).bind fun e=>
 some (CI s0 i0 b)
 else
 some s0) 0 (d.length:Int) d).bind some
def D0[Ev](t:AB)(c:List jj)(d:AN):Option (AL×ec×Int):=
 (Dn t c d).bind fun a=>
 if (!a.2.2=0)then
 some (AL.mk (d3.mk [] []) [],ec.mk [] [],a.2.2)
 else
 (C7 d.qy.d3).bind fun e=>
 (rl (fun i0(s0:AL×ec)=>
 (idx a.1 i0).bind fun b=>
 (GV s0.2.ci b.rZ.ci).bind fun f=>
 (GV s0.2.d6 b.rZ.d6).bind fun g=>
 some (b.q9,ec.mk f g)) 0 (a.1.length:Int) (d.qy,e)).bind fun s0=>
 (Cb s0.1).bind fun h=>
 some (h,s0.2,0)
def DA[Ev]:Fp:=
 (KE).bind fun b=>
 (Dm b [jj.mk (⟨#[98,105,114,116,104]⟩:ByteArray) (ff.mk (d3.mk [] []) [] 0 []) (ff.mk (d3.mk [3] []) [] 0 []) (B3.mk [] []) (ec.mk [] []) false (fd.mk 1 [] (ec.mk [] []) (ff.mk (d3.mk [] []) [] 0 []))] (AL.mk (d3.mk [] []) []) [0,7]).bind fun a=>
 (D0 b [jj.mk (⟨#[98,105,114,116,104]⟩:ByteArray) (ff.mk (d3.mk [] []) [] 0 []) (ff.mk (d3.mk [3] []) [] 0 []) (B3.mk [] []) (ec.mk [] []) false (fd.mk 1 [] (ec.mk [] []) (ff.mk (d3.mk [] []) [] 0 []))] a.1).bind fun c=>
 (Fw a.1).bind fun d=>
 (if((a.2=0&&(a.1.o4.length:Int)=2)&&c.2.2=0)then((slices_Equal_int c.1.d3.ci [3,3]).bind some)else some false).bind fun f=>
 some ((f&&d.2=0)&&(d.1==(⟨#[109,111,118,101,32,48,32,40,32,41,32,40,32,41,32,40,32,41,32,59,10,109,111,118,101,32,48,32,40,32,41,32,40,32,41,32,40,32,41,32,59,10]⟩:ByteArray)))
def GG(c:Int):Fp:=
 some (!c=10)
def E8[Ev](e:ByteArray):Option (List Ap×Int×Int):=
 if (20000<(e.size:Int):Bool)then
 some ([],0,3)
 else
 hV (Dy (ρ:=(List Ap×Int×Int)) (fun(s0:ByteArray×List Ap×Int)=>
 if (0<(s0.1.size:Int):Bool)then
 (rx s0.1 0).bind fun b=>
 if (b=10:Bool)then
 (rB s0.1 1 s0.1.size).bind fun f=>
 some (.next (f,s0.2.1,AT (s0.2.2+1)))
 else
 if ((b=32||b=9)||b=13)then
 (rB s0.1 1 s0.1.size).bind fun g=>
 some (.next (g,s0.2.1,s0.2.2))
 else
 if (b=35:Bool)then
 (Du s0.1 GG).bind fun h=>
 (rB s0.1 h s0.1.size).bind fun i=>
 some (.next (i,s0.2.1,s0.2.2))
 else
 (DF s0.1).bind fun a=>
 if (!a.2.2=0)then
 some (.ret ([],s0.2.2,a.2.2))
 else
 if ((s0.2.1.length:Int)=4000:Bool)then
 some (.ret ([],s0.2.2,3))
 else
 (rB s0.1 0 a.2.1).bind fun j=>
 if (a.1=3:Bool)then
 (rB s0.1 1 (AT (a.2.1-1))).bind fun k=>
 (Aj s0.2.1 [Ap.mk a.1 k s0.2.2]).bind fun c=>
 (rB s0.1 a.2.1 s0.1.size).bind fun d=>
 some (.next (d,c,s0.2.2))
 else
 (Aj s0.2.1 [Ap.mk a.1 j s0.2.2]).bind fun c=>
 (rB s0.1 a.2.1 s0.1.size).bind fun d=>
 some (.next (d,c,s0.2.2))
 else
 some (.brk (s0.1,s0.2.1,s0.2.2))) (e,[],1)) (fun s0=>
 some (s0.2.1,0,0)) some
def Ak(a:AE)(c:Int)(b:ByteArray):Fp:=
 (if(a.err=0&&a.at'<(a.l.length:Int))then((idx a.l a.at').bind fun d=>
 some (decide (d.qh=c)))else some false).bind fun e=>
 (if e then((if(b==(⟨#[]⟩:ByteArray))then some true else((idx a.l a.at').bind fun f=>
 some (f.r7==b))).bind some)else some false).bind some
def A9(a:AE)(e:Int):Option AE:=
 (if(a.err=0:Bool)then
 (idx a.l (min a.at' (AT ((a.l.length:Int)-1)))).bind fun b=>
 some (AE.mk a.l a.at' e b.uz)
 else
 some a).bind some
def Al(a:AE)(b:Int)(f:ByteArray):Option (ByteArray×AE):=
 (Ak a b f).bind fun c=>
 if (!c)then
 (A9 a 2).bind fun d=>
 some ((⟨#[]⟩:ByteArray),d)
 else
 (idx a.l (AT ((AT (a.at'+1))-1))).bind fun e=>
 some (e.r7,AE.mk a.l (AT (a.at'+1)) a.err a.qw)
def E7[Ev](a:ByteArray):Option (Int×Int):=
 (DX (Ap.mk 2 a 0)).bind fun b=>
 if (!b.2)then
 some (0,2)
 else
 (rl (fun i0(s0:Int)=>
 (rx a i0).bind fun c=>
 some (AT ((AT (10*s0))+(AT (IntKind.u8.wrap (c-48)))))) 0 (a.size:Int) 0).bind fun s0=>
 some (s0,0)
def Ai[Ev](a:AE):Option (Int×AE):=
 (Al a 2 (⟨#[]⟩:ByteArray)).bind fun b=>
 (E7 b.1).bind fun c=>
 some (c.1,b.2)
def A0[Ev](n:AE)(d:Int)(c:Bool):Option (D1×AE):=
 (Al n 4 (⟨#[40]⟩:ByteArray)).bind fun g=>
 hV (Dy (ρ:=(D1×AE)) (fun(s0:AE×D1)=>
 (if(s0.1.err=0:Bool)then((Ak s0.1 4 (⟨#[41]⟩:ByteArray)).bind fun h=>
 some (!h))else some false).bind fun i=>
 if i then
 (if c then((Ak s0.1 4 (⟨#[45]⟩:ByteArray)).bind some)else some false).bind fun k=>
 if k then
 (Ak (AE.mk s0.1.l (AT (s0.1.at'+1)) s0.1.err s0.1.qw) 2 (⟨#[]⟩:ByteArray)).bind fun e=>
 if (e&&(s0.2.length:Int)=d)then
 (A9 (AE.mk s0.1.l (AT (s0.1.at'+1)) s0.1.err s0.1.qw) 3).bind fun f=>
 (Ai f).bind fun a=>
 (Aj s0.2 [AT ((-1)*a.1)]).bind fun b=>
 some (.next (a.2,b))
 else
 (Ai (AE.mk s0.1.l (AT (s0.1.at'+1)) s0.1.err s0.1.qw)).bind fun a=>
 (Aj s0.2 [AT ((-1)*a.1)]).bind fun b=>
 some (.next (a.2,b))
 else
 (Ak s0.1 2 (⟨#[]⟩:ByteArray)).bind fun e=>
 if (e&&(s0.2.length:Int)=d)then
 (A9 s0.1 3).bind fun f=>
 (Ai f).bind fun a=>
 (Aj s0.2 [AT (1*a.1)]).bind fun b=>
 some (.next (a.2,b))
 else
 (Ai s0.1).bind fun a=>
 (Aj s0.2 [AT (1*a.1)]).bind fun b=>
 some (.next (a.2,b))
 else
 some (.brk (s0.1,s0.2))) (g.2,[])) (fun s0=>
 (Al s0.1 4 (⟨#[41]⟩:ByteArray)).bind fun m=>
 some (s0.2,m.2)) some
def Ew[Ev](t:AB)(g:AL)(o:ByteArray):Option (AN×Int×Int):=
 (B5 t).bind fun j=>
 if (!j.2=0)then
 some (FH,0,j.2)
 else
 (Cx t g).bind fun k=>
 if (!k.2=0)then
 some (FH,0,k.2)
 else
 (E8 o).bind fun a=>
 if (!a.2.2=0)then
 some (FH,a.2.1,a.2.2)
 else
 (Cb g).bind fun l=>
 hV (Dy (ρ:=(AN×Int×Int)) (fun(s0:AN×AE)=>
 if (s0.2.at'<(a.1.length:Int)&&s0.2.err=0)then
 (Ak s0.2 1 (⟨#[109,111,118,101]⟩:ByteArray)).bind fun m=>
 if (m&&(s0.1.o4.length:Int)=30)then
 (A9 s0.2 3).bind fun n=>
 (Al n 1 (⟨#[109,111,118,101]⟩:ByteArray)).bind fun h=>
 (Ai h.2).bind fun b=>
 (A0 b.2 40 false).bind fun c=>
 (A0 c.2 80 false).bind fun d=>
 (A0 d.2 12 true).bind fun e=>
 (Al e.2 4 (⟨#[59]⟩:ByteArray)).bind fun i=>
 (Aj s0.1.o4 [CQ.mk b.1 (AR.mk (ec.mk c.1 d.1) e.1)]).bind fun f=>
 some (.next (AN.mk s0.1.qy f,i.2))
 else
 (Al s0.2 1 (⟨#[109,111,118,101]⟩:ByteArray)).bind fun h=>
 (Ai h.2).bind fun b=>
 (A0 b.2 40 false).bind fun c=>
 (A0 c.2 80 false).bind fun d=>
 (A0 d.2 12 true).bind fun e=>
 (Al e.2 4 (⟨#[59]⟩:ByteArray)).bind fun i=>
 (Aj s0.1.o4 [CQ.mk b.1 (AR.mk (ec.mk c.1 d.1) e.1)]).bind fun f=>
 some (.next (AN.mk s0.1.qy f,i.2))
 else
 some (.brk (s0.1,s0.2))) (AN.mk l [],AE.mk a.1 0 0 0)) (fun s0=>
 if (!s0.2.err=0)then
 some (FH,s0.2.qw,s0.2.err)
 else
 some (s0.1,0,0)) some
def J7[Ev](t:AB):Fp:=
 if (20<(t.ci.length:Int)||30<(t.d6.length:Int))then
 some false
 else
 hV (pq (ρ:=Bool) (fun i0(s0:Int)=>
 (idx t.ci i0).bind fun b=>
 (if(30<(AT (s0+(b.qv.length:Int))):Bool)then some true else((idx t.ci i0).bind fun d=>
 some (decide (40<(d.og.size:Int))))).bind fun e=>
 if e then
 some (.ret false)
 else
 hV (Dy (ρ:=Bool) (fun(s2:Int)=>
 (idx t.ci i0).bind fun f=>
 if (s2<(f.qv.length:Int):Bool)then
 (idx t.ci i0).bind fun g=>
 (idx g.qv s2).bind fun a=>
 if (40<(a.og.size:Int)||25<(a.qu.length:Int))then
 some (.ret false)
 else
 hV (Dy (ρ:=Bool) (fun(s4:Int)=>
 if (s4<(a.qu.length:Int):Bool)then
 (idx a.qu s4).bind fun h=>
 if (40<(h.size:Int):Bool)then
 some (.ret false)
 else
 some (.next (AT (s4+1)))
 else
 some (.brk s4)) 0) (fun s4=>
 some (.next (AT (s2+1)))) (fun v4=>some (.ret v4))
 else
 some (.brk s2)) 0) (fun s2=>
 some (.next (AT (s0+(b.qv.length:Int))))) (fun v2=>some (.ret v2))) 0 (t.ci.length:Int) 0) (fun s0=>
 hV (pq (ρ:=Bool) (fun i6 _=>
 (idx t.d6 i6).bind fun c=>
 if (40<(c.og.size:Int):Bool)then
 some (.ret false)
 else
 some (.next ())) 0 (t.d6.length:Int) ()) (fun _=>
 some true) some) some
def LJ(g:d3):Fp:=
 some ((g.ci.length:Int)<=45&&(g.d6.length:Int)<=90)
def J8(a:AL):Fp:=
 (LJ a.d3).bind fun c=>
 if ((!c)||45<(a.hT.length:Int))then
 some false
 else
 hV (pq (ρ:=Bool) (fun i0 _=>
 (idx a.hT i0).bind fun b=>
 if (12<(b.length:Int):Bool)then
 some (.ret false)
 else
 some (.next ())) 0 (a.hT.length:Int) ()) (fun _=>
 some true) some
def I2(g:d3):Option d3:=
 (Aj [] g.ci).bind fun b=>
 (Aj [] g.d6).bind fun a=>
 some (d3.mk b a)
def E2(a:AL):Option AL:=
 (I2 a.d3).bind fun e=>
 (rl (fun i0(s0:AL)=>
 (idx a.hT i0).bind fun b=>
 (Aj [] b).bind fun c=>
 (Aj s0.hT [c]).bind fun d=>
 some (AL.mk s0.d3 d)) 0 (a.hT.length:Int) (AL.mk e [])).bind some
def Gz(c:Int):Fp:=
 some (((c=32||c=9)||c=13)||c=10)
def Hb(c:Int):Fp:=
 some (97<=c&&c<=122||(65<=c&&c<=90))
def Fr(c:Int):Fp:=
 some (48<=c&&c<=57)
def Hc[Ev](b:ByteArray)(a:Int)(c:Bool):K1:=
 hV (Dy (ρ:=Int) (fun(s0:Int)=>
 (if((AT (a+s0))<(b.size:Int):Bool)then((rx b (AT (a+s0))).bind fun d=>
 (Fr d).bind fun e=>
 (if e then some true else((if(!c)then((rx b (AT (a+s0))).bind fun f=>
 (Hb f).bind fun g=>
 (if g then some true else((rx b (AT (a+s0))).bind fun h=>
 some (decide (h=95)))).bind some)else some false).bind some)).bind some)else some false).bind fun l=>
 if l then
 some (.next (AT (s0+1)))
 else
 some (.brk s0)) 0) some some
def E1[Ev](c:ByteArray)(b:Int):K1:=
 hV (Dy (ρ:=Int) (fun(s0:Int)=>
 if ((AT (b+s0))<(c.size:Int):Bool)then
 (rx c (AT (b+s0))).bind fun a=>
 if (a=34:Bool)then
 some (.ret (AT (s0+1)))
 else
 if (a<32||126<a)then
 some (.ret 0)
 else
 some (.next (AT (s0+1)))
 else
 some (.brk s0)) 1) (fun s0=>
 some 0) some
def H6:Option (List ByteArray):=
 some [(⟨#[45,62]⟩:ByteArray),(⟨#[60,61]⟩:ByteArray),(⟨#[62,61]⟩:ByteArray),(⟨#[61,61]⟩:ByteArray),(⟨#[33,61]⟩:ByteArray),(⟨#[123]⟩:ByteArray),(⟨#[125]⟩:ByteArray),(⟨#[40]⟩:ByteArray),(⟨#[41]⟩:ByteArray),(⟨#[91]⟩:ByteArray),(⟨#[93]⟩:ByteArray),(⟨#[44]⟩:ByteArray),(⟨#[59]⟩:ByteArray),(⟨#[58]⟩:ByteArray),(⟨#[61]⟩:ByteArray),(⟨#[43]⟩:ByteArray),(⟨#[45]⟩:ByteArray),(⟨#[42]⟩:ByteArray),(⟨#[60]⟩:ByteArray),(⟨#[62]⟩:ByteArray),(⟨#[33]⟩:ByteArray),(⟨#[38]⟩:ByteArray),(⟨#[124]⟩:ByteArray),(⟨#[46]⟩:ByteArray),(⟨#[63]⟩:ByteArray)]
def FY[Ev](b:ByteArray)(a:Int):Option (Ap×Int×Int):=
 (rx b a).bind fun d=>
 (Hb d).bind fun i=>
 (if i then some true else((Fr d).bind some)).bind fun k=>
 if k then
 (Fr d).bind fun l=>
 (Hc b a l).bind fun f=>
 (Fr d).bind fun m=>
 (if m then
 some (2,9)
 else
 some (1,20)).bind fun w1=>
 if (w1.2<f:Bool)then
 some (Ap.mk 0 (⟨#[]⟩:ByteArray) 0,0,3)
 else
 (rB b a (AT (a+f))).bind fun n=>
 some (Ap.mk w1.1 n 0,f,0)
 else
 if (d=34:Bool)then
 (E1 b a).bind fun e=>
 if (e=0:Bool)then
 some (Ap.mk 0 (⟨#[]⟩:ByteArray) 0,0,2)
 else
 if (60<(AT (e-2)):Bool)then
 some (Ap.mk 0 (⟨#[]⟩:ByteArray) 0,0,3)
 else
 (rB b (AT (a+1)) (AT ((AT (a+e))-1))).bind fun o=>
 some (Ap.mk 3 o 0,e,0)
 else
 (H6).bind fun c=>
 hV (pq (ρ:=(Ap×Int×Int)) (fun i0(s0:Ap)=>
 (idx c i0).bind fun p=>
 (if((AT (a+(p.size:Int)))<=(b.size:Int):Bool)then((idx c i0).bind fun q=>
 (rB b a (AT (a+(q.size:Int)))).bind fun r=>
 (idx c i0).bind fun s=>
 some (r==s))else some false).bind fun t=>
 if t then
 (idx c i0).bind fun g=>
 (idx c i0).bind fun h=>
 some (.ret (Ap.mk 4 g 0,(h.size:Int),0))
 else
 some (.next s0)) 0 (c.length:Int) (Ap.mk 0 (⟨#[]⟩:ByteArray) 0)) (fun s0=>
 some (Ap.mk 0 (⟨#[]⟩:ByteArray) 0,0,2)) some
def E0[Ev](b:ByteArray):Option (List Ap×Int×Int):=
 if (20000<(b.size:Int):Bool)then
 some ([],0,3)
 else
 hV (Dy (ρ:=(List Ap×Int×Int)) (fun(s0:List Ap×Int×Int)=>
 if (s0.2.2<(b.size:Int):Bool)then
 (rx b s0.2.2).bind fun d=>
 if (d=35:Bool)then
 hV (Dy (ρ:=(List Ap×Int×Int)) (fun(s2:Int)=>
 (if(s2<(b.size:Int):Bool)then((rx b s2).bind fun e=>
 some (!e=10))else some false).bind fun f=>
 if f then
 some (.next (AT (s2+1)))
 else
 some (.brk s2)) s0.2.2) (fun s2=>
 some (.next (s0.1,s0.2.1,s2))) (fun v2=>some (.ret v2))
 else
 (rx b s0.2.2).bind fun g=>
 (Gz g).bind fun h=>
 if h then
 (rx b s0.2.2).bind fun i=>
 if (i=10:Bool)then
 some (.next (s0.1,AT (s0.2.1+1),AT (s0.2.2+1)))
 else
 some (.next (s0.1,s0.2.1,AT (s0.2.2+1)))
 else
 (FY b s0.2.2).bind fun a=>
 if (a.2.2=0&&(s0.1.length:Int)=4000)then
 if (!3=0)then
 some (.ret ([],s0.2.1,3))
 else
 (Aj s0.1 [Ap.mk a.1.qh a.1.r7 s0.2.1]).bind fun c=>
 some (.next (c,s0.2.1,AT (s0.2.2+a.2.1)))
 else
 if (!a.2.2=0)then
 some (.ret ([],s0.2.1,a.2.2))
 else
 (Aj s0.1 [Ap.mk a.1.qh a.1.r7 s0.2.1]).bind fun c=>
 some (.next (c,s0.2.1,AT (s0.2.2+a.2.1)))
 else
 some (.brk (s0.1,s0.2.1,s0.2.2))) ([],1,0)) (fun s0=>
 some (s0.1,0,0)) some
def Ix(t:Ap):Option ByteArray:=
 if (t.qh=3:Bool)then
 (JZ (⟨#[34]⟩:ByteArray) t.r7).bind fun a=>
 (JZ a (⟨#[34]⟩:ByteArray)).bind some
 else
 some t.r7
def Fo[Ev](t:Ap):Fp:=
 (Ix t).bind fun b=>
 if (b==(⟨#[]⟩:ByteArray))then
 some false
 else
 (FY b 0).bind fun a=>
 some ((a.2.2=0&&a.2.1=(b.size:Int))&&a.1.qh=t.qh)
def EG[Ev](a:ByteArray):Fp:=
 (Fo (Ap.mk 1 a 0)).bind some
def Cd(n:Int)(b:Int)(a:Int):Fp:=
 some (b<=n&&n<=a)
def EH[Ev]:Nat->AB->Int->Option (List o3)
 |0,_,_=>none|n+1,t,a=>
  if (a<0:Bool)then
  some []
  else
  (idx t.ci a).bind fun b=>
  (EH n t b.ru).bind fun c=>
  (Aj [] c).bind fun d=>
  (idx t.ci a).bind fun e=>
  (Aj d e.qv).bind some
def Jp[Ev](t:AB)(a:Int):Option (List o3):=LG fun n=>EH n t a
def H8[Ev](l:List ByteArray):K1:=
 if (20<(l.length:Int):Bool)then
 some 3
 else
 hV (pq (ρ:=Int) (fun i0 _=>
 (idx l i0).bind fun a=>
 (EG a).bind fun b=>
 if (!b)then
 some (.ret 2)
 else
 hV (pq (ρ:=Int) (fun i2 _=>
 (idx l i2).bind fun c=>
 (idx l i0).bind fun d=>
 if (c==d)then
 some (.ret 5)
 else
 some (.next ())) 0 i0 ()) (fun _=>
 some (.next ())) (fun v2=>some (.ret v2))) 0 (l.length:Int) ()) (fun _=>
 some 0) some
def FZ[Ev](a:o3):K1:=
 if ((a.qu.length:Int)=0:Bool)then
 (Cd a.s7 (-1000000) 1000000).bind fun c=>
 (if(!c)then some true else((Cd a.sb a.s7 1000000).bind fun d=>
 some (!d))).bind fun e=>
 if e then
 some 6
 else
 some 0
 else
 (H8 a.qu).bind fun b=>
 if (!b=0)then
 some b
 else
 if ((!a.s7=0)||(!a.sb=(AT ((a.qu.length:Int)-1))))then
 some 6
 else
 some 0
def I1[Ev](t:AB)(c:Int):K1:=
 (idx t.ci c).bind fun b=>
 (EG b.og).bind fun e=>
 if (!e)then
 some 2
 else
 hV (pq (ρ:=Int) (fun i0 _=>
 (idx t.ci i0).bind fun f=>
 if (f.og==b.og)then
 some (.ret 5)
 else
 some (.next ())) 0 c ()) (fun _=>
 (Cd b.ru (-1) (AT (c-1))).bind fun g=>
 if (!g)then
 some 6
 else
 (Jp t c).bind fun a=>
 if (4<(b.qv.length:Int)||8<(a.length:Int))then
 some 3
 else
 hV (pq (ρ:=Int) (fun i2 _=>
 (idx a i2).bind fun h=>
 (EG h.og).bind fun i=>
 if (!i)then
 some (.ret 2)
 else
 hV (pq (ρ:=Int) (fun i4 _=>
 (idx a i4).bind fun j=>
 (idx a i2).bind fun k=>
 if (j.og==k.og)then
 some (.ret 5)
 else
 some (.next ())) 0 i2 ()) (fun _=>
 (idx a i2).bind fun l=>
 (FZ l).bind fun d=>
 if (!d=0)then
 some (.ret d)
 else
 some (.next ())) (fun v4=>some (.ret v4))) (AT ((a.length:Int)-(b.qv.length:Int))) (a.length:Int) ()) (fun _=>
 some 0) some) some
def G0(b:Int)(a:Int):Fp:=
 (Cd b 0 40).bind fun f=>
 (if f then((if(a=(-1):Bool)then some true else((Cd a b 40).bind some)).bind some)else some false).bind some
def I0[Ev](t:AB)(b:Int):K1:=
 (idx t.d6 b).bind fun a=>
 (EG a.og).bind fun c=>
 if (!c)then
 some 2
 else
 hV (pq (ρ:=Int) (fun i0 _=>
 (idx t.d6 i0).bind fun d=>
 if (d.og==a.og)then
 some (.ret 5)
 else
 some (.next ())) 0 b ()) (fun _=>
 (Cd a.qx 0 (AT ((t.ci.length:Int)-1))).bind fun e=>
 (if(!e)then some true else((Cd a.To 0 (AT ((t.ci.length:Int)-1))).bind fun f=>
 some (!f))).bind fun g=>
 (if g then some true else((G0 a.sX a.sB).bind fun h=>
 some (!h))).bind fun i=>
 (if i then some true else((G0 a.tL a.sZ).bind fun j=>
 some (!j))).bind fun k=>
 if k then
 some 6
 else
 some 0) some
def El[Ev](t:AB):Option (ByteArray×Int):=
 if ((t.ci.length:Int)=0:Bool)then
 some ((⟨#[]⟩:ByteArray),7)
 else
 if (12<(t.ci.length:Int)||20<(t.d6.length:Int))then
 some ((⟨#[]⟩:ByteArray),3)
 else
 hV (pq (ρ:=(ByteArray×Int)) (fun i0 _=>
 (I1 t i0).bind fun a=>
 if (!a=0)then
 (idx t.ci i0).bind fun c=>
 some (.ret (c.og,a))
 else
 some (.next ())) 0 (t.ci.length:Int) ()) (fun _=>
 hV (pq (ρ:=(ByteArray×Int)) (fun i2 _=>
 (I0 t i2).bind fun b=>
 if (!b=0)then
 (idx t.d6 i2).bind fun d=>
 some (.ret (d.og,b))
 else
 some (.next ())) 0 (t.d6.length:Int) ()) (fun _=>
 some ((⟨#[]⟩:ByteArray),0)) some) some
def Hl(n:Int):Fp:=
 some (0<=n&&n<=99)
def Jq(e:Bv)(a:Int):Fp:=
 (Hl e.qz).bind fun b=>
 some ((((b&&0<=e.qx)&&e.qx<a)&&0<=e.To)&&e.To<a)
def H9(g:d3):K1:=
 if (40<(g.ci.length:Int)||80<(g.d6.length:Int))then
 some 3
 else
 hV (pq (ρ:=Int) (fun i0 _=>
 (idx g.ci i0).bind fun a=>
 (Hl a).bind fun b=>
 if (!b)then
 some (.ret 6)
 else
 some (.next ())) 0 (g.ci.length:Int) ()) (fun _=>
 hV (pq (ρ:=Int) (fun i2 _=>
 (idx g.d6 i2).bind fun c=>
 (Jq c (g.ci.length:Int)).bind fun d=>
 if (!d)then
 some (.ret 6)
 else
 some (.next ())) 0 (g.d6.length:Int) ()) (fun _=>
 some 0) some) some
def G2[Ev](t:AB)(a:Int)(b:Int):K1:=
 (El t).bind fun c=>
 if (!c.2=0)then
 some c.2
 else
 (Cd a 0 (AT ((t.ci.length:Int)-1))).bind fun d=>
 (if(!d)then some true else((Cd b 0 (AT ((t.ci.length:Int)-1))).bind fun e=>
 some (!e))).bind fun f=>
 if f then
 some 6
 else
 some 0
def H7[Ev](t:AB)(a:Int):Option (List o3×Int):=
 (G2 t a a).bind fun c=>
 if (!c=0)then
 some ([],c)
 else
 (Jp t a).bind fun d=>
 (rl (fun i0(s0:List o3)=>
 (idx d i0).bind fun b=>
 (Aj [] b.qu).bind fun e=>
 (Aj s0 [o3.mk b.og b.s7 b.sb e]).bind some) 0 (d.length:Int) []).bind fun s0=>
 some (s0,0)
def I5[Ev](t:AB)(a:Int)(i:D1):K1:=
 if ((t.ci.length:Int)<=a:Bool)then
 some 6
 else
 (idx t.ci a).bind fun c=>
 if c.se then
 some 13
 else
 (H7 t a).bind fun b=>
 if (!(i.length:Int)=(b.1.length:Int))then
 some 20
 else
 hV (pq (ρ:=Int) (fun i0 _=>
 (idx i i0).bind fun d=>
 (idx b.1 i0).bind fun e=>
 (if(d<e.s7:Bool)then some true else((idx i i0).bind fun f=>
 (idx b.1 i0).bind fun g=>
 some (decide (g.sb<f)))).bind fun h=>
 if h then
 some (.ret 6)
 else
 some (.next ())) 0 (b.1.length:Int) ()) (fun _=>
 some 0) some
def Dt[Ev]:Nat->AB->Int->Int->Fp
 |0,_,_,_=>none|n+1,t,a,b=>
  (if(a=b:Bool)then some true else((if(0<=a:Bool)then((idx t.ci a).bind fun c=>
  (Dt n t c.ru b).bind some)else some false).bind some)).bind some
def Iy[Ev](t:AB)(a:Int)(b:Int):Fp:=LG fun n=>Dt n t a b
def Iz[Ev](t:AB)(b:Int)(a:Int)(c:Int):Fp:=
 (G2 t a c).bind fun d=>
 (if(!d=0)then some true else((Cd b 0 (AT ((t.d6.length:Int)-1))).bind fun e=>
 some (!e))).bind fun f=>
 if f then
 some false
 else
 (idx t.d6 b).bind fun g=>
 (Iy t a g.qx).bind fun h=>
 (if h then((idx t.d6 b).bind fun i=>
 (Iy t c i.To).bind some)else some false).bind some
def G3[Ev](t:AB)(a:AL):Option (Int×Int):=
 (El t).bind fun c=>
 if (!c.2=0)then
 some ((-1),c.2)
 else
 (H9 a.d3).bind fun d=>
 if (!d=0)then
 some ((-1),d)
 else
 if (!(a.hT.length:Int)=(a.d3.ci.length:Int))then
 some ((-1),20)
 else
 hV (pq (ρ:=(Int×Int)) (fun i0 _=>
 (idx a.d3.ci i0).bind fun f=>
 (idx a.hT i0).bind fun g=>
 (I5 t f g).bind fun e=>
 if (!e=0)then
 some (.ret (i0,e))
 else
 some (.next ())) 0 (a.d3.ci.length:Int) ()) (fun _=>
 hV (pq (ρ:=(Int×Int)) (fun i2 _=>
 (idx a.d3.d6 i2).bind fun b=>
 if ((t.d6.length:Int)<=b.qz:Bool)then
 some (.ret (i2,6))
 else
 (idx a.d3.ci b.qx).bind fun h=>
 (idx a.d3.ci b.To).bind fun i=>
 (Iz t b.qz h i).bind fun j=>
 if (!j)then
 some (.ret (i2,13))
 else
 some (.next ())) 0 (a.d3.d6.length:Int) ()) (fun _=>
 some ((-1),0)) some) some
def A4(a:AX)(c:Int)(b:ByteArray):Fp:=
 (if(a.e=0&&a.at'<(a.rL.length:Int))then((idx a.rL a.at').bind fun d=>
 some (decide (d.qh=c)))else some false).bind fun f=>
 (if f then((if(b==(⟨#[]⟩:ByteArray))then some true else((idx a.rL a.at').bind fun g=>
 some (g.r7==b))).bind some)else some false).bind some
def BV(a:AX)(e:Int):Option AX:=
 (if(a.e=0:Bool)then
 (idx a.rL (min a.at' (AT ((a.rL.length:Int)-1)))).bind fun b=>
 some (AX.mk a.rL a.at' e b.uz)
 else
 some a).bind some
def AW(a:AX)(c:Int)(b:ByteArray):Option (ByteArray×AX):=
 (A4 a c b).bind fun d=>
 if (!d)then
 (BV a 2).bind fun f=>
 some ((⟨#[]⟩:ByteArray),f)
 else
 (idx a.rL (AT ((AT (a.at'+1))-1))).bind fun g=>
 some (g.r7,AX.mk a.rL (AT (a.at'+1)) a.e a.qw)
def Bs[Ev](a:ByteArray):Option (Int×Int):=
 (Fo (Ap.mk 2 a 0)).bind fun c=>
 if (!c)then
 some (0,2)
 else
 (rl (fun i0(s0:Int)=>
 (rx a i0).bind fun b=>
 some (AT ((AT (s0*10))+(AT (IntKind.u8.wrap (b-48)))))) 0 (a.size:Int) 0).bind fun s0=>
 some (s0,0)
def BE[Ev](q:AX)(f:Int)(i:Bool):Option (D1×AX):=
 (AW q 4 (⟨#[40]⟩:ByteArray)).bind fun j=>
 hV (Dy (ρ:=(D1×AX)) (fun(s0:AX×D1)=>
 (if(s0.1.e=0:Bool)then((A4 s0.1 2 (⟨#[]⟩:ByteArray)).bind fun k=>
 (if k then some true else((if i then((A4 s0.1 4 (⟨#[45]⟩:ByteArray)).bind some)else some false).bind some)).bind some)else some false).bind fun o=>
 if o then
 (A4 s0.1 4 (⟨#[45]⟩:ByteArray)).bind fun d=>
 if d then
 (A4 (AX.mk s0.1.rL (AT (s0.1.at'+1)) s0.1.e s0.1.qw) 2 (⟨#[]⟩:ByteArray)).bind fun g=>
 if (g&&(s0.2.length:Int)=f)then
 (BV (AX.mk s0.1.rL (AT (s0.1.at'+1)) s0.1.e s0.1.qw) 3).bind fun h=>
 (AW h 2 (⟨#[]⟩:ByteArray)).bind fun a=>
 (Bs a.1).bind fun c=>
 if d then
 (Aj s0.2 [AT (-c.1)]).bind fun b=>
 some (.next (a.2,b))
 else
 (Aj s0.2 [c.1]).bind fun b=>
 some (.next (a.2,b))
 else
 (AW (AX.mk s0.1.rL (AT (s0.1.at'+1)) s0.1.e s0.1.qw) 2 (⟨#[]⟩:ByteArray)).bind fun a=>
 (Bs a.1).bind fun c=>
 if d then
 (Aj s0.2 [AT (-c.1)]).bind fun b=>
 some (.next (a.2,b))
 else
 (Aj s0.2 [c.1]).bind fun b=>
 some (.next (a.2,b))
 else
 (A4 s0.1 2 (⟨#[]⟩:ByteArray)).bind fun g=>
 if (g&&(s0.2.length:Int)=f)then
 (BV s0.1 3).bind fun h=>
 (AW h 2 (⟨#[]⟩:ByteArray)).bind fun a=>
 (Bs a.1).bind fun c=>
 if d then
 (Aj s0.2 [AT (-c.1)]).bind fun b=>
 some (.next (a.2,b))
 else
 (Aj s0.2 [c.1]).bind fun b=>
 some (.next (a.2,b))
 else
 (AW s0.1 2 (⟨#[]⟩:ByteArray)).bind fun a=>
 (Bs a.1).bind fun c=>
 if d then
 (Aj s0.2 [AT (-c.1)]).bind fun b=>
 some (.next (a.2,b))
 else
 (Aj s0.2 [c.1]).bind fun b=>
 some (.next (a.2,b))
 else
 some (.brk (s0.1,s0.2))) (j.2,[])) (fun s0=>
 (AW s0.1 4 (⟨#[41]⟩:ByteArray)).bind fun p=>
 some (s0.2,p.2)) some
def IA[Ev](t:AB)(i:AL)(q:ByteArray):Option (AN×Int×Int):=
 (El t).bind fun l=>
 if (!l.2=0)then
 some (FH,0,l.2)
 else
 (G3 t i).bind fun m=>
 if (!m.2=0)then
 some (FH,0,m.2)
 else
 (E0 q).bind fun a=>
 if (!a.2.2=0)then
 some (FH,a.2.1,a.2.2)
 else
 (E2 i).bind fun n=>
 hV (Dy (ρ:=(AN×Int×Int)) (fun(s0:AN×AX)=>
 if (s0.2.at'<(a.1.length:Int)&&s0.2.e=0)then
 (A4 s0.2 1 (⟨#[109,111,118,101]⟩:ByteArray)).bind fun o=>
 if (o&&(s0.1.o4.length:Int)=30)then
 (BV s0.2 3).bind fun p=>
 (AW p 1 (⟨#[109,111,118,101]⟩:ByteArray)).bind fun j=>
 (AW j.2 2 (⟨#[]⟩:ByteArray)).bind fun b=>
 (Bs b.1).bind fun k=>
 (BE b.2 40 false).bind fun c=>
 (BE c.2 80 false).bind fun d=>
 (BE d.2 12 true).bind fun f=>
 (AW f.2 4 (⟨#[59]⟩:ByteArray)).bind fun g=>
 (Aj s0.1.o4 [CQ.mk k.1 (AR.mk (ec.mk c.1 d.1) f.1)]).bind fun h=>
 some (.next (AN.mk s0.1.qy h,g.2))
 else
 (AW s0.2 1 (⟨#[109,111,118,101]⟩:ByteArray)).bind fun j=>
 (AW j.2 2 (⟨#[]⟩:ByteArray)).bind fun b=>
 (Bs b.1).bind fun k=>
 (BE b.2 40 false).bind fun c=>
 (BE c.2 80 false).bind fun d=>
 (BE d.2 12 true).bind fun f=>
 (AW f.2 4 (⟨#[59]⟩:ByteArray)).bind fun g=>
 (Aj s0.1.o4 [CQ.mk k.1 (AR.mk (ec.mk c.1 d.1) f.1)]).bind fun h=>
 some (.next (AN.mk s0.1.qy h,g.2))
 else
 some (.brk (s0.1,s0.2))) (AN.mk n [],AX.mk a.1 0 0 0)) (fun s0=>
 if (!s0.2.e=0)then
 some (FH,s0.2.qw,s0.2.e)
 else
 some (s0.1,0,0)) some
def F9(a:D1)(b:D1):Fp:=
 if (!(a.length:Int)=(b.length:Int))then
 some false
 else
 hV (pq (ρ:=Bool) (fun i0 _=>
 (idx a i0).bind fun c=>
 (idx b i0).bind fun d=>
 if (!c=d)then
 some (.ret false)
 else
 some (.next ())) 0 (a.length:Int) ()) (fun _=>
 some true) some
def KT(a:ec)(b:ec):Fp:=
 (F9 a.ci b.ci).bind fun e=>
 (if e then((F9 a.d6 b.d6).bind some)else some false).bind some
def GA(a:D1)(b:D1):Fp:=
 if (!(a.length:Int)=(b.length:Int))then
 some false
 else
 hV (pq (ρ:=Bool) (fun i0 _=>
 (idx a i0).bind fun c=>
 (idx b i0).bind fun d=>
 if (!c=d)then
 some (.ret false)
 else
 some (.next ())) 0 (a.length:Int) ()) (fun _=>
 some true) some
def Fa(a:List CQ)(b:List CQ):Fp:=
 if (!(a.length:Int)=(b.length:Int))then
 some false
 else
 hV (pq (ρ:=Bool) (fun i0 _=>
 (idx a i0).bind fun c=>
 (idx b i0).bind fun d=>
 (if(!c.jj=d.jj)then some true else((idx a i0).bind fun e=>
 (idx b i0).bind fun f=>
 (KT e.qj.ec f.qj.ec).bind fun g=>
 some (!g))).bind fun h=>
 (if h then some true else((idx a i0).bind fun i=>
 (idx b i0).bind fun j=>
 (GA i.qj.k8 j.qj.k8).bind fun k=>
 some (!k))).bind fun l=>
 if l then
 some (.ret false)
 else
 some (.next ())) 0 (a.length:Int) ()) (fun _=>
 some true) some
def I3(a:d3)(b:d3):Fp:=
 (GA a.ci b.ci).bind fun c=>
 if ((!c)||(!(a.d6.length:Int)=(b.d6.length:Int)))then
 some false
 else
 hV (pq (ρ:=Bool) (fun i0 _=>
 (idx a.d6 i0).bind fun d=>
 (idx b.d6 i0).bind fun e=>
 if (!d=e)then
 some (.ret false)
 else
 some (.next ())) 0 (a.d6.length:Int) ()) (fun _=>
 some true) some
def Gt[Ev](a:D1)(b:D1):K1:=
 hV (Dy (ρ:=Int) (fun(s0:Int)=>
 if (s0<(a.length:Int)&&s0<(b.length:Int))then
 (idx a s0).bind fun c=>
 (idx b s0).bind fun d=>
 if (!c=d)then
 (idx a s0).bind fun e=>
 (idx b s0).bind fun f=>
 some (.ret (AT (e-f)))
 else
 some (.next (AT (s0+1)))
 else
 some (.brk s0)) 0) (fun s0=>
 some (AT ((a.length:Int)-(b.length:Int)))) some
def I4[Ev](a:AL)(b:AL):Fp:=
 (I3 a.d3 b.d3).bind fun c=>
 if ((!c)||(!(a.hT.length:Int)=(b.hT.length:Int)))then
 some false
 else
 hV (pq (ρ:=Bool) (fun i0 _=>
 (idx a.hT i0).bind fun d=>
 (idx b.hT i0).bind fun e=>
 (Gt d e).bind fun f=>
 if (!f=0)then
 some (.ret false)
 else
 some (.next ())) 0 (a.hT.length:Int) ()) (fun _=>
 some true) some
def I6[Ev](a:AN)(b:AN):Fp:=
 (I4 a.qy b.qy).bind fun e=>
 (if e then((Fa a.o4 b.o4).bind some)else some false).bind some
def EQ[Ev](t:AB)(c:AL)(d:ByteArray):Fp:=
 (DA).bind fun e=>
 (if(!e)then some true else((J7 t).bind fun f=>
 some (!f))).bind fun g=>
 (if g then some true else((J8 c).bind fun h=>
 some (!h))).bind fun i=>
 if (i||1500<(d.size:Int))then
 (DA).bind some
 else
 (E2 c).bind fun k=>
 (Ew t k d).bind fun a=>
 (IA t c d).bind fun b=>
 (if(a.2.2=b.2.2&&a.2.1=b.2.1)then((I6 a.1 b.1).bind some)else some false).bind some
end
end Go.Sf.Sc
