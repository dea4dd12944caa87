/- The functions of the program as Lean functions. -/
import Derived.Test.YtlbmpkmkmkgniaaGreatDoorTypes
import Derived.Test.YtlbmpkmkmkgniaaGreatDoorSfText
set_option maxRecDepth 100000
namespace Go.Sf.Sc
open Go Go.Sf
noncomputable section
def slices_Equal_int (s1_0:List Int) (s2_1:List Int):Option Bool:=
 if (!decide ((s1_0.length:Int)=(s2_1.length:Int)))=true then
 some false
 else
 thenR (forR (ρ:=Bool) (fun (i0:Int) (_:Unit)=>
 (AM s1_0 i0).bind fun x18=>
 (AM s2_1 i0).bind fun x22=>
 if (!decide (x18=x22))=true then
 some (.ret false)
 else
 some (.next ())) 0 (s1_0.length:Int) ()) (fun _=>
 some true) (fun v0=>some v0)
def J7 (c:Int):Option Bool:=
 some (((decide (97<=c))&&(decide (c<=122)))||((decide (65<=c))&&(decide (c<=90))))
def Ht [Ev] (s_0:ByteArray) (ok:Int->Option Bool):Option Int:=
 thenR (JE (ρ:=Int) (fun (s0:Int)=>
 (if (decide (s0<(s_0.size:Int)))=true then ((sidx s_0 s0).bind fun x14=>
 (ok x14).bind fun x15=>
 some (x15)) else some false).bind fun x16=>
 if x16=true then
 some (.next (A8 (s0+1)))
 else
 some (.brk s0)) 0) (fun s0=>
 some s0) (fun v0=>some v0)
def Ji (c:Int):Option Bool:=
 some ((decide (48<=c))&&(decide (c<=57)))
def Lj (c:Int):Option Bool:=
 (J7 c).bind fun x4=>
 (if x4=true then some true else ((Ji c).bind fun x7=>
 some (x7))).bind fun x8=>
 some (x8||(decide (c=95)))
def KH (c:Int):Option Bool:=
 some (((decide (32<=c))&&(decide (c<=126)))&&(!decide (c=34)))
def HQ [Ev] (s_0:ByteArray):Option (Int × Int):=
 (sslc s_0 1 s_0.size).bind fun x6=>
 (Ht x6 KH).bind fun x7=>
 (if (decide ((A8 (1+x7))=(s_0.size:Int)))=true then some true else ((sidx s_0 (A8 (1+x7))).bind fun x17=>
 some (!decide (x17=34)))).bind fun x19=>
 if x19=true then
 some (0,2)
 else
 if (decide (60<x7))=true then
 some (0,3)
 else
 some (A8 (x7+2),0)
def slices_Index_string (s_0:List ByteArray) (v_1:ByteArray):Option Int:=
 thenR (forR (ρ:=Int) (fun (i0:Int) (_:Unit)=>
 (AM s_0 i0).bind fun x14=>
 if (v_1==x14)=true then
 some (.ret i0)
 else
 some (.next ())) 0 (s_0.length:Int) ()) (fun _=>
 some (-1)) (fun v0=>some v0)
def slices_Contains_string (s_0:List ByteArray) (v_1:ByteArray):Option Bool:=
 (slices_Index_string s_0 v_1).bind fun x7=>
 some (decide (0<=x7))
def Li (s_0:ByteArray):Option Bool:=
 (if (decide (2<=(s_0.size:Int)))=true then ((sslc s_0 0 2).bind fun x9=>
 (slices_Contains_string [(⟨#[45,62]⟩:ByteArray),(⟨#[60,61]⟩:ByteArray),(⟨#[62,61]⟩:ByteArray),(⟨#[61,61]⟩:ByteArray),(⟨#[33,61]⟩:ByteArray)] x9).bind fun x10=>
 some (x10)) else some false).bind fun x11=>
 some x11
def strings_IndexByte (s:ByteArray) (c:Int):Option Int:=some (Go.Lib.indexByte s.data.toList c.toNat.toUInt8)
def Ie [Ev] (s_0:ByteArray):Option (Int × Int × Int):=
 (sidx s_0 0).bind fun x11=>
 (J7 x11).bind fun x14=>
 if x14=true then
 (Ht s_0 Lj).bind fun x16=>
 if (decide (20<x16))=true then
 some (0,0,3)
 else
 some (1,x16,0)
 else
 (Ji x11).bind fun x22=>
 if x22=true then
 (Ht s_0 Ji).bind fun x24=>
 if (decide (9<x24))=true then
 some (0,0,3)
 else
 some (2,x24,0)
 else
 if (decide (x11=34))=true then
 (HQ s_0).bind fun x33=>
 some (3,x33.1,x33.2)
 else
 (Li s_0).bind fun x40=>
 if x40=true then
 some (4,2,0)
 else
 (strings_IndexByte (⟨#[123,125,40,41,91,93,44,59,58,61,43,45,42,60,62,33,38,124,46,63]⟩:ByteArray) x11).bind fun x43=>
 if (decide (0<=x43))=true then
 some (4,1,0)
 else
 some (0,0,2)
def Io [Ev] (t:FS):Option (ByteArray × Bool):=
 (if (decide (t.Kind=3))=true then
 (Ld (⟨#[34]⟩:ByteArray) t.Text).bind fun x14=>
 (Ld x14 (⟨#[34]⟩:ByteArray)).bind fun x15=>
 some x15
 else
 some t.Text).bind fun w1=>
 if (w1==(⟨#[]⟩:ByteArray))=true then
 some ((⟨#[]⟩:ByteArray),false)
 else
 (Ie w1).bind fun x20=>
 some (w1,((decide (x20.2.2=0))&&(decide (x20.1=t.Kind)))&&(decide (x20.2.1=(w1.size:Int))))
def EX [Ev] (s_0:ByteArray):Option Bool:=
 (Io (FS.mk 1 s_0 0)).bind fun x8=>
 some x8.2
def D0 [Ev] (s_0:List CJ) (f:CJ->Option Bool):Option Int:=
 thenR (forR (ρ:=Int) (fun (i0:Int) (_:Unit)=>
 (AM s_0 i0).bind fun x14=>
 (f x14).bind fun x16=>
 if x16=true then
 some (.ret i0)
 else
 some (.next ())) 0 (s_0.length:Int) ()) (fun _=>
 some (-1)) (fun v0=>some v0)
def CW [Ev] (s_0:List CJ) (f:CJ->Option Bool):Option Bool:=
 (D0 s_0 f).bind fun x7=>
 some (decide (0<=x7))
def Ll (m:CJ) (c0:CJ):Option Bool:=
 some (m.Name==c0.Name)
def D5 [Ev]:Nat->AD->Int->Option (List Attr)
 | 0,_,_=>none
 | n+1,t,a=>
  (AM t.Nodes a).bind fun x10=>
  (if (decide (0<=x10.Parent))=true then
  (D5 n t x10.Parent).bind fun x17=>
  some x17
  else
  some []).bind fun w1=>
  (AM t.Nodes a).bind fun x22=>
  (CX w1 x22.Attrs).bind fun x25=>
  some x25
def Jj [Ev] (t:AD) (a:Int):Option (List Attr):=Hp fun n=>D5 n t a
def EN [Ev] (s_0:List Attr) (f:Attr->Option Bool):Option Int:=
 thenR (forR (ρ:=Int) (fun (i0:Int) (_:Unit)=>
 (AM s_0 i0).bind fun x14=>
 (f x14).bind fun x16=>
 if x16=true then
 some (.ret i0)
 else
 some (.next ())) 0 (s_0.length:Int) ()) (fun _=>
 some (-1)) (fun v0=>some v0)
def DO [Ev] (s_0:List Attr) (f:Attr->Option Bool):Option Bool:=
 (EN s_0 f).bind fun x7=>
 some (decide (0<=x7))
def Iw (y:Attr) (c0:Attr):Option Bool:=
 some (y.Name==c0.Name)
def Hv [Ev] (l:List ByteArray):Option Int:=
 if (decide (20<(l.length:Int)))=true then
 some 3
 else
 thenR (forR (ρ:=Int) (fun (i0:Int) (_:Unit)=>
 (AM l i0).bind fun x13=>
 (EX x13).bind fun x17=>
 if (!x17)=true then
 some (.ret 2)
 else
 (slc l 0 i0).bind fun x22=>
 (slices_Contains_string x22 x13).bind fun x24=>
 if x24=true then
 some (.ret 5)
 else
 some (.next ())) 0 (l.length:Int) ()) (fun _=>
 some 0) (fun v0=>some v0)
def FJ [Ev] (x_0:Attr) (before:List Attr):Option Int:=
 (EX x_0.Name).bind fun x10=>
 if (!x10)=true then
 some 2
 else
 (DO before (fun y0=>Iw y0 x_0)).bind fun x15=>
 if x15=true then
 some 5
 else
 (Hv x_0.Names).bind fun x18=>
 if (!decide (x18=0))=true then
 some x18
 else
 (if (decide (0<(x_0.Names.length:Int)))=true then
 some ((decide (x_0.Low=0))&&(decide (x_0.High=(A8 ((x_0.Names.length:Int) - 1)))))
 else
 some (((decide ((-1000000)<=x_0.Low))&&(decide (x_0.Low<=x_0.High)))&&(decide (x_0.High<=1000000)))).bind fun w1=>
 if (!w1)=true then
 some 6
 else
 some 0
def Ih [Ev] (t:AD) (i_1:Int):Option Int:=
 (AM t.Nodes i_1).bind fun x12=>
 (EX x12.Name).bind fun x17=>
 if (!x17)=true then
 some 2
 else
 (slc t.Nodes 0 i_1).bind fun x23=>
 (CW x23 (fun y0=>Ll y0 x12)).bind fun x25=>
 if x25=true then
 some 5
 else
 if ((decide (x12.Parent<(-1)))||(decide (i_1<=x12.Parent)))=true then
 some 6
 else
 if (decide (4<(x12.Attrs.length:Int)))=true then
 some 3
 else
 (Jj t i_1).bind fun x43=>
 if (decide (8<(x43.length:Int)))=true then
 some 3
 else
 thenR (forR (ρ:=Int) (fun (i1:Int) (_:Unit)=>
 (AM x43 i1).bind fun x61=>
 (slc x43 0 i1).bind fun x65=>
 (FJ x61 x65).bind fun x66=>
 if (!decide (x66=0))=true then
 some (.ret x66)
 else
 some (.next ())) (A8 ((x43.length:Int) - (x12.Attrs.length:Int))) (x43.length:Int) ()) (fun _=>
 some 0) (fun v1=>some v1)
def J8 (n:Int) (c0:AD):Option Bool:=
 some ((decide (0<=n))&&(decide (n<(c0.Nodes.length:Int))))
def DZ [Ev] (s_0:List CZ) (f:CZ->Option Bool):Option Int:=
 thenR (forR (ρ:=Int) (fun (i0:Int) (_:Unit)=>
 (AM s_0 i0).bind fun x14=>
 (f x14).bind fun x16=>
 if x16=true then
 some (.ret i0)
 else
 some (.next ())) 0 (s_0.length:Int) ()) (fun _=>
 some (-1)) (fun v0=>some v0)
def CU [Ev] (s_0:List CZ) (f:CZ->Option Bool):Option Bool:=
 (DZ s_0 f).bind fun x7=>
 some (decide (0<=x7))
def Lk (y:CZ) (c0:CZ):Option Bool:=
 some (y.Name==c0.Name)
def Jb (low:Int) (high:Int):Option Bool:=
 some (((decide (0<=low))&&(decide (low<=40)))&&((decide (high=(-1)))||((decide (low<=high))&&(decide (high<=40)))))
def Ig [Ev] (t:AD) (i_1:Int):Option Int:=
 (AM t.Edges i_1).bind fun x10=>
 (EX x10.Name).bind fun x16=>
 if (!x16)=true then
 some 2
 else
 (slc t.Edges 0 i_1).bind fun x22=>
 (CU x22 (fun y0=>Lk y0 x10)).bind fun x24=>
 if x24=true then
 some 5
 else
 (J8 x10.From t).bind fun x29=>
 (if (!x29)=true then some true else ((J8 x10.To t).bind fun x35=>
 some (!x35))).bind fun x37=>
 (if x37=true then
 some x37
 else
 (Jb x10.OutLow x10.OutHigh).bind fun x42=>
 (if (!x42)=true then some true else ((Jb x10.InLow x10.InHigh).bind fun x49=>
 some (!x49))).bind fun x51=>
 some x51).bind fun w1=>
 if w1=true then
 some 6
 else
 some 0
def FR [Ev] (t:AD):Option (ByteArray × Int):=
 if (decide ((t.Nodes.length:Int)=0))=true then
 some ((⟨#[]⟩:ByteArray),7)
 else
 if ((decide (12<(t.Nodes.length:Int)))||(decide (20<(t.Edges.length:Int))))=true then
 some ((⟨#[]⟩:ByteArray),3)
 else
 thenR (forR (ρ:=(ByteArray × Int)) (fun (i1:Int) (_:Unit)=>
 (AM t.Nodes i1).bind fun x32=>
 (Ih t i1).bind fun x36=>
 if (!decide (x36=0))=true then
 some (.ret (x32.Name,x36))
 else
 some (.next ())) 0 (t.Nodes.length:Int) ()) (fun _=>
 thenR (forR (ρ:=(ByteArray × Int)) (fun (i3:Int) (_:Unit)=>
 (AM t.Edges i3).bind fun x49=>
 (Ig t i3).bind fun x53=>
 if (!decide (x53=0))=true then
 some (.ret (x49.Name,x53))
 else
 some (.next ())) 0 (t.Edges.length:Int) ()) (fun _=>
 some ((⟨#[]⟩:ByteArray),0)) (fun v3=>some v3)) (fun v1=>some v1)
def E4 [Ev] (s_0:List Int) (f:Int->Option Bool):Option Int:=
 thenR (forR (ρ:=Int) (fun (i0:Int) (_:Unit)=>
 (AM s_0 i0).bind fun x14=>
 (f x14).bind fun x16=>
 if x16=true then
 some (.ret i0)
 else
 some (.next ())) 0 (s_0.length:Int) ()) (fun _=>
 some (-1)) (fun v0=>some v0)
def BN [Ev] (s_0:List Int) (f:Int->Option Bool):Option Bool:=
 (E4 s_0 f).bind fun x7=>
 some (decide (0<=x7))
def H5 (n:Int) (most:Int):Option Bool:=
 some ((decide (0<=n))&&(decide (n<=most)))
def Kn (t:Int):Option Bool:=
 (H5 t 99).bind fun x4=>
 some (!x4)
def EO [Ev] (s_0:List DQ) (f:DQ->Option Bool):Option Int:=
 thenR (forR (ρ:=Int) (fun (i0:Int) (_:Unit)=>
 (AM s_0 i0).bind fun x14=>
 (f x14).bind fun x16=>
 if x16=true then
 some (.ret i0)
 else
 some (.next ())) 0 (s_0.length:Int) ()) (fun _=>
 some (-1)) (fun v0=>some v0)
def B7 [Ev] (s_0:List DQ) (f:DQ->Option Bool):Option Bool:=
 (EO s_0 f).bind fun x7=>
 some (decide (0<=x7))
def LT (e:DQ) (nodes:Int):Option Bool:=
 (H5 e.Type' 99).bind fun x7=>
 (if x7=true then ((H5 e.From (A8 (nodes - 1))).bind fun x13=>
 some (x13)) else some false).bind fun x14=>
 (if x14=true then ((H5 e.To (A8 (nodes - 1))).bind fun x20=>
 some (x20)) else some false).bind fun x21=>
 some x21
def Ko (e:DQ) (c0:Graph):Option Bool:=
 (LT e (c0.Nodes.length:Int)).bind fun x8=>
 some (!x8)
def EE [Ev] (g:Graph):Option Int:=
 if ((decide (40<(g.Nodes.length:Int)))||(decide (80<(g.Edges.length:Int))))=true then
 some 3
 else
 (BN g.Nodes Kn).bind fun x15=>
 if x15=true then
 some 6
 else
 (B7 g.Edges (fun y0=>Ko y0 g)).bind fun x19=>
 if x19=true then
 some 6
 else
 some 0
def Kt (a:Int) (c0:AD):Option Bool:=
 some ((decide (a<0))||(decide ((c0.Nodes.length:Int)<=a)))
def GF [Ev] (t:AD) (l:List Int):Option Int:=
 (FR t).bind fun x9=>
 if (!decide (x9.2=0))=true then
 some x9.2
 else
 (BN l (fun y0=>Kt y0 t)).bind fun x17=>
 if x17=true then
 some 6
 else
 some 0
def slices_Clone_string (s_0:List ByteArray):Option (List ByteArray):=
 CX [] s_0
def HC [Ev] (t:AD) (a:Int):Option (List Attr × Int):=
 (GF t [a]).bind fun x12=>
 if (!decide (x12=0))=true then
 some ([],x12)
 else
 (Jj t a).bind fun x18=>
 (forA (fun (i0:Int) (s0:List Attr)=>
 (AM s0 i0).bind fun x28=>
 (slices_Clone_string x28.Names).bind fun x31=>
 (AM s0 i0).bind fun x32=>
 some (CB s0 i0 (Attr.mk x32.Name x32.Low x32.High x31))) 0 (x18.length:Int) x18).bind fun s0=>
 some (s0,0)
def JA [Ev] (t:AD) (kind:Int) (DC:List Int):Option Int:=
 if (decide ((t.Nodes.length:Int)<=kind))=true then
 some 6
 else
 (AM t.Nodes kind).bind fun x19=>
 if x19.Abstract=true then
 some 13
 else
 (HC t kind).bind fun x25=>
 if (!decide ((DC.length:Int)=(x25.1.length:Int)))=true then
 some 20
 else
 thenR (forR (ρ:=Int) (fun (i0:Int) (_:Unit)=>
 (AM x25.1 i0).bind fun x38=>
 (AM DC i0).bind fun x42=>
 (if (decide (x42<x38.Low))=true then some true else ((AM DC i0).bind fun x50=>
 some (decide (x38.High<x50)))).bind fun x55=>
 if x55=true then
 some (.ret 6)
 else
 some (.next ())) 0 (x25.1.length:Int) ()) (fun _=>
 some 0) (fun v0=>some v0)
def slices_Index_int (s_0:List Int) (v_1:Int):Option Int:=
 thenR (forR (ρ:=Int) (fun (i0:Int) (_:Unit)=>
 (AM s_0 i0).bind fun x14=>
 if (decide (v_1=x14))=true then
 some (.ret i0)
 else
 some (.next ())) 0 (s_0.length:Int) ()) (fun _=>
 some (-1)) (fun v0=>some v0)
def slices_Contains_int (s_0:List Int) (v_1:Int):Option Bool:=
 (slices_Index_int s_0 v_1).bind fun x7=>
 some (decide (0<=x7))
def slices_Reverse_int (l:List Int):Option (List Int):=if l.length<=B9 then some l.reverse else none
def JR [Ev] (t:AD) (a:Int):Option (List Int):=
 thenR (JE (ρ:=(List Int)) (fun (s0:Int × List Int)=>
 if (decide (0<=s0.1))=true then
 (CX s0.2 [s0.1]).bind fun x17=>
 (AM t.Nodes s0.1).bind fun x11=>
 some (.next (x11.Parent,x17))
 else
 some (.brk (s0.1,s0.2))) (a,[])) (fun s0=>
 (slices_Reverse_int s0.2).bind fun x19=>
 some x19) (fun v0=>some v0)
def Ip [Ev] (t:AD) (a:Int) (b:Int):Option Bool:=
 (JR t a).bind fun x9=>
 (slices_Contains_int x9 b).bind fun x11=>
 some x11
def If [Ev] (t:AD) (edge:Int) (from':Int) (to':Int):Option Bool:=
 (GF t [from',to']).bind fun x13=>
 if (((!decide (x13=0))||(decide (edge<0)))||(decide ((t.Edges.length:Int)<=edge)))=true then
 some false
 else
 (AM t.Edges edge).bind fun x31=>
 (Ip t from' x31.From).bind fun x34=>
 (if x34=true then ((AM t.Edges edge).bind fun x41=>
 (Ip t to' x41.To).bind fun x44=>
 some (x44)) else some false).bind fun x45=>
 some x45
def G4 [Ev] (t:AD) (h_1:A0):Option (Int × Int):=
 (FR t).bind fun x16=>
 if (!decide (x16.2=0))=true then
 some ((-1),x16.2)
 else
 (EE h_1.Graph).bind fun x24=>
 if (!decide (x24=0))=true then
 some ((-1),x24)
 else
 if (!decide ((h_1.Values.length:Int)=(h_1.Graph.Nodes.length:Int)))=true then
 some ((-1),20)
 else
 thenR (forR (ρ:=(Int × Int)) (fun (i0:Int) (_:Unit)=>
 (AM h_1.Graph.Nodes i0).bind fun x43=>
 (AM h_1.Values i0).bind fun x50=>
 (JA t x43 x50).bind fun x52=>
 if (!decide (x52=0))=true then
 some (.ret (i0,x52))
 else
 some (.next ())) 0 (h_1.Graph.Nodes.length:Int) ()) (fun _=>
 thenR (forR (ρ:=(Int × Int)) (fun (i2:Int) (_:Unit)=>
 (AM h_1.Graph.Edges i2).bind fun x65=>
 if (decide ((t.Edges.length:Int)<=x65.Type'))=true then
 some (.ret (i2,6))
 else
 (AM h_1.Graph.Nodes x65.From).bind fun x82=>
 (AM h_1.Graph.Nodes x65.To).bind fun x89=>
 (If t x65.Type' x82 x89).bind fun x91=>
 if (!x91)=true then
 some (.ret (i2,13))
 else
 some (.next ())) 0 (h_1.Graph.Edges.length:Int) ()) (fun _=>
 some ((-1),0)) (fun v2=>some v2)) (fun v0=>some v0)
def Hh (n:Int) (c0:AD):Option Bool:=
 some (decide ((c0.Nodes.length:Int)<=n))
def Hi (x_0:DQ) (c0:AD):Option Bool:=
 some (decide ((c0.Edges.length:Int)<=x_0.Type'))
def DL (n:Int) (low:Int) (high:Int):Option Bool:=
 some ((decide (low<=n))&&(decide (n<=high)))
def F4 [Ev] (t:AD) (p:Pattern) (s_2:D4):Option (Attr × Bool):=
 (DL s_2.Node 0 (A8 ((p.Graph.Nodes.length:Int) - 1))).bind fun x17=>
 if (!x17)=true then
 some (Attr.mk (⟨#[]⟩:ByteArray) 0 0 [],false)
 else
 (AM p.Graph.Nodes s_2.Node).bind fun x27=>
 (HC t x27).bind fun x29=>
 (DL s_2.Attr 0 (A8 ((x29.1.length:Int) - 1))).bind fun x37=>
 if (!x37)=true then
 some (Attr.mk (⟨#[]⟩:ByteArray) 0 0 [],false)
 else
 (AM x29.1 s_2.Attr).bind fun x43=>
 some (x43,true)
def IQ (n:Int) (t:Term):Option Bool:=
 some ((((decide ((-1)<=t.Var))&&(decide (t.Var<n)))&&(decide ((-1000000)<=t.Add)))&&(decide (t.Add<=1000000)))
def I0 (n:Int) (x_1:Test):Option Int:=
 if ((!decide (x_1.Kind=1))&&(!decide (x_1.Kind=2)))=true then
 some 1
 else
 (IQ n x_1.Left).bind fun x18=>
 (if (!x18)=true then some true else ((IQ n x_1.Right).bind fun x24=>
 some (!x24))).bind fun x26=>
 if x26=true then
 some 6
 else
 some 0
def H3 (n:Int) (l:List Test):Option Int:=
 if ((decide (n<0))||(decide (12<n)))=true then
 some 6
 else
 if (decide (40<(l.length:Int)))=true then
 some 3
 else
 thenR (forR (ρ:=Int) (fun (i0:Int) (_:Unit)=>
 (AM l i0).bind fun x21=>
 (I0 n x21).bind fun x25=>
 if (!decide (x25=0))=true then
 some (.ret x25)
 else
 some (.next ())) 0 (l.length:Int) ()) (fun _=>
 some 0) (fun v0=>some v0)
def Iu (s_0:List Bool) (v_1:Bool):Option Int:=
 thenR (forR (ρ:=Int) (fun (i0:Int) (_:Unit)=>
 (AM s_0 i0).bind fun x14=>
 if (v_1==x14)=true then
 some (.ret i0)
 else
 some (.next ())) 0 (s_0.length:Int) ()) (fun _=>
 some (-1)) (fun v0=>some v0)
def GO (s_0:List Bool) (v_1:Bool):Option Bool:=
 (Iu s_0 v_1).bind fun x7=>
 some (decide (0<=x7))
def D6 [Ev] (t:AD) (p:Pattern):Option Int:=
 (FR t).bind fun x16=>
 if (!decide (x16.2=0))=true then
 some x16.2
 else
 (EE p.Graph).bind fun x24=>
 if (!decide (x24=0))=true then
 some x24
 else
 (BN p.Graph.Nodes (fun y0=>Hh y0 t)).bind fun x32=>
 (if x32=true then some true else ((B7 p.Graph.Edges (fun y0=>Hi y0 t)).bind fun x38=>
 some (x38))).bind fun x39=>
 if x39=true then
 some 13
 else
 (DL p.Vars 0 12).bind fun x42=>
 if (!x42)=true then
 some 6
 else
 if ((decide (10<(p.Slots.length:Int)))||(decide (10<(p.Tests.length:Int))))=true then
 some 3
 else
 (KM p.Vars false).bind fun x56=>
 thenR (forR (ρ:=Int) (fun (i0:Int) (s0:List Bool)=>
 (AM p.Slots i0).bind fun x62=>
 (F4 t p x62).bind fun x68=>
 (if (!x68.2)=true then some true else ((DL x62.Term.Var (-1) (A8 (p.Vars - 1))).bind fun x80=>
 some (!x80))).bind fun x82=>
 (if x82=true then some true else ((DL x62.Term.Add (-1000000) 1000000).bind fun x87=>
 some (!x87))).bind fun x89=>
 if x89=true then
 some (.ret 6)
 else
 if (decide (0<=x62.Term.Var))=true then
 (AM s0 x62.Term.Var).bind fun x98=>
 some (.next (CB s0 x62.Term.Var true))
 else
 some (.next s0)) 0 (p.Slots.length:Int) x56) (fun s0=>
 (H3 p.Vars p.Tests).bind fun x104=>
 if (!decide (x104=0))=true then
 some x104
 else
 (GO s0 false).bind fun x109=>
 if x109=true then
 some 9
 else
 some 0) (fun v0=>some v0)
def DT [Ev] (s_0:List AA) (f:AA->Option Bool):Option Int:=
 thenR (forR (ρ:=Int) (fun (i0:Int) (_:Unit)=>
 (AM s_0 i0).bind fun x14=>
 (f x14).bind fun x16=>
 if x16=true then
 some (.ret i0)
 else
 some (.next ())) 0 (s_0.length:Int) ()) (fun _=>
 some (-1)) (fun v0=>some v0)
def BV [Ev] (s_0:List AA) (f:AA->Option Bool):Option Bool:=
 (DT s_0 f).bind fun x7=>
 some (decide (0<=x7))
def F5 (c:AA):Option Bool:=
 some ((decide ((A8 ((A8 ((A8 ((A8 ((A8 ((c.Map.Nodes.length:Int)+(c.Map.Edges.length:Int)))+(c.Pattern.Graph.Nodes.length:Int)))+(c.Pattern.Graph.Edges.length:Int)))+(c.Pattern.Slots.length:Int)))+(c.Pattern.Tests.length:Int)))=0))&&(decide (c.Pattern.Vars=0)))
mutual
def BW [Ev]:Nat->AA->Option Bool
 | 0,_=>none
 | n+1,c=>
  (if (decide (c.Kind=1))=true then
  (if (decide ((c.Kids.length:Int)=0))=true then ((F5 c).bind fun x16=>
  some (x16)) else some false).bind fun x17=>
  some x17
  else
  if (decide (c.Kind=2))=true then
  (if (decide ((c.Kids.length:Int)=1))=true then ((F5 c).bind fun x24=>
  some (x24)) else some false).bind fun x25=>
  some x25
  else
  if (decide (c.Kind=3))=true then
  if (decide (c.Kind=3))=true then
  (if (decide (1<=(c.Kids.length:Int)))=true then ((F5 c).bind fun x33=>
  some (x33)) else some false).bind fun x34=>
  some x34
  else
  if (decide (c.Kind=5))=true then
  some (decide ((c.Kids.length:Int)=1))
  else
  some false
  else
  if (decide (c.Kind=4))=true then
  (if (decide (1<=(c.Kids.length:Int)))=true then ((F5 c).bind fun x33=>
  some (x33)) else some false).bind fun x34=>
  some x34
  else
  if (decide (c.Kind=5))=true then
  some (decide ((c.Kids.length:Int)=1))
  else
  some false).bind fun w1=>
  (if w1=true then ((BV c.Kids (B6 n)).bind fun x43=>
  some (!x43)) else some false).bind fun x45=>
  some x45
def B6 [Ev]:Nat->AA->Option Bool
 | 0,_=>none
 | n+1,k=>
  (BW n k).bind fun x4=>
  some (!x4)
end
def GJ [Ev] (c:AA):Option Bool:=Hp fun n=>BW n c
def N6 [Ev] (k:AA):Option Bool:=Hp fun n=>B6 n k
def C0 [Ev]:Nat->AA->Option (Int × Int)
 | 0,_=>none
 | n+1,c=>
  (forA (fun (i0:Int) (s0:Int × Int)=>
  (AM c.Kids i0).bind fun x15=>
  (C0 n x15).bind fun x19=>
  some (A8 (s0.1+x19.1),max s0.2 x19.2)) 0 (c.Kids.length:Int) (1,0)).bind fun s0=>
  (if (decide (c.Kind=5))=true then
  some (A8 (s0.2+1))
  else
  some s0.2).bind fun w1=>
  some (s0.1,w1)
def Hj [Ev] (c:AA):Option (Int × Int):=Hp fun n=>C0 n c
def FE [Ev] (c:AA):Option Int:=
 (GJ c).bind fun x6=>
 if (!x6)=true then
 some 1
 else
 (Hj c).bind fun x10=>
 if ((decide (12<x10.1))||(decide (3<x10.2)))=true then
 some 3
 else
 some 0
def EP [Ev] (s_0:List D4) (f:D4->Option Bool):Option Int:=
 thenR (forR (ρ:=Int) (fun (i0:Int) (_:Unit)=>
 (AM s_0 i0).bind fun x14=>
 (f x14).bind fun x16=>
 if x16=true then
 some (.ret i0)
 else
 some (.next ())) 0 (s_0.length:Int) ()) (fun _=>
 some (-1)) (fun v0=>some v0)
def DP [Ev] (s_0:List D4) (f:D4->Option Bool):Option Bool:=
 (EP s_0 f).bind fun x7=>
 some (decide (0<=x7))
def IC (s_0:D4) (c0:Int):Option Bool:=
 some (decide (s_0.Term.Var=c0))
def EH [Ev] (t:AD) (q:Pattern) (outer:Int):Option Int:=
 (D6 t q).bind fun x11=>
 if (!decide (x11=9))=true then
 some x11
 else
 thenR (JE (ρ:=Int) (fun (s0:Int)=>
 if (decide (s0<q.Vars))=true then
 (DP q.Slots (fun y0=>IC y0 s0)).bind fun x25=>
 if (!x25)=true then
 some (.ret x11)
 else
 some (.next (A8 (s0+1)))
 else
 some (.brk s0)) outer) (fun s0=>
 some 0) (fun v0=>some v0)
def E0 [Ev] (a:Graph) (b:Graph) (m:Morphism):Option Int:=
 (EE a).bind fun x16=>
 if (!decide (x16=0))=true then
 some x16
 else
 (EE b).bind fun x21=>
 if (!decide (x21=0))=true then
 some x21
 else
 if ((!decide ((m.Nodes.length:Int)=(a.Nodes.length:Int)))||(!decide ((m.Edges.length:Int)=(a.Edges.length:Int))))=true then
 some 20
 else
 thenR (forR (ρ:=Int) (fun (i0:Int) (_:Unit)=>
 (AM m.Nodes i0).bind fun x47=>
 if ((decide (x47<0))||(decide ((b.Nodes.length:Int)<=x47)))=true then
 some (.ret 6)
 else
 (AM b.Nodes x47).bind fun x61=>
 (AM a.Nodes i0).bind fun x66=>
 if (!decide (x61=x66))=true then
 some (.ret 13)
 else
 some (.next ())) 0 (m.Nodes.length:Int) ()) (fun _=>
 thenR (forR (ρ:=Int) (fun (i2:Int) (_:Unit)=>
 (AM m.Edges i2).bind fun x76=>
 if ((decide (x76<0))||(decide ((b.Edges.length:Int)<=x76)))=true then
 some (.ret 6)
 else
 (AM a.Edges i2).bind fun x90=>
 (AM b.Edges x76).bind fun x95=>
 if (!decide (x90.Type'=x95.Type'))=true then
 some (.ret 13)
 else
 (AM m.Nodes x90.From).bind fun x106=>
 (if (!decide (x106=x95.From))=true then some true else ((AM m.Nodes x90.To).bind fun x116=>
 some (!decide (x116=x95.To)))).bind fun x121=>
 if x121=true then
 some (.ret 11)
 else
 some (.next ())) 0 (m.Edges.length:Int) ()) (fun _=>
 some 0) (fun v2=>some v2)) (fun v0=>some v0)
def slices_Clone_int (s_0:List Int):Option (List Int):=
 CX [] s_0
def slices_Sort_int (l:List Int):Option (List Int):=if l.length<=B9 then some (Np l) else none
def slices_Compact_int (l:List Int):Option (List Int):=if l.length<=B9 then some (Go.Lib.compact l) else none
def HZ (l:List Int):Option Int:=
 (slices_Clone_int l).bind fun x5=>
 (slices_Sort_int x5).bind fun x7=>
 (slices_Compact_int x7).bind fun x9=>
 some (x9.length:Int)
def D9 [Ev] (a:Graph) (b:Graph) (m:Morphism):Option Bool:=
 (E0 a b m).bind fun x10=>
 (if (decide (x10=0))=true then ((HZ m.Nodes).bind fun x15=>
 some (decide (x15=(m.Nodes.length:Int)))) else some false).bind fun x20=>
 (if x20=true then ((HZ m.Edges).bind fun x24=>
 some (decide (x24=(m.Edges.length:Int)))) else some false).bind fun x29=>
 some x29
def CN [Ev]:Nat->AD->Pattern->AA->Option Int
 | 0,_,_,_=>none
 | n+1,t,p,c=>
  if (decide (c.Kind=5))=true then
  if (decide (c.Pattern.Vars<p.Vars))=true then
  some 20
  else
  (EH t c.Pattern p.Vars).bind fun x27=>
  if (!decide (x27=0))=true then
  some x27
  else
  (E0 p.Graph c.Pattern.Graph c.Map).bind fun x37=>
  if (!decide (x37=0))=true then
  some x37
  else
  (D9 p.Graph c.Pattern.Graph c.Map).bind fun x47=>
  if (!x47)=true then
  some 1
  else
  thenR (forR (ρ:=Int) (fun (i0:Int) (_:Unit)=>
  (AM c.Kids i0).bind fun x55=>
  (CN n t c.Pattern x55).bind fun x60=>
  if (!decide (x60=0))=true then
  some (.ret x60)
  else
  some (.next ())) 0 (c.Kids.length:Int) ()) (fun _=>
  some 0) (fun v0=>some v0)
  else
  thenR (forR (ρ:=Int) (fun (i0:Int) (_:Unit)=>
  (AM c.Kids i0).bind fun x55=>
  (CN n t p x55).bind fun x60=>
  if (!decide (x60=0))=true then
  some (.ret x60)
  else
  some (.next ())) 0 (c.Kids.length:Int) ()) (fun _=>
  some 0) (fun v0=>some v0)
def JL [Ev] (t:AD) (p:Pattern) (c:AA):Option Int:=Hp fun n=>CN n t p c
def D7 [Ev] (t:AD) (p:Pattern) (c:AA):Option Int:=
 (D6 t p).bind fun x11=>
 if (!decide (x11=0))=true then
 some x11
 else
 (FE c).bind fun x16=>
 if (!decide (x16=0))=true then
 some x16
 else
 (JL t p c).bind fun x23=>
 some x23
def Jn (n:Int) (c0:AD):Option Bool:=
 some (decide ((c0.Nodes.length:Int)<=n))
def Jo (x_0:DQ) (c0:AD):Option Bool:=
 some (decide ((c0.Edges.length:Int)<=x_0.Type'))
def FX [Ev] (t:AD) (g:Graph):Option Bool:=
 (BN g.Nodes (fun y0=>Jn y0 t)).bind fun x8=>
 (if (!x8)=true then ((B7 g.Edges (fun y0=>Jo y0 t)).bind fun x14=>
 some (!x14)) else some false).bind fun x16=>
 some x16
def GN [Ev] (t:AD) (p:Graph) (g:Graph):Option Int:=
 (FR t).bind fun x14=>
 if (!decide (x14.2=0))=true then
 some x14.2
 else
 thenR (forR (ρ:=Int) (fun (i0:Int) (_:Unit)=>
 (AM [p,g] i0).bind fun x26=>
 (EE x26).bind fun x29=>
 if (!decide (x29=0))=true then
 some (.ret x29)
 else
 some (.next ())) 0 ([p,g].length:Int) ()) (fun _=>
 (FX t p).bind fun x36=>
 (if (!x36)=true then some true else ((FX t g).bind fun x41=>
 some (!x41))).bind fun x43=>
 if x43=true then
 some 13
 else
 some 0) (fun v0=>some v0)
def Hu [Ev] (t:AD) (a:Int):Option (List Int × Int):=
 (GF t [a]).bind fun x12=>
 if (!decide (x12=0))=true then
 some ([],x12)
 else
 (forA (fun (i0:Int) (s0:List Int)=>
 (Ip t i0 a).bind fun x25=>
 if x25=true then
 (CX s0 [i0]).bind fun x29=>
 some x29
 else
 some s0) 0 (t.Nodes.length:Int) []).bind fun s0=>
 some (s0,0)
def GM [Ev] (t:AD):Option (List (List Bool)):=
 (forA (fun (i0:Int) (s0:List (List Bool))=>
 (KM (t.Nodes.length:Int) false).bind fun x19=>
 (Hu t i0).bind fun x23=>
 (forA (fun (i2:Int) (s2:List Bool)=>
 (AM x23.1 i2).bind fun x30=>
 (AM s2 x30).bind fun x34=>
 some (CB s2 x30 true)) 0 (x23.1.length:Int) x19).bind fun s2=>
 (CX s0 [s2]).bind fun x39=>
 some x39) 0 (t.Nodes.length:Int) []).bind fun s0=>
 some s0
def HO [Ev] (t:AD) (p:Graph) (g:Graph) (m:Morphism):Option Int:=
 if ((!decide ((m.Nodes.length:Int)=(p.Nodes.length:Int)))||(!decide ((m.Edges.length:Int)=(p.Edges.length:Int))))=true then
 some 20
 else
 (GM t).bind fun x33=>
 thenR (forR (ρ:=Int) (fun (i0:Int) (_:Unit)=>
 (AM m.Nodes i0).bind fun x40=>
 if ((decide (x40<0))||(decide ((g.Nodes.length:Int)<=x40)))=true then
 some (.ret 6)
 else
 (AM p.Nodes i0).bind fun x55=>
 (AM x33 x55).bind fun x57=>
 (AM g.Nodes x40).bind fun x62=>
 (AM x57 x62).bind fun x64=>
 if (!x64)=true then
 some (.ret 13)
 else
 some (.next ())) 0 (m.Nodes.length:Int) ()) (fun _=>
 thenR (forR (ρ:=Int) (fun (i2:Int) (_:Unit)=>
 (AM m.Edges i2).bind fun x74=>
 if ((decide (x74<0))||(decide ((g.Edges.length:Int)<=x74)))=true then
 some (.ret 6)
 else
 (AM p.Edges i2).bind fun x88=>
 (AM g.Edges x74).bind fun x93=>
 if (!decide (x88.Type'=x93.Type'))=true then
 some (.ret 13)
 else
 (AM m.Nodes x88.From).bind fun x104=>
 (if (!decide (x104=x93.From))=true then some true else ((AM m.Nodes x88.To).bind fun x114=>
 some (!decide (x114=x93.To)))).bind fun x119=>
 if x119=true then
 some (.ret 11)
 else
 some (.next ())) 0 (m.Edges.length:Int) ()) (fun _=>
 some 0) (fun v2=>some v2)) (fun v0=>some v0)
def IB (l:List Int):Option Bool:=if l.length<=4096 then some (dupB l) else none
def GL [Ev] (t:AD) (p:Graph) (g:Graph) (m:Morphism) (injective:Bool):Option Int:=
 (GN t p g).bind fun x16=>
 if (!decide (x16=0))=true then
 some x16
 else
 (HO t p g m).bind fun x24=>
 if (!decide (x24=0))=true then
 some x24
 else
 (if injective=true then ((IB m.Nodes).bind fun x32=>
 (if x32=true then some true else ((IB m.Edges).bind fun x36=>
 some (x36))).bind fun x37=>
 some (x37)) else some false).bind fun x38=>
 if x38=true then
 some 5
 else
 some 0
def FA [Ev] (t:AD) (p:Pattern) (h_2:A0):Option Int:=
 (D6 t p).bind fun x12=>
 if (!decide (x12=0))=true then
 some x12
 else
 (G4 t h_2).bind fun x19=>
 some x19.2
def IW (a b c:Int):Option (Int × Int):=if (0<=a∧a<18446744073709551616)∧(0<=b∧b<18446744073709551616)∧0<=c∧c<=1 then some ((a+b+c) % 18446744073709551616,(a+b+c) / 18446744073709551616) else none
def HV (a:Int) (b:Int):Option (Int × Int):=
 (IW (IntKind.u64.wrap a) (IntKind.u64.wrap b) 0).bind fun x13=>
 (KW .i64 .shr a 63).bind fun x17=>
 (KW .i64 .shr b 63).bind fun x19=>
 some (A8 ((A8 (x17+x19))+(A8 x13.2)),x13.1)
def F6 (t:Term) (c0:List Int):Option (Int × Int × Bool):=
 if (decide (t.Var=(-1)))=true then
 (HV 0 t.Add).bind fun x17=>
 some (x17.1,x17.2,true)
 else
 if ((decide (t.Var<0))||(decide ((c0.length:Int)<=t.Var)))=true then
 some (0,0,false)
 else
 (AM c0 t.Var).bind fun x37=>
 (HV x37 t.Add).bind fun x41=>
 some (x41.1,x41.2,true)
def LM (vals:List Int):Option Int:=
 thenR (forR (ρ:=Int) (fun (i0:Int) (_:Unit)=>
 (AM vals i0).bind fun x10=>
 if (!decide (x10=0))=true then
 some (.ret x10)
 else
 some (.next ())) 0 (vals.length:Int) ()) (fun _=>
 some 0) (fun v0=>some v0)
def cmp_isNaN_int (x_0:Int):Option Bool:=
 some (!decide (x_0=x_0))
def cmp_Compare_int (x_0:Int) (y:Int):Option Int:=
 (cmp_isNaN_int x_0).bind fun x8=>
 (cmp_isNaN_int y).bind fun x10=>
 if x8=true then
 if x10=true then
 some 0
 else
 some (-1)
 else
 if x10=true then
 some 1
 else
 if (decide (x_0<y))=true then
 some (-1)
 else
 if (decide (y<x_0))=true then
 some 1
 else
 some 0
def JK (x_0:Int):Option Bool:=
 some (!decide (x_0=x_0))
def IP (x_0:Int) (y:Int):Option Int:=
 (JK x_0).bind fun x8=>
 (JK y).bind fun x10=>
 if x8=true then
 if x10=true then
 some 0
 else
 some (-1)
 else
 if x10=true then
 some 1
 else
 if (decide (x_0<y))=true then
 some (-1)
 else
 if (decide (y<x_0))=true then
 some 1
 else
 some 0
def F1 (x_0:Test) (DC:List Int):Option Bool:=
 (F6 x_0.Left DC).bind fun x18=>
 (F6 x_0.Right DC).bind fun x26=>
 if ((!x18.2.2)||(!x26.2.2))=true then
 some false
 else
 (cmp_Compare_int x18.1 x26.1).bind fun x38=>
 (IP x18.2.1 x26.2.1).bind fun x41=>
 (LM [x38,x41]).bind fun x43=>
 some (((decide (x_0.Kind=1))&&(decide (x43<=0)))||((decide (x_0.Kind=2))&&(decide (x43=0))))
def FB (x_0:Term) (DC:List Int):Option Int:=
 if (decide (x_0.Var<0))=true then
 some x_0.Add
 else
 (AM DC x_0.Var).bind fun x13=>
 some (A8 (x13+x_0.Add))
def IL (p:Pattern) (h_1:A0) (m:Morphism):Option (List Int × Int):=
 (KM p.Vars 0).bind fun x18=>
 (KM p.Vars false).bind fun x21=>
 thenR (forR (ρ:=(List Int × Int)) (fun (i0:Int) (s0:List Int × List Bool)=>
 (AM p.Slots i0).bind fun x27=>
 (AM m.Nodes x27.Node).bind fun x35=>
 (AM h_1.Values x35).bind fun x37=>
 (AM x37 x27.Attr).bind fun x41=>
 (if (decide (0<=x27.Term.Var))=true then ((AM s0.2 x27.Term.Var).bind fun x51=>
 some (!x51)) else some false).bind fun x54=>
 if x54=true then
 (AM s0.1 x27.Term.Var).bind fun x64=>
 (AM s0.2 x27.Term.Var).bind fun x65=>
 (FB x27.Term (CB s0.1 x27.Term.Var (A8 (x41 - x27.Term.Add)))).bind fun x69=>
 if (!decide (x69=x41))=true then
 some (.ret ([],11))
 else
 some (.next (CB s0.1 x27.Term.Var (A8 (x41 - x27.Term.Add)),CB s0.2 x27.Term.Var true))
 else
 (FB x27.Term s0.1).bind fun x69=>
 if (!decide (x69=x41))=true then
 some (.ret ([],11))
 else
 some (.next (s0.1,s0.2))) 0 (p.Slots.length:Int) (x18,x21)) (fun s0=>
 thenR (forR (ρ:=(List Int × Int)) (fun (i2:Int) (_:Unit)=>
 (AM p.Tests i2).bind fun x78=>
 (F1 x78 s0.1).bind fun x82=>
 if (!x82)=true then
 some (.ret ([],16))
 else
 some (.next ())) 0 (p.Tests.length:Int) ()) (fun _=>
 some (s0.1,0)) (fun v2=>some v2)) (fun v0=>some v0)
def E9 [Ev] (t:AD) (p:Pattern) (h_2:A0) (m:Morphism):Option (List Int × Int):=
 (FA t p h_2).bind fun x15=>
 if (!decide (x15=0))=true then
 some ([],x15)
 else
 (GL t p.Graph h_2.Graph m false).bind fun x25=>
 if (!decide (x25=0))=true then
 some ([],x25)
 else
 (IL p h_2 m).bind fun x32=>
 some (x32.1,x32.2)
def FD [Ev] (t:AD) (p:Pattern) (c:AA) (h_3:A0) (m:AG) (injective:Bool):Option Int:=
 (D7 t p c).bind fun x22=>
 if (!decide (x22=0))=true then
 some x22
 else
 (G4 t h_3).bind fun x29=>
 if (!decide (x29.2=0))=true then
 some x29.2
 else
 (GL t p.Graph h_3.Graph m.Morphism injective).bind fun x43=>
 if (!decide (x43=0))=true then
 some x43
 else
 (E9 t p h_3 m.Morphism).bind fun x53=>
 if (!decide (x53.2=0))=true then
 some x53.2
 else
 (slices_Equal_int x53.1 m.Vars).bind fun x62=>
 if (!x62)=true then
 some 11
 else
 some 0
def Kr (k:Int) (c0:Int):Option Bool:=
 some ((decide (k<(-1)))||(decide (c0<=k)))
def G8 [Ev] (l:List Int) (n:Int):Option Int:=
 (BN l (fun y0=>Kr y0 n)).bind fun x7=>
 if x7=true then
 some 6
 else
 some 0
def IA (l:List Int) (i_1:Int):Option Int:=
 (UT l).bind fun x6=>
 (AM l i_1).bind fun x9=>
 some x9
def EM (f:AK) (i_1:Int) (k:Int):Option Bool:=
 (AM f.p.Edges i_1).bind fun x15=>
 (IA f.partial_.Edges i_1).bind fun x23=>
 if ((decide (0<=x23))&&(!decide (x23=k)))=true then
 some false
 else
 (AM f.g.Edges k).bind fun x37=>
 (AM f.nodes x15.From).bind fun x47=>
 (AM f.nodes x15.To).bind fun x55=>
 some (decide (x37=(DQ.mk x15.Type' x47 x55)))
def CS (f:AK):Option Bool:=
 thenR (forR (ρ:=Bool) (fun (i0:Int) (_:Unit)=>
 (AM f.p.Edges i0).bind fun x23=>
 if (!decide ((max x23.From x23.To)=(A8 ((f.nodes.length:Int) - 1))))=true then
 some (.next ())
 else
 thenR (forR (ρ:=Bool) (fun (i2:Int) (s2:Bool)=>
 (EM f i0 i2).bind fun x44=>
 if x44=true then
 some (.brk true)
 else
 some (.next s2)) 0 (f.g.Edges.length:Int) false) (fun s2=>
 if (!s2)=true then
 some (.ret false)
 else
 some (.next ())) (fun v2=>some (.ret v2))) 0 (f.p.Edges.length:Int) ()) (fun _=>
 some true) (fun v0=>some v0)
def A9 [Ev]:Nat->AK->Option AK
 | 0,_=>none
 | n+1,f=>
  (if (decide ((f.out.length:Int)=f.most))=true then
  some f
  else
  if (decide ((f.nodes.length:Int)<(f.p.Nodes.length:Int)))=true then
  (forA (fun (i1:Int) (s1:AK)=>
  (AM f.g.Nodes i1).bind fun x66=>
  (IA s1.partial_.Nodes (f.nodes.length:Int)).bind fun x74=>
  (if ((decide (0<=x74))&&(!decide (x74=i1)))=true then some true else ((AM s1.p.Nodes (f.nodes.length:Int)).bind fun x93=>
  (AM s1.is x93).bind fun x95=>
  (AM x95 x66).bind fun x98=>
  some (!x98))).bind fun x101=>
  (if x101=true then some true else ((if s1.injective=true then ((slices_Contains_int s1.nodes i1).bind fun x113=>
  some (x113)) else some false).bind fun x114=>
  some (x114))).bind fun x115=>
  if x115=true then
  some s1
  else
  (CX s1.nodes [i1]).bind fun x123=>
  (CS (AK.mk s1.p s1.g s1.is s1.partial_ s1.injective s1.most x123 s1.edges s1.out)).bind fun x127=>
  if x127=true then
  (A9 n (AK.mk s1.p s1.g s1.is s1.partial_ s1.injective s1.most x123 s1.edges s1.out)).bind fun x129=>
  (slc x129.nodes 0 (f.nodes.length:Int)).bind fun x136=>
  some (AK.mk x129.p x129.g x129.is x129.partial_ x129.injective x129.most x136 x129.edges x129.out)
  else
  (slc x123 0 (f.nodes.length:Int)).bind fun x136=>
  some (AK.mk s1.p s1.g s1.is s1.partial_ s1.injective s1.most x136 s1.edges s1.out)) 0 (f.g.Nodes.length:Int) f).bind fun s1=>
  some s1
  else
  if (decide ((f.edges.length:Int)<(f.p.Edges.length:Int)))=true then
  (forA (fun (i3:Int) (s3:AK)=>
  (EM s3 (f.edges.length:Int) i3).bind fun x170=>
  (if (!x170)=true then some true else ((if s3.injective=true then ((slices_Contains_int s3.edges i3).bind fun x183=>
  some (x183)) else some false).bind fun x184=>
  some (x184))).bind fun x185=>
  if x185=true then
  some s3
  else
  (CX s3.edges [i3]).bind fun x193=>
  (A9 n (AK.mk s3.p s3.g s3.is s3.partial_ s3.injective s3.most s3.nodes x193 s3.out)).bind fun x197=>
  (slc x197.edges 0 (f.edges.length:Int)).bind fun x204=>
  some (AK.mk x197.p x197.g x197.is x197.partial_ x197.injective x197.most x197.nodes x204 x197.out)) 0 (f.g.Edges.length:Int) f).bind fun s3=>
  some s3
  else
  (slices_Clone_int f.nodes).bind fun x17=>
  (slices_Clone_int f.edges).bind fun x22=>
  (CX f.out [Morphism.mk x17 x22]).bind fun x25=>
  some (AK.mk f.p f.g f.is f.partial_ f.injective f.most f.nodes f.edges x25)).bind fun w1=>
  some w1
def F3 [Ev] (f:AK):Option AK:=Hp fun n=>A9 n f
def HN [Ev] (t:AD) (p:Graph) (g:Graph) (partial_:Morphism) (injective:Bool) (most:Int):Option (List Morphism):=
 (GM t).bind fun x17=>
 (F3 (AK.mk p g x17 partial_ injective most [] [] [])).bind fun x24=>
 some x24.out
def JQ [Ev] (t:AD) (p:Graph) (g:Graph) (partial_:Morphism) (injective:Bool):Option (List Morphism × Int):=
 (HN t p g partial_ injective 5001).bind fun x18=>
 if (decide (5000<(x18.length:Int)))=true then
 some ([],3)
 else
 some (x18,0)
def FW [Ev] (t:AD) (p:Graph) (g:Graph) (partial_:Morphism) (injective:Bool):Option (List Morphism × Int):=
 (GN t p g).bind fun x18=>
 if (!decide (x18=0))=true then
 some ([],x18)
 else
 if ((!decide ((partial_.Nodes.length:Int)=(p.Nodes.length:Int)))||(!decide ((partial_.Edges.length:Int)=(p.Edges.length:Int))))=true then
 some ([],20)
 else
 (G8 partial_.Nodes (g.Nodes.length:Int)).bind fun x43=>
 if (!decide (x43=0))=true then
 some ([],x43)
 else
 (G8 partial_.Edges (g.Edges.length:Int)).bind fun x52=>
 if (!decide (x52=0))=true then
 some ([],x52)
 else
 (JQ t p g partial_ injective).bind fun x61=>
 some (x61.1,x61.2)
def D2 (l:List Int) (n:Int):Option (List Int):=if l.length=1∧0<=n∧n<=4096 then some (List.replicate n.toNat (l.headD 0)) else none
def G0 (n:Int) (AB:List Int) (images:List Int):Option (List Int):=
 (D2 [(-1)] n).bind fun x12=>
 (forA (fun (i0:Int) (s0:List Int)=>
 (AM AB i0).bind fun x18=>
 (AM images i0).bind fun x24=>
 (AM s0 x18).bind fun x26=>
 some (CB s0 x18 x24)) 0 (AB.length:Int) x12).bind fun s0=>
 some s0
def GY (x_0:Term) (DC:List Int):Option (Int × Int):=
 (DL x_0.Var (-1) (A8 ((DC.length:Int) - 1))).bind fun x11=>
 if (!x11)=true then
 some (0,6)
 else
 (FB x_0 DC).bind fun x15=>
 some (x15,0)
def ER (s_0:A3) (q:Pattern) (m:Morphism) (given:List Int):Option (List Int × Bool):=
 (slices_Clone_int given).bind fun x22=>
 (QV x22 (A8 (q.Vars - (given.length:Int))) 0).bind fun x28=>
 (KM q.Vars false).bind fun x31=>
 (forA (fun (i0:Int) (s0:List Bool)=>
 (AM s0 i0).bind fun x39=>
 some (CB s0 i0 true)) 0 (given.length:Int) x31).bind fun s0=>
 thenR (forR (ρ:=(List Int × Bool)) (fun (i2:Int) (s2:List Int × List Bool)=>
 (AM q.Slots i2).bind fun x46=>
 (AM m.Nodes x46.Node).bind fun x55=>
 (AM s_0.h.Values x55).bind fun x57=>
 (AM x57 x46.Attr).bind fun x61=>
 (if (decide (0<=x46.Term.Var))=true then ((AM s2.2 x46.Term.Var).bind fun x71=>
 some (!x71)) else some false).bind fun x74=>
 if x74=true then
 (AM s2.1 x46.Term.Var).bind fun x84=>
 (AM s2.2 x46.Term.Var).bind fun x85=>
 (GY x46.Term (CB s2.1 x46.Term.Var (A8 (x61 - x46.Term.Add)))).bind fun x90=>
 if ((!decide (x90.2=0))||(!decide (x90.1=x61)))=true then
 some (.ret ([],false))
 else
 some (.next (CB s2.1 x46.Term.Var (A8 (x61 - x46.Term.Add)),CB s2.2 x46.Term.Var true))
 else
 (GY x46.Term s2.1).bind fun x90=>
 if ((!decide (x90.2=0))||(!decide (x90.1=x61)))=true then
 some (.ret ([],false))
 else
 some (.next (s2.1,s2.2))) 0 (q.Slots.length:Int) (x28,s0)) (fun s2=>
 thenR (forR (ρ:=(List Int × Bool)) (fun (i4:Int) (_:Unit)=>
 (AM q.Tests i4).bind fun x106=>
 (F1 x106 s2.1).bind fun x110=>
 if (!x110)=true then
 some (.ret ([],false))
 else
 some (.next ())) 0 (q.Tests.length:Int) ()) (fun _=>
 some (s2.1,true)) (fun v4=>some v4)) (fun v2=>some v2)
def CH [Ev] (s_0:A3) (c:AA) (m:AG):Option (List AG × Int):=
 (G0 (c.Pattern.Graph.Nodes.length:Int) c.Map.Nodes m.Morphism.Nodes).bind fun x29=>
 (G0 (c.Pattern.Graph.Edges.length:Int) c.Map.Edges m.Morphism.Edges).bind fun x39=>
 (FW s_0.t c.Pattern.Graph s_0.h.Graph (Morphism.mk x29 x39) s_0.injective).bind fun x51=>
 if (!decide (x51.2=0))=true then
 some ([],x51.2)
 else
 (forA (fun (i0:Int) (s0:List AG)=>
 (AM x51.1 i0).bind fun x61=>
 (ER s_0 c.Pattern x61 m.Vars).bind fun x70=>
 if x70.2=true then
 (CX s0 [AG.mk x61 x70.1]).bind fun x79=>
 some x79
 else
 some s0) 0 (x51.1.length:Int) []).bind fun s0=>
 some (s0,0)
mutual
def A1 [Ev]:Nat->A3->AA->AG->Option (BQ × Int)
 | 0,_,_,_=>none
 | n+1,s_0,c,m=>
  if (decide (c.Kind=2))=true then
  (AM c.Kids 0).bind fun x27=>
  (A1 n s_0 x27 m).bind fun x30=>
  if (decide (x30.2=0))=true then
  some (BQ.mk 0 (AG.mk (Morphism.mk [] []) []) [],10)
  else
  if (decide (x30.2=10))=true then
  some (BQ.mk 0 (AG.mk (Morphism.mk [] []) []) [],0)
  else
  some (BQ.mk 0 (AG.mk (Morphism.mk [] []) []) [],x30.2)
  else
  if (decide (c.Kind=3))=true then
  thenR (forR (ρ:=(BQ × Int)) (fun (i2:Int) (s2:BQ × BQ)=>
  (AM c.Kids i2).bind fun x49=>
  (A1 n s_0 x49 m).bind fun x55=>
  if (!decide (x55.2=0))=true then
  some (.ret (BQ.mk 0 (AG.mk (Morphism.mk [] []) []) [],x55.2))
  else
  (CX s2.2.Kids [x55.1]).bind fun x66=>
  some (.next (s2.1,BQ.mk s2.2.Choice s2.2.Match x66))) 0 (c.Kids.length:Int) (BQ.mk 0 (AG.mk (Morphism.mk [] []) []) [],BQ.mk 0 (AG.mk (Morphism.mk [] []) []) [])) (fun s2=>
  some (s2.2,0)) (fun v2=>some v2)
  else
  if (decide (c.Kind=4))=true then
  thenR (forR (ρ:=(BQ × Int)) (fun (i4:Int) (s4:BQ)=>
  (AM c.Kids i4).bind fun x78=>
  (A1 n s_0 x78 m).bind fun x84=>
  if (decide (x84.2=0))=true then
  some (.ret (BQ.mk i4 (AG.mk (Morphism.mk [] []) []) [x84.1],0))
  else
  if (!decide (x84.2=10))=true then
  some (.ret (BQ.mk 0 (AG.mk (Morphism.mk [] []) []) [],x84.2))
  else
  some (.next s4)) 0 (c.Kids.length:Int) (BQ.mk 0 (AG.mk (Morphism.mk [] []) []) [])) (fun s4=>
  some (BQ.mk 0 (AG.mk (Morphism.mk [] []) []) [],10)) (fun v4=>some v4)
  else
  if (decide (c.Kind=5))=true then
  (BU n s_0 c m).bind fun x104=>
  some (x104.1,x104.2)
  else
  some (BQ.mk 0 (AG.mk (Morphism.mk [] []) []) [],0)
def BU [Ev]:Nat->A3->AA->AG->Option (BQ × Int)
 | 0,_,_,_=>none
 | n+1,s_0,c,m=>
  (CH s_0 c m).bind fun x18=>
  if (!decide (x18.2=0))=true then
  some (BQ.mk 0 (AG.mk (Morphism.mk [] []) []) [],x18.2)
  else
  thenR (forR (ρ:=(BQ × Int)) (fun (i0:Int) (s0:BQ)=>
  (AM x18.1 i0).bind fun x29=>
  (AM c.Kids 0).bind fun x35=>
  (A1 n s_0 x35 x29).bind fun x38=>
  if (decide (x38.2=0))=true then
  some (.ret (BQ.mk 0 x29 [x38.1],0))
  else
  if (!decide (x38.2=10))=true then
  some (.ret (BQ.mk 0 (AG.mk (Morphism.mk [] []) []) [],x38.2))
  else
  some (.next s0)) 0 (x18.1.length:Int) (BQ.mk 0 (AG.mk (Morphism.mk [] []) []) [])) (fun s0=>
  some (BQ.mk 0 (AG.mk (Morphism.mk [] []) []) [],10)) (fun v0=>some v0)
end
def EI [Ev] (s_0:A3) (c:AA) (m:AG):Option (BQ × Int):=Hp fun n=>A1 n s_0 c m
def MS [Ev] (s_0:A3) (c:AA) (m:AG):Option (BQ × Int):=Hp fun n=>BU n s_0 c m
def EG [Ev] (t:AD) (p:Pattern) (c:AA) (h_3:A0) (m:AG) (injective:Bool):Option (BQ × Int):=
 (FD t p c h_3 m injective).bind fun x21=>
 if (!decide (x21=0))=true then
 some (BQ.mk 0 (AG.mk (Morphism.mk [] []) []) [],x21)
 else
 (EI (A3.mk t h_3 injective) c m).bind fun x32=>
 some (x32.1,x32.2)
def CR [Ev] (t:AD) (p:Pattern) (c:AA) (h_3:A0) (m:AG) (injective:Bool):Option (Bool × Int):=
 (EG t p c h_3 m injective).bind fun x23=>
 if (decide (x23.2=10))=true then
 some (false,0)
 else
 some (decide (x23.2=0),x23.2)
def DJ (path:List Int) (i_1:Int):Option (List Int):=
 (slices_Clone_int path).bind fun x6=>
 (CX x6 [i_1]).bind fun x9=>
 some x9
def FK (s_0:AE) (q:Pattern) (m:Morphism) (outer:List Int):Option (List Int × Bool):=
 (KM q.Vars 0).bind fun x22=>
 (KM q.Vars false).bind fun x25=>
 (forA (fun (i0:Int) (s0:List Int × List Bool)=>
 (AM outer i0).bind fun x31=>
 (AM s0.1 i0).bind fun x38=>
 (AM s0.2 i0).bind fun x39=>
 some (CB s0.1 i0 x31,CB s0.2 i0 true)) 0 (outer.length:Int) (x22,x25)).bind fun s0=>
 thenR (forR (ρ:=(List Int × Bool)) (fun (i2:Int) (s2:List Int × List Bool)=>
 (AM q.Slots i2).bind fun x46=>
 (AM m.Nodes x46.Node).bind fun x55=>
 (AM s_0.h.Values x55).bind fun x57=>
 (AM x57 x46.Attr).bind fun x61=>
 if (decide (x46.Term.Var<0))=true then
 if (!decide ((A8 (x61 - x46.Term.Add))=0))=true then
 some (.ret ([],false))
 else
 some (.next (s2.1,s2.2))
 else
 (AM s2.2 x46.Term.Var).bind fun x78=>
 if (!x78)=true then
 (AM s2.1 x46.Term.Var).bind fun x86=>
 (AM s2.2 x46.Term.Var).bind fun x87=>
 some (.next (CB s2.1 x46.Term.Var (A8 (x61 - x46.Term.Add)),CB s2.2 x46.Term.Var true))
 else
 (AM s2.1 x46.Term.Var).bind fun x91=>
 if (!decide (x91=(A8 (x61 - x46.Term.Add))))=true then
 some (.ret ([],false))
 else
 some (.next (s2.1,s2.2))) 0 (q.Slots.length:Int) (s0.1,s0.2)) (fun s2=>
 thenR (forR (ρ:=(List Int × Bool)) (fun (i5:Int) (_:Unit)=>
 (AM q.Tests i5).bind fun x101=>
 (F1 x101 s2.1).bind fun x105=>
 if (!x105)=true then
 some (.ret ([],false))
 else
 some (.next ())) 0 (q.Tests.length:Int) ()) (fun _=>
 some (s2.1,true)) (fun v5=>some v5)) (fun v2=>some v2)
def B8 [Ev] (s_0:AE) (c:AA) (m:AG):Option (List AG):=
 (D2 [(-1)] (c.Pattern.Graph.Nodes.length:Int)).bind fun x27=>
 (D2 [(-1)] (c.Pattern.Graph.Edges.length:Int)).bind fun x32=>
 (forA (fun (i0:Int) (s0:Morphism)=>
 (AM c.Map.Nodes i0).bind fun x41=>
 (AM m.Morphism.Nodes i0).bind fun x50=>
 (AM s0.Nodes x41).bind fun x52=>
 some (Morphism.mk (CB s0.Nodes x41 x50) s0.Edges)) 0 (c.Map.Nodes.length:Int) (Morphism.mk x27 x32)).bind fun s0=>
 (forA (fun (i2:Int) (s2:Morphism)=>
 (AM c.Map.Edges i2).bind fun x61=>
 (AM m.Morphism.Edges i2).bind fun x70=>
 (AM s2.Edges x61).bind fun x72=>
 some (Morphism.mk s2.Nodes (CB s2.Edges x61 x70))) 0 (c.Map.Edges.length:Int) s0).bind fun s2=>
 (FW s_0.t c.Pattern.Graph s_0.h.Graph s2 s_0.injective).bind fun x84=>
 (forA (fun (i4:Int) (s4:List AG)=>
 (AM x84.1 i4).bind fun x91=>
 (FK s_0 c.Pattern x91 m.Vars).bind fun x100=>
 if x100.2=true then
 (CX s4 [AG.mk x91 x100.1]).bind fun x109=>
 some x109
 else
 some s4) 0 (x84.1.length:Int) []).bind fun s4=>
 some s4
def DS [Ev] (k:AA) (c0:AA->Option Bool):Option Bool:=
 (c0 k).bind fun x6=>
 some (!x6)
def EF [Ev] (s_0:List AG) (f:AG->Option Bool):Option Int:=
 thenR (forR (ρ:=Int) (fun (i0:Int) (_:Unit)=>
 (AM s_0 i0).bind fun x14=>
 (f x14).bind fun x16=>
 if x16=true then
 some (.ret i0)
 else
 some (.next ())) 0 (s_0.length:Int) ()) (fun _=>
 some (-1)) (fun v0=>some v0)
def DE [Ev] (s_0:List AG) (f:AG->Option Bool):Option Bool:=
 (EF s_0 f).bind fun x7=>
 some (decide (0<=x7))
mutual
def BH [Ev]:Nat->AE->AA->AG->Option Bool
 | 0,_,_,_=>none
 | n+1,s_0,c,m=>
  if (decide (c.Kind=2))=true then
  (AM c.Kids 0).bind fun x16=>
  (BA n x16 s_0 m).bind fun x18=>
  some (!x18)
  else
  if (decide (c.Kind=3))=true then
  (BV c.Kids (fun y0=>DS y0 (fun y0=>BA n y0 s_0 m))).bind fun x25=>
  some (!x25)
  else
  if (decide (c.Kind=4))=true then
  (BV c.Kids (fun y0=>BA n y0 s_0 m)).bind fun x32=>
  some x32
  else
  if (decide (c.Kind=5))=true then
  (B8 s_0 c m).bind fun x38=>
  (DE x38 (fun y0=>BY n y0 s_0 c)).bind fun x40=>
  some x40
  else
  some true
def BA [Ev]:Nat->AA->AE->AG->Option Bool
 | 0,_,_,_=>none
 | n+1,k,c0,c1=>
  (BH n c0 k c1).bind fun x8=>
  some x8
def BY [Ev]:Nat->AG->AE->AA->Option Bool
 | 0,_,_,_=>none
 | n+1,x_0,c0,c1=>
  (AM c1.Kids 0).bind fun x8=>
  (BH n c0 x8 x_0).bind fun x11=>
  some x11
end
def _explain_scene__holds [Ev] (s_0:AE) (c:AA) (m:AG):Option Bool:=Hp fun n=>BH n s_0 c m
def NS [Ev] (k:AA) (c0:AE) (c1:AG):Option Bool:=Hp fun n=>BA n k c0 c1
def NT [Ev] (x_0:AG) (c0:AE) (c1:AA):Option Bool:=Hp fun n=>BY n x_0 c0 c1
def EZ (path:List Int) (kind:Int) (nodes:List Int):Option AN:=
 (slices_Clone_int path).bind fun x8=>
 (slices_Clone_int nodes).bind fun x11=>
 some (AN.mk x8 kind x11)
mutual
def A5 [Ev]:Nat->AE->AA->AG->(List Int)->Bool->Option (List AN)
 | 0,_,_,_,_,_=>none
 | n+1,s_0,c,m,path,good=>
  if (decide (c.Kind=2))=true then
  (AM c.Kids 0).bind fun x18=>
  (DJ path 0).bind fun x22=>
  (A5 n s_0 x18 m x22 (!good)).bind fun x25=>
  some x25
  else
  (if (decide (c.Kind=3))=true then
  some (decide (c.Kind=3))
  else
  some (decide (c.Kind=4))).bind fun w1=>
  if w1=true then
  (BZ n s_0 c m path good).bind fun x34=>
  some x34
  else
  if (decide (c.Kind=5))=true then
  (B5 n s_0 c m path good).bind fun x42=>
  some x42
  else
  (EZ path 1 []).bind fun x44=>
  some [x44]
def BZ [Ev]:Nat->AE->AA->AG->(List Int)->Bool->Option (List AN)
 | 0,_,_,_,_,_=>none
 | n+1,s_0,c,m,path,good=>
  thenR (forR (ρ:=(List AN)) (fun (i0:Int) (s0:List AN)=>
  (AM c.Kids i0).bind fun x20=>
  if ((decide (c.Kind=3))==good)=true then
  (DJ path i0).bind fun x33=>
  (A5 n s_0 x20 m x33 good).bind fun x35=>
  (CX s0 x35).bind fun x36=>
  some (.next x36)
  else
  (_explain_scene__holds s_0 x20 m).bind fun x40=>
  if (x40==good)=true then
  (DJ path i0).bind fun x48=>
  (A5 n s_0 x20 m x48 good).bind fun x50=>
  some (.ret x50)
  else
  some (.next s0)) 0 (c.Kids.length:Int) []) (fun s0=>
  some s0) (fun v0=>some v0)
def B5 [Ev]:Nat->AE->AA->AG->(List Int)->Bool->Option (List AN)
 | 0,_,_,_,_,_=>none
 | n+1,s_0,c,m,path,good=>
  (B8 s_0 c m).bind fun x18=>
  if ((!good)&&(decide ((x18.length:Int)=0)))=true then
  (EZ path 3 m.Morphism.Nodes).bind fun x30=>
  some [x30]
  else
  thenR (forR (ρ:=(List AN)) (fun (i0:Int) (s0:List AN)=>
  (AM x18 i0).bind fun x37=>
  if ((!good)&&(decide (i0<5)))=true then
  (EZ path 4 x37.Morphism.Nodes).bind fun x51=>
  (CX s0 [x51]).bind fun x53=>
  (AM c.Kids 0).bind fun x58=>
  (DJ path 0).bind fun x62=>
  (A5 n s_0 x58 x37 x62 false).bind fun x63=>
  (CX x53 x63).bind fun x64=>
  some (.next x64)
  else
  (if good=true then ((AM c.Kids 0).bind fun x71=>
  (_explain_scene__holds s_0 x71 x37).bind fun x74=>
  some (x74)) else some false).bind fun x75=>
  if x75=true then
  (EZ path 2 x37.Morphism.Nodes).bind fun x80=>
  (AM c.Kids 0).bind fun x84=>
  if (!decide (x84.Kind=1))=true then
  (AM c.Kids 0).bind fun x92=>
  (DJ path 0).bind fun x96=>
  (A5 n s_0 x92 x37 x96 true).bind fun x97=>
  (CX [x80] x97).bind fun x98=>
  some (.ret x98)
  else
  some (.ret [x80])
  else
  some (.next s0)) 0 (x18.length:Int) []) (fun s0=>
  some s0) (fun v0=>some v0)
end
def GV [Ev] (s_0:AE) (c:AA) (m:AG) (path:List Int) (good:Bool):Option (List AN):=Hp fun n=>A5 n s_0 c m path good
def NU [Ev] (s_0:AE) (c:AA) (m:AG) (path:List Int) (good:Bool):Option (List AN):=Hp fun n=>BZ n s_0 c m path good
def N3 [Ev] (s_0:AE) (c:AA) (m:AG) (path:List Int) (good:Bool):Option (List AN):=Hp fun n=>B5 n s_0 c m path good
def EJ [Ev] (t:AD) (p:Pattern) (c:AA) (h_3:A0) (m:AG) (injective:Bool):Option (List AN × Int):=
 (CR t p c h_3 m injective).bind fun x23=>
 if (!decide (x23.2=0))=true then
 some ([],x23.2)
 else
 if x23.1=true then
 some ([],10)
 else
 (GV (AE.mk t h_3 injective) c m [] false).bind fun x36=>
 some (x36,0)
def Hy (l:List AN) (path:List Int) (kind:Int) (nodes:List Int):Option Bool:=
 (if (decide (0<(l.length:Int)))=true then ((AM l 0).bind fun x14=>
 some (decide (x14.Kind=kind))) else some false).bind fun x19=>
 (if x19=true then ((AM l 0).bind fun x22=>
 (slices_Equal_int x22.Path path).bind fun x26=>
 some (x26)) else some false).bind fun x27=>
 (if x27=true then ((AM l 0).bind fun x30=>
 (slices_Equal_int x30.Nodes nodes).bind fun x34=>
 some (x34)) else some false).bind fun x35=>
 some x35
def Jq (s:List Int) (n:Int):Option (List Int):=if s=[]∧0<=n∧n<=B9 then some [] else none
def KO (slices:List (List Int)):Option (List Int):=
 (forA (fun (i0:Int) (s0:Int)=>
 (AM slices i0).bind fun x13=>
 if (decide ((A8 (s0+(x13.length:Int)))<0))=true then
 none
 else
 some (A8 (s0+(x13.length:Int)))) 0 (slices.length:Int) 0).bind fun s0=>
 (Jq [] s0).bind fun x24=>
 (forA (fun (i2:Int) (s2:List Int)=>
 (AM slices i2).bind fun x29=>
 (CX s2 x29).bind fun x33=>
 some x33) 0 (slices.length:Int) x24).bind fun s2=>
 some s2
def IJ (a:List Int) (b:List Int):Option (List Int):=
 (KO [a,b]).bind fun x9=>
 (slices_Sort_int x9).bind fun x11=>
 (slices_Compact_int x11).bind fun x13=>
 some x13
def FT [Ev] (starts:List Int) (more:Int->Option (List Int)):Option (List Int):=
 (forA (fun (i0:Int) (s0:List Int)=>
 (AM starts i0).bind fun x14=>
 (more x14).bind fun x18=>
 (forA (fun (i2:Int) (s2:List Int)=>
 (AM x18 i2).bind fun x22=>
 (CX s2 [A8 (x14+x22)]).bind fun x29=>
 some x29) 0 (x18.length:Int) s0).bind fun s2=>
 some s2) 0 (starts.length:Int) []).bind fun s0=>
 (IJ s0 []).bind fun x33=>
 some x33
mutual
def AZ [Ev]:Nat->AE->(List AN)->AA->AG->(List Int)->Bool->Option (List Int)
 | 0,_,_,_,_,_,_=>none
 | n+1,s_0,l,c,m,path,good=>
  if (decide (c.Kind=2))=true then
  (AM c.Kids 0).bind fun x27=>
  (DJ path 0).bind fun x31=>
  (AZ n s_0 l x27 m x31 (!good)).bind fun x34=>
  some x34
  else
  if (decide (c.Kind=5))=true then
  (BG n s_0 l c m path good).bind fun x43=>
  some x43
  else
  if (decide (c.Kind=1))=true then
  (Hy l path 1 []).bind fun x48=>
  if x48=true then
  some [1]
  else
  some []
  else
  if ((decide (c.Kind=3))==good)=true then
  (forA (fun (i1:Int) (s1:List Int)=>
  (AM c.Kids i1).bind fun x62=>
  (FT s1 (fun y0=>BE n y0 s_0 l x62 m path i1 good)).bind fun x66=>
  some x66) 0 (c.Kids.length:Int) [0]).bind fun s1=>
  some s1
  else
  (forA (fun (i3:Int) (s3:List Int)=>
  (AM c.Kids i3).bind fun x75=>
  (_explain_scene__holds s_0 x75 m).bind fun x80=>
  if (x80==good)=true then
  (DJ path i3).bind fun x90=>
  (AZ n s_0 l x75 m x90 good).bind fun x92=>
  (IJ s3 x92).bind fun x93=>
  some x93
  else
  some s3) 0 (c.Kids.length:Int) []).bind fun s3=>
  some s3
def BG [Ev]:Nat->AE->(List AN)->AA->AG->(List Int)->Bool->Option (List Int)
 | 0,_,_,_,_,_,_=>none
 | n+1,s_0,l,c,m,path,good=>
  (B8 s_0 c m).bind fun x24=>
  (AM c.Kids 0).bind fun x27=>
  if ((!good)&&(decide ((x24.length:Int)=0)))=true then
  (Hy l path 3 m.Morphism.Nodes).bind fun x41=>
  if x41=true then
  some [1]
  else
  some []
  else
  if (!good)=true then
  (slc x24 0 (min (x24.length:Int) 5)).bind fun x50=>
  (forA (fun (i0:Int) (s0:List Int)=>
  (AM x50 i0).bind fun x54=>
  (FT s0 (fun y0=>BB n y0 l path x54 s_0 x27)).bind fun x58=>
  some x58) 0 (x50.length:Int) [0]).bind fun s0=>
  some s0
  else
  (forA (fun (i2:Int) (s2:List Int)=>
  (AM x24 i2).bind fun x65=>
  (Hy l path 2 x65.Morphism.Nodes).bind fun x72=>
  (if (!x72)=true then some true else ((_explain_scene__holds s_0 x27 x65).bind fun x78=>
  some (!x78))).bind fun x80=>
  if x80=true then
  some s2
  else
  if (decide (x27.Kind=1))=true then
  (IJ s2 [1]).bind fun x86=>
  some x86
  else
  (FT [1] (fun y0=>BC n y0 s_0 l x27 x65 path)).bind fun x90=>
  (IJ s2 x90).bind fun x91=>
  some x91) 0 (x24.length:Int) []).bind fun s2=>
  some s2
def BE [Ev]:Nat->Int->AE->(List AN)->AA->AG->(List Int)->Int->Bool->Option (List Int)
 | 0,_,_,_,_,_,_,_,_=>none
 | n+1,n_0,c0,c1,c2,c3,c4,c5,c6=>
  (slc c1 n_0 c1.length).bind fun x13=>
  (DJ c4 c5).bind fun x18=>
  (AZ n c0 x13 c2 c3 x18 c6).bind fun x20=>
  some x20
def BB [Ev]:Nat->Int->(List AN)->(List Int)->AG->AE->AA->Option (List Int)
 | 0,_,_,_,_,_,_=>none
 | n+1,n_0,c0,c1,c2,c3,c4=>
  (slc c0 n_0 c0.length).bind fun x10=>
  (Hy x10 c1 4 c2.Morphism.Nodes).bind fun x15=>
  if (!x15)=true then
  some []
  else
  (FT [1] (fun y0=>A7 n y0 c3 c0 n_0 c4 c2 c1)).bind fun x19=>
  some x19
def A7 [Ev]:Nat->Int->AE->(List AN)->Int->AA->AG->(List Int)->Option (List Int)
 | 0,_,_,_,_,_,_,_=>none
 | n+1,k,c0,c1,c2,c3,c4,c5=>
  (slc c1 (A8 (c2+k)) c1.length).bind fun x14=>
  (DJ c5 0).bind fun x18=>
  (AZ n c0 x14 c3 c4 x18 false).bind fun x19=>
  some x19
def BC [Ev]:Nat->Int->AE->(List AN)->AA->AG->(List Int)->Option (List Int)
 | 0,_,_,_,_,_,_=>none
 | n+1,n_0,c0,c1,c2,c3,c4=>
  (slc c1 n_0 c1.length).bind fun x11=>
  (DJ c4 0).bind fun x15=>
  (AZ n c0 x11 c2 c3 x15 true).bind fun x16=>
  some x16
end
def GU [Ev] (s_0:AE) (l:List AN) (c:AA) (m:AG) (path:List Int) (good:Bool):Option (List Int):=Hp fun n=>AZ n s_0 l c m path good
def M9 [Ev] (s_0:AE) (l:List AN) (c:AA) (m:AG) (path:List Int) (good:Bool):Option (List Int):=Hp fun n=>BG n s_0 l c m path good
def Mi [Ev] (n_0:Int) (c0:AE) (c1:List AN) (c2:AA) (c3:AG) (c4:List Int) (c5:Int) (c6:Bool):Option (List Int):=Hp fun n=>BE n n_0 c0 c1 c2 c3 c4 c5 c6
def MT [Ev] (n_0:Int) (c0:List AN) (c1:List Int) (c2:AG) (c3:AE) (c4:AA):Option (List Int):=Hp fun n=>BB n n_0 c0 c1 c2 c3 c4
def Lv [Ev] (k:Int) (c0:AE) (c1:List AN) (c2:Int) (c3:AA) (c4:AG) (c5:List Int):Option (List Int):=Hp fun n=>A7 n k c0 c1 c2 c3 c4 c5
def MU [Ev] (n_0:Int) (c0:AE) (c1:List AN) (c2:AA) (c3:AG) (c4:List Int):Option (List Int):=Hp fun n=>BC n n_0 c0 c1 c2 c3 c4
def II [Ev] (t:AD) (p:Pattern) (c:AA) (h_3:A0) (m:AG) (injective:Bool) (l:List AN):Option Bool:=
 (CR t p c h_3 m injective).bind fun x24=>
 (if ((decide (x24.2=0))&&(!x24.1))=true then ((GU (AE.mk t h_3 injective) l c m [] false).bind fun x41=>
 (slices_Contains_int x41 (l.length:Int)).bind fun x44=>
 some (x44)) else some false).bind fun x45=>
 some x45
def FU [Ev]:Nat->(List Int)->Int->Option (List (List Int))
 | 0,_,_=>none
 | n+1,l,n_1=>
  if (decide (n_1=0))=true then
  some [[]]
  else
  (forA (fun (i0:Int) (s0:List (List Int))=>
  (slc l (A8 (i0+1)) l.length).bind fun x20=>
  (FU n x20 (A8 (n_1 - 1))).bind fun x23=>
  (forA (fun (i2:Int) (s2:List (List Int))=>
  (AM x23 i2).bind fun x27=>
  (AM l i0).bind fun x32=>
  (CX [x32] x27).bind fun x36=>
  (CX s2 [x36]).bind fun x38=>
  some x38) 0 (x23.length:Int) s0).bind fun s2=>
  some s2) 0 (l.length:Int) []).bind fun s0=>
  some s0
def LQ [Ev] (l:List Int) (n_1:Int):Option (List (List Int)):=Hp fun n=>FU n l n_1
def LR (h_0:A0) (m:AG) (BM:List Int):Option (A0 × AG):=
 (KM (h_0.Graph.Edges.length:Int) 0).bind fun x26=>
 (forA (fun (i0:Int) (s0:A0 × List Int)=>
 (AM h_0.Graph.Edges i0).bind fun x34=>
 (slices_Contains_int BM i0).bind fun x38=>
 if (!x38)=true then
 (AM s0.2 i0).bind fun x46=>
 (CX s0.1.Graph.Edges [x34]).bind fun x52=>
 some (A0.mk (Graph.mk s0.1.Graph.Nodes x52) s0.1.Values,CB s0.2 i0 (s0.1.Graph.Edges.length:Int))
 else
 some (s0.1,s0.2)) 0 (h_0.Graph.Edges.length:Int) (A0.mk (Graph.mk h_0.Graph.Nodes []) h_0.Values,x26)).bind fun s0=>
 (forA (fun (i2:Int) (s2:AG)=>
 (AM m.Morphism.Edges i2).bind fun x69=>
 (AM s0.2 x69).bind fun x76=>
 (CX s2.Morphism.Edges [x76]).bind fun x79=>
 some (AG.mk (Morphism.mk s2.Morphism.Nodes x79) s2.Vars)) 0 (m.Morphism.Edges.length:Int) (AG.mk (Morphism.mk m.Morphism.Nodes []) m.Vars)).bind fun s2=>
 some (s0.1,s2)
def Hx [Ev] (t:AD) (p:Pattern) (c:AA) (h_3:A0) (m:AG):Option (List Int × Int):=
 (CR t p c h_3 m true).bind fun x29=>
 if (!decide (x29.2=0))=true then
 some ([],x29.2)
 else
 (if (!decide (c.Kind=2))=true then some true else ((AM c.Kids 0).bind fun x41=>
 some (!decide (x41.Kind=5)))).bind fun x45=>
 if x45=true then
 some ([],8)
 else
 if (decide (12<(h_3.Graph.Edges.length:Int)))=true then
 some ([],3)
 else
 (forA (fun (i0:Int) (s0:List Int)=>
 (slices_Contains_int m.Morphism.Edges i0).bind fun x62=>
 if (!x62)=true then
 (CX s0 [i0]).bind fun x67=>
 some x67
 else
 some s0) 0 (h_3.Graph.Edges.length:Int) []).bind fun s0=>
 thenR (forR (ρ:=(List Int × Int)) (fun (i2:Int) (_:Unit)=>
 (LQ s0 i2).bind fun x74=>
 thenR (forR (ρ:=(List Int × Int)) (fun (i4:Int) (_:Unit)=>
 (AM x74 i4).bind fun x78=>
 (LR h_3 m x78).bind fun x84=>
 (CR t p c x84.1 x84.2 true).bind fun x93=>
 if ((decide (x93.2=0))&&x93.1)=true then
 some (.ret (x78,0))
 else
 some (.next ())) 0 (x74.length:Int) ()) (fun _=>
 some (.next ())) (fun v4=>some (.ret v4))) 0 4 ()) (fun _=>
 some ([],10)) (fun v2=>some v2)
def Mc :Option AD:=
 some (AD.mk [CJ.mk (⟨#[65,99,99,111,117,110,116]⟩:ByteArray) (-1) true [Attr.mk (⟨#[98,97,108,97,110,99,101]⟩:ByteArray) (-1000) 1000 []],CJ.mk (⟨#[67,97,115,104]⟩:ByteArray) 0 false [],CJ.mk (⟨#[76,111,97,110]⟩:ByteArray) 0 false [Attr.mk (⟨#[115,116,97,116,101]⟩:ByteArray) 0 1 [(⟨#[111,112,101,110]⟩:ByteArray),(⟨#[99,108,111,115,101,100]⟩:ByteArray)]],CJ.mk (⟨#[80,101,114,115,111,110]⟩:ByteArray) (-1) false []] [CZ.mk (⟨#[111,119,110,115]⟩:ByteArray) 3 0 0 (-1) 1 1,CZ.mk (⟨#[112,97,121,115]⟩:ByteArray) 1 1 0 (-1) 0 (-1)])
def Ma :Option (G5 × H6):=
 (some (AA.mk 2 [AA.mk 5 [AA.mk 1 [] (Morphism.mk [] []) (Pattern.mk (Graph.mk [] []) [] 0 [])] (Morphism.mk [0,1] [0]) (Pattern.mk (Graph.mk [3,0,0] [DQ.mk 0 0 1,DQ.mk 0 0 2]) [] 0 [])] (Morphism.mk [] []) (Pattern.mk (Graph.mk [] []) [] 0 []))).bind fun x25=>
 some (G5.mk (Pattern.mk (Graph.mk [3,0] [DQ.mk 0 0 1]) [] 0 []) x25,H6.mk (A0.mk (Graph.mk [3,1,1] [DQ.mk 0 0 1,DQ.mk 0 0 2]) [[],[10],[5]]) (AG.mk (Morphism.mk [0,1] [0]) []) true)
def strconv_Itoa (i:Int):Option ByteArray:=if 0<=i∧i<100 then some (Wi i.toNat) else none
def strings_Join (l:List ByteArray) (s:ByteArray):Option ByteArray:=if l.length<=B9∧(IT l s).size<=B9 then some (IT l s) else none
def I2 [Ev] (t:AD) (h_1:A0) (l:List AN):Option (List ByteArray × Int):=
 (G4 t h_1).bind fun x23=>
 if (!decide (x23.2=0))=true then
 some ([],x23.2)
 else
 thenR (forR (ρ:=(List ByteArray × Int)) (fun (i0:Int) (s0:List ByteArray)=>
 (AM l i0).bind fun x33=>
 if ((decide (x33.Kind<1))||(decide (4<x33.Kind)))=true then
 some (.ret ([],6))
 else
 (forA (fun (i2:Int) (s2:List ByteArray)=>
 (AM x33.Path i2).bind fun x48=>
 (strconv_Itoa x48).bind fun x52=>
 (CX s2 [x52]).bind fun x54=>
 some x54) 0 (x33.Path.length:Int) []).bind fun s2=>
 if (decide (0<(s2.length:Int)))=true then
 (strings_Join s2 (⟨#[46]⟩:ByteArray)).bind fun x60=>
 (AM [(⟨#[116,114,117,101]⟩:ByteArray),(⟨#[102,111,117,110,100]⟩:ByteArray),(⟨#[109,105,115,115,105,110,103]⟩:ByteArray),(⟨#[102,97,105,108,115]⟩:ByteArray)] (A8 (x33.Kind - 1))).bind fun x66=>
 thenR (forR (ρ:=(List ByteArray × Int)) (fun (i4:Int) (s4:List ByteArray)=>
 (AM x33.Nodes i4).bind fun x74=>
 if ((decide (x74<0))||(decide ((h_1.Graph.Nodes.length:Int)<=x74)))=true then
 some (.ret ([],6))
 else
 (strconv_Itoa x74).bind fun x88=>
 (Ld (⟨#[110]⟩:ByteArray) x88).bind fun x89=>
 (Ld x89 (⟨#[58]⟩:ByteArray)).bind fun x90=>
 (AM h_1.Graph.Nodes x74).bind fun x97=>
 (AM t.Nodes x97).bind fun x99=>
 (Ld x90 x99.Name).bind fun x102=>
 (CX s4 [x102]).bind fun x104=>
 some (.next x104)) 0 (x33.Nodes.length:Int) [x60,x66]) (fun s4=>
 (strings_Join s4 (⟨#[32]⟩:ByteArray)).bind fun x108=>
 (CX s0 [x108]).bind fun x110=>
 some (.next x110)) (fun v4=>some (.ret v4))
 else
 (AM [(⟨#[116,114,117,101]⟩:ByteArray),(⟨#[102,111,117,110,100]⟩:ByteArray),(⟨#[109,105,115,115,105,110,103]⟩:ByteArray),(⟨#[102,97,105,108,115]⟩:ByteArray)] (A8 (x33.Kind - 1))).bind fun x66=>
 thenR (forR (ρ:=(List ByteArray × Int)) (fun (i4:Int) (s4:List ByteArray)=>
 (AM x33.Nodes i4).bind fun x74=>
 if ((decide (x74<0))||(decide ((h_1.Graph.Nodes.length:Int)<=x74)))=true then
 some (.ret ([],6))
 else
 (strconv_Itoa x74).bind fun x88=>
 (Ld (⟨#[110]⟩:ByteArray) x88).bind fun x89=>
 (Ld x89 (⟨#[58]⟩:ByteArray)).bind fun x90=>
 (AM h_1.Graph.Nodes x74).bind fun x97=>
 (AM t.Nodes x97).bind fun x99=>
 (Ld x90 x99.Name).bind fun x102=>
 (CX s4 [x102]).bind fun x104=>
 some (.next x104)) 0 (x33.Nodes.length:Int) [(⟨#[45]⟩:ByteArray),x66]) (fun s4=>
 (strings_Join s4 (⟨#[32]⟩:ByteArray)).bind fun x108=>
 (CX s0 [x108]).bind fun x110=>
 some (.next x110)) (fun v4=>some (.ret v4))) 0 (l.length:Int) []) (fun s0=>
 some (s0,0)) (fun v0=>some v0)
def slices_Equal_string (s1_0:List ByteArray) (s2_1:List ByteArray):Option Bool:=
 if (!decide ((s1_0.length:Int)=(s2_1.length:Int)))=true then
 some false
 else
 thenR (forR (ρ:=Bool) (fun (i0:Int) (_:Unit)=>
 (AM s1_0 i0).bind fun x18=>
 (AM s2_1 i0).bind fun x22=>
 if (!(x18==x22))=true then
 some (.ret false)
 else
 some (.next ())) 0 (s1_0.length:Int) ()) (fun _=>
 some true) (fun v0=>some v0)
def FN [Ev] :Option Bool:=
 (Mc).bind fun x10=>
 (Ma).bind fun x12=>
 (EJ x10 x12.1.P x12.1.C x12.2.H x12.2.M true).bind fun x25=>
 (I2 x10 x12.2.H x25.1).bind fun x33=>
 (Hx x10 x12.1.P x12.1.C x12.2.H x12.2.M).bind fun x46=>
 (if (((decide (x25.2=0))&&(decide (x33.2=0)))&&(decide (x46.2=0)))=true then ((slices_Equal_string x33.1 [(⟨#[48,32,102,111,117,110,100,32,110,48,58,80,101,114,115,111,110,32,110,49,58,67,97,115,104,32,110,50,58,67,97,115,104]⟩:ByteArray)]).bind fun x62=>
 some (x62)) else some false).bind fun x63=>
 (if x63=true then ((slices_Equal_int x46.1 [1]).bind fun x67=>
 some (x67)) else some false).bind fun x68=>
 (if x68=true then ((II x10 x12.1.P x12.1.C x12.2.H x12.2.M true x25.1).bind fun x80=>
 some (x80)) else some false).bind fun x81=>
 some x81
def K9 [Ev] (t:AD):Option Bool:=
 if ((decide (20<(t.Nodes.length:Int)))||(decide (30<(t.Edges.length:Int))))=true then
 some false
 else
 thenR (forR (ρ:=Bool) (fun (i0:Int) (s0:Int)=>
 (AM t.Nodes i0).bind fun x30=>
 (if (decide (30<(A8 (s0+(x30.Attrs.length:Int)))))=true then some true else ((AM t.Nodes i0).bind fun x41=>
 some (decide (40<(x41.Name.size:Int))))).bind fun x46=>
 if x46=true then
 some (.ret false)
 else
 thenR (JE (ρ:=Bool) (fun (s2:Int)=>
 (AM t.Nodes i0).bind fun x51=>
 if (decide (s2<(x51.Attrs.length:Int)))=true then
 (AM t.Nodes i0).bind fun x61=>
 (AM x61.Attrs s2).bind fun x65=>
 if ((decide (40<(x65.Name.size:Int)))||(decide (25<(x65.Names.length:Int))))=true then
 some (.ret false)
 else
 thenR (JE (ρ:=Bool) (fun (s4:Int)=>
 if (decide (s4<(x65.Names.length:Int)))=true then
 (AM x65.Names s4).bind fun x87=>
 if (decide (40<(x87.size:Int)))=true then
 some (.ret false)
 else
 some (.next (A8 (s4+1)))
 else
 some (.brk s4)) 0) (fun s4=>
 some (.next (A8 (s2+1)))) (fun v4=>some (.ret v4))
 else
 some (.brk s2)) 0) (fun s2=>
 some (.next (A8 (s0+(x30.Attrs.length:Int))))) (fun v2=>some (.ret v2))) 0 (t.Nodes.length:Int) 0) (fun s0=>
 thenR (forR (ρ:=Bool) (fun (i6:Int) (_:Unit)=>
 (AM t.Edges i6).bind fun x101=>
 if (decide (40<(x101.Name.size:Int)))=true then
 some (.ret false)
 else
 some (.next ())) 0 (t.Edges.length:Int) ()) (fun _=>
 some true) (fun v6=>some v6)) (fun v0=>some v0)
def JC (g:Graph):Option Bool:=
 some ((decide ((g.Nodes.length:Int)<=45))&&(decide ((g.Edges.length:Int)<=90)))
def LB (p:Pattern):Option Bool:=
 (JC p.Graph).bind fun x5=>
 some ((x5&&(decide ((p.Slots.length:Int)<=15)))&&(decide ((p.Tests.length:Int)<=15)))
def Nx (m:Morphism) (n:Int):Option Bool:=
 some (decide ((A8 ((m.Nodes.length:Int)+(m.Edges.length:Int)))<=n))
def FP [Ev]:Nat->AA->Int->Option Int
 | 0,_,_=>none
 | n+1,c,most=>
  (LB c.Pattern).bind fun x10=>
  (if (!x10)=true then some true else ((Nx c.Map 140).bind fun x15=>
  some (!x15))).bind fun x17=>
  if x17=true then
  some (-1)
  else
  thenR (JE (ρ:=Int) (fun (s0:Int × Int)=>
  if ((decide (s0.2<(c.Kids.length:Int)))&&(decide (0<=s0.1)))=true then
  (AM c.Kids s0.2).bind fun x32=>
  (FP n x32 s0.1).bind fun x35=>
  some (.next (x35,A8 (s0.2+1)))
  else
  some (.brk (s0.1,s0.2))) (A8 (most - 1),0)) (fun s0=>
  some s0.1) (fun v0=>some v0)
def Ow [Ev] (c:AA) (most:Int):Option Int:=Hp fun n=>FP n c most
def MP [Ev] (c:AA):Option Bool:=
 (Ow c 40).bind fun x4=>
 some (decide (0<=x4))
def LA (h_0:A0):Option Bool:=
 (JC h_0.Graph).bind fun x6=>
 if ((!x6)||(decide (45<(h_0.Values.length:Int))))=true then
 some false
 else
 thenR (forR (ρ:=Bool) (fun (i0:Int) (_:Unit)=>
 (AM h_0.Values i0).bind fun x24=>
 if (decide (12<(x24.length:Int)))=true then
 some (.ret false)
 else
 some (.next ())) 0 (h_0.Values.length:Int) ()) (fun _=>
 some true) (fun v0=>some v0)
def KF (n:Int):Option Bool:=
 some ((decide (0<=n))&&(decide (n<=99)))
def MG (e:DQ) (nodes:Int):Option Bool:=
 (KF e.Type').bind fun x7=>
 some ((((x7&&(decide (0<=e.From)))&&(decide (e.From<nodes)))&&(decide (0<=e.To)))&&(decide (e.To<nodes)))
def G7 (g:Graph):Option Int:=
 if ((decide (40<(g.Nodes.length:Int)))||(decide (80<(g.Edges.length:Int))))=true then
 some 3
 else
 thenR (forR (ρ:=Int) (fun (i0:Int) (_:Unit)=>
 (AM g.Nodes i0).bind fun x25=>
 (KF x25).bind fun x27=>
 if (!x27)=true then
 some (.ret 6)
 else
 some (.next ())) 0 (g.Nodes.length:Int) ()) (fun _=>
 thenR (forR (ρ:=Int) (fun (i2:Int) (_:Unit)=>
 (AM g.Edges i2).bind fun x39=>
 (MG x39 (g.Nodes.length:Int)).bind fun x44=>
 if (!x44)=true then
 some (.ret 6)
 else
 some (.next ())) 0 (g.Edges.length:Int) ()) (fun _=>
 some 0) (fun v2=>some v2)) (fun v0=>some v0)
def Mt (t:FS):Option ByteArray:=
 if (decide (t.Kind=3))=true then
 (Ld (⟨#[34]⟩:ByteArray) t.Text).bind fun x8=>
 (Ld x8 (⟨#[34]⟩:ByteArray)).bind fun x9=>
 some x9
 else
 some t.Text
def J3 (c:Int):Option Bool:=
 some (((decide (97<=c))&&(decide (c<=122)))||((decide (65<=c))&&(decide (c<=90))))
def Ik (c:Int):Option Bool:=
 some ((decide (48<=c))&&(decide (c<=57)))
def MN [Ev] (s_0:ByteArray) (AB:Int) (digits:Bool):Option Int:=
 thenR (JE (ρ:=Int) (fun (s0:Int)=>
 (if (decide ((A8 (AB+s0))<(s_0.size:Int)))=true then ((sidx s_0 (A8 (AB+s0))).bind fun x19=>
 (Ik x19).bind fun x20=>
 (if x20=true then some true else ((if (!digits)=true then ((sidx s_0 (A8 (AB+s0))).bind fun x29=>
 (J3 x29).bind fun x30=>
 (if x30=true then some true else ((sidx s_0 (A8 (AB+s0))).bind fun x36=>
 some (decide (x36=95)))).bind fun x38=>
 some (x38)) else some false).bind fun x39=>
 some (x39))).bind fun x40=>
 some (x40)) else some false).bind fun x41=>
 if x41=true then
 some (.next (A8 (s0+1)))
 else
 some (.brk s0)) 0) (fun s0=>
 some s0) (fun v0=>some v0)
def J4 [Ev] (s_0:ByteArray) (AB:Int):Option Int:=
 thenR (JE (ρ:=Int) (fun (s0:Int)=>
 if (decide ((A8 (AB+s0))<(s_0.size:Int)))=true then
 (sidx s_0 (A8 (AB+s0))).bind fun x19=>
 if (decide (x19=34))=true then
 some (.ret (A8 (s0+1)))
 else
 if ((decide (x19<32))||(decide (126<x19)))=true then
 some (.ret 0)
 else
 some (.next (A8 (s0+1)))
 else
 some (.brk s0)) 1) (fun s0=>
 some 0) (fun v0=>some v0)
def ME :Option (List ByteArray):=
 some [(⟨#[45,62]⟩:ByteArray),(⟨#[60,61]⟩:ByteArray),(⟨#[62,61]⟩:ByteArray),(⟨#[61,61]⟩:ByteArray),(⟨#[33,61]⟩:ByteArray),(⟨#[123]⟩:ByteArray),(⟨#[125]⟩:ByteArray),(⟨#[40]⟩:ByteArray),(⟨#[41]⟩:ByteArray),(⟨#[91]⟩:ByteArray),(⟨#[93]⟩:ByteArray),(⟨#[44]⟩:ByteArray),(⟨#[59]⟩:ByteArray),(⟨#[58]⟩:ByteArray),(⟨#[61]⟩:ByteArray),(⟨#[43]⟩:ByteArray),(⟨#[45]⟩:ByteArray),(⟨#[42]⟩:ByteArray),(⟨#[60]⟩:ByteArray),(⟨#[62]⟩:ByteArray),(⟨#[33]⟩:ByteArray),(⟨#[38]⟩:ByteArray),(⟨#[124]⟩:ByteArray),(⟨#[46]⟩:ByteArray),(⟨#[63]⟩:ByteArray)]
def MM [Ev] (s_0:ByteArray) (AB:Int):Option (FS × Int × Int):=
 (sidx s_0 AB).bind fun x16=>
 (J3 x16).bind fun x18=>
 (if x18=true then some true else ((Ik x16).bind fun x21=>
 some (x21))).bind fun x22=>
 if x22=true then
 (Ik x16).bind fun x26=>
 (MN s_0 AB x26).bind fun x27=>
 (Ik x16).bind fun x29=>
 (if x29=true then
 some (2,9)
 else
 some (1,20)).bind fun w1=>
 if (decide (w1.2<x27))=true then
 some (FS.mk 0 (⟨#[]⟩:ByteArray) 0,0,3)
 else
 (sslc s_0 AB (A8 (AB+x27))).bind fun x40=>
 some (FS.mk w1.1 x40 0,x27,0)
 else
 if (decide (x16=34))=true then
 (J4 s_0 AB).bind fun x47=>
 if (decide (x47=0))=true then
 some (FS.mk 0 (⟨#[]⟩:ByteArray) 0,0,2)
 else
 if (decide (60<(A8 (x47 - 2))))=true then
 some (FS.mk 0 (⟨#[]⟩:ByteArray) 0,0,3)
 else
 (sslc s_0 (A8 (AB+1)) (A8 ((A8 (AB+x47)) - 1))).bind fun x62=>
 some (FS.mk 3 x62 0,x47,0)
 else
 (ME).bind fun x65=>
 thenR (forR (ρ:=(FS × Int × Int)) (fun (i0:Int) (s0:FS)=>
 (AM x65 i0).bind fun x75=>
 (if (decide ((A8 (AB+(x75.size:Int)))<=(s_0.size:Int)))=true then ((AM x65 i0).bind fun x88=>
 (sslc s_0 AB (A8 (AB+(x88.size:Int)))).bind fun x92=>
 (AM x65 i0).bind fun x95=>
 some (x92==x95)) else some false).bind fun x98=>
 if x98=true then
 (AM x65 i0).bind fun x101=>
 (AM x65 i0).bind fun x106=>
 some (.ret (FS.mk 4 x101 0,(x106.size:Int),0))
 else
 some (.next s0)) 0 (x65.length:Int) (FS.mk 0 (⟨#[]⟩:ByteArray) 0)) (fun s0=>
 some (FS.mk 0 (⟨#[]⟩:ByteArray) 0,0,2)) (fun v0=>some v0)
def MD [Ev] (t:FS):Option Bool:=
 (Mt t).bind fun x8=>
 if (x8==(⟨#[]⟩:ByteArray))=true then
 some false
 else
 (MM x8 0).bind fun x13=>
 some (((decide (x13.2.2=0))&&(decide (x13.2.1=(x8.size:Int))))&&(decide (x13.1.Kind=t.Kind)))
def HL [Ev] (s_0:ByteArray):Option Bool:=
 (MD (FS.mk 1 s_0 0)).bind fun x5=>
 some x5
def E7 (n:Int) (low:Int) (high:Int):Option Bool:=
 some ((decide (low<=n))&&(decide (n<=high)))
def HM [Ev]:Nat->AD->Int->Option (List Attr)
 | 0,_,_=>none
 | n+1,t,a=>
  if (decide (a<0))=true then
  some []
  else
  (AM t.Nodes a).bind fun x12=>
  (HM n t x12.Parent).bind fun x15=>
  (CX [] x15).bind fun x16=>
  (AM t.Nodes a).bind fun x20=>
  (CX x16 x20.Attrs).bind fun x23=>
  some x23
def MF [Ev] (t:AD) (a:Int):Option (List Attr):=Hp fun n=>HM n t a
def Kd [Ev] (l:List ByteArray):Option Int:=
 if (decide (20<(l.length:Int)))=true then
 some 3
 else
 thenR (forR (ρ:=Int) (fun (i0:Int) (_:Unit)=>
 (AM l i0).bind fun x16=>
 (HL x16).bind fun x18=>
 if (!x18)=true then
 some (.ret 2)
 else
 thenR (forR (ρ:=Int) (fun (i2:Int) (_:Unit)=>
 (AM l i2).bind fun x27=>
 (AM l i0).bind fun x31=>
 if (x27==x31)=true then
 some (.ret 5)
 else
 some (.next ())) 0 i0 ()) (fun _=>
 some (.next ())) (fun v2=>some (.ret v2))) 0 (l.length:Int) ()) (fun _=>
 some 0) (fun v0=>some v0)
def IZ [Ev] (a:Attr):Option Int:=
 if (decide ((a.Names.length:Int)=0))=true then
 (E7 a.Low (-1000000) 1000000).bind fun x10=>
 (if (!x10)=true then some true else ((E7 a.High a.Low 1000000).bind fun x17=>
 some (!x17))).bind fun x19=>
 if x19=true then
 some 6
 else
 some 0
 else
 (Kd a.Names).bind fun x22=>
 if (!decide (x22=0))=true then
 some x22
 else
 if ((!decide (a.Low=0))||(!decide (a.High=(A8 ((a.Names.length:Int) - 1)))))=true then
 some 6
 else
 some 0
def LZ [Ev] (t:AD) (i_1:Int):Option Int:=
 (AM t.Nodes i_1).bind fun x14=>
 (HL x14.Name).bind fun x18=>
 if (!x18)=true then
 some 2
 else
 thenR (forR (ρ:=Int) (fun (i0:Int) (_:Unit)=>
 (AM t.Nodes i0).bind fun x28=>
 if (x28.Name==x14.Name)=true then
 some (.ret 5)
 else
 some (.next ())) 0 i_1 ()) (fun _=>
 (E7 x14.Parent (-1) (A8 (i_1 - 1))).bind fun x38=>
 if (!x38)=true then
 some 6
 else
 (MF t i_1).bind fun x42=>
 if ((decide (4<(x14.Attrs.length:Int)))||(decide (8<(x42.length:Int))))=true then
 some 3
 else
 thenR (forR (ρ:=Int) (fun (i2:Int) (_:Unit)=>
 (AM x42 i2).bind fun x66=>
 (HL x66.Name).bind fun x69=>
 if (!x69)=true then
 some (.ret 2)
 else
 thenR (forR (ρ:=Int) (fun (i4:Int) (_:Unit)=>
 (AM x42 i4).bind fun x78=>
 (AM x42 i2).bind fun x83=>
 if (x78.Name==x83.Name)=true then
 some (.ret 5)
 else
 some (.next ())) 0 i2 ()) (fun _=>
 (AM x42 i2).bind fun x89=>
 (IZ x89).bind fun x91=>
 if (!decide (x91=0))=true then
 some (.ret x91)
 else
 some (.next ())) (fun v4=>some (.ret v4))) (A8 ((x42.length:Int) - (x14.Attrs.length:Int))) (x42.length:Int) ()) (fun _=>
 some 0) (fun v2=>some v2)) (fun v0=>some v0)
def Jf (low:Int) (high:Int):Option Bool:=
 (E7 low 0 40).bind fun x6=>
 (if x6=true then ((if (decide (high=(-1)))=true then some true else ((E7 high low 40).bind fun x13=>
 some (x13))).bind fun x14=>
 some (x14)) else some false).bind fun x15=>
 some x15
def LY [Ev] (t:AD) (i_1:Int):Option Int:=
 (AM t.Edges i_1).bind fun x11=>
 (HL x11.Name).bind fun x15=>
 if (!x15)=true then
 some 2
 else
 thenR (forR (ρ:=Int) (fun (i0:Int) (_:Unit)=>
 (AM t.Edges i0).bind fun x25=>
 if (x25.Name==x11.Name)=true then
 some (.ret 5)
 else
 some (.next ())) 0 i_1 ()) (fun _=>
 (E7 x11.From 0 (A8 ((t.Nodes.length:Int) - 1))).bind fun x38=>
 (if (!x38)=true then some true else ((E7 x11.To 0 (A8 ((t.Nodes.length:Int) - 1))).bind fun x44=>
 some (!x44))).bind fun x46=>
 (if x46=true then some true else ((Jf x11.OutLow x11.OutHigh).bind fun x52=>
 some (!x52))).bind fun x54=>
 (if x54=true then some true else ((Jf x11.InLow x11.InHigh).bind fun x60=>
 some (!x60))).bind fun x62=>
 if x62=true then
 some 6
 else
 some 0) (fun v0=>some v0)
def Il [Ev] (t:AD):Option (ByteArray × Int):=
 if (decide ((t.Nodes.length:Int)=0))=true then
 some ((⟨#[]⟩:ByteArray),7)
 else
 if ((decide (12<(t.Nodes.length:Int)))||(decide (20<(t.Edges.length:Int))))=true then
 some ((⟨#[]⟩:ByteArray),3)
 else
 thenR (forR (ρ:=(ByteArray × Int)) (fun (i0:Int) (_:Unit)=>
 (LZ t i0).bind fun x31=>
 if (!decide (x31=0))=true then
 (AM t.Nodes i0).bind fun x37=>
 some (.ret (x37.Name,x31))
 else
 some (.next ())) 0 (t.Nodes.length:Int) ()) (fun _=>
 thenR (forR (ρ:=(ByteArray × Int)) (fun (i2:Int) (_:Unit)=>
 (LY t i2).bind fun x50=>
 if (!decide (x50=0))=true then
 (AM t.Edges i2).bind fun x56=>
 some (.ret (x56.Name,x50))
 else
 some (.next ())) 0 (t.Edges.length:Int) ()) (fun _=>
 some ((⟨#[]⟩:ByteArray),0)) (fun v2=>some v2)) (fun v0=>some v0)
def Im (t:AD) (g:Graph):Option Bool:=
 thenR (forR (ρ:=Bool) (fun (i0:Int) (_:Unit)=>
 (AM g.Nodes i0).bind fun x17=>
 (if (decide (x17<0))=true then some true else ((AM g.Nodes i0).bind fun x24=>
 some (decide ((t.Nodes.length:Int)<=x24)))).bind fun x30=>
 if x30=true then
 some (.ret false)
 else
 some (.next ())) 0 (g.Nodes.length:Int) ()) (fun _=>
 thenR (forR (ρ:=Bool) (fun (i2:Int) (_:Unit)=>
 (AM g.Edges i2).bind fun x41=>
 (if (decide (x41.Type'<0))=true then some true else ((AM g.Edges i2).bind fun x49=>
 some (decide ((t.Edges.length:Int)<=x49.Type')))).bind fun x56=>
 if x56=true then
 some (.ret false)
 else
 some (.next ())) 0 (g.Edges.length:Int) ()) (fun _=>
 some true) (fun v2=>some v2)) (fun v0=>some v0)
def Kc [Ev] (t:AD) (a:Int) (b:Int):Option Int:=
 (Il t).bind fun x11=>
 if (!decide (x11.2=0))=true then
 some x11.2
 else
 (E7 a 0 (A8 ((t.Nodes.length:Int) - 1))).bind fun x22=>
 (if (!x22)=true then some true else ((E7 b 0 (A8 ((t.Nodes.length:Int) - 1))).bind fun x30=>
 some (!x30))).bind fun x32=>
 if x32=true then
 some 6
 else
 some 0
def Kb [Ev] (t:AD) (a:Int):Option (List Attr × Int):=
 (Kc t a a).bind fun x14=>
 if (!decide (x14=0))=true then
 some ([],x14)
 else
 (MF t a).bind fun x20=>
 (forA (fun (i0:Int) (s0:List Attr)=>
 (AM x20 i0).bind fun x29=>
 (CX [] x29.Names).bind fun x34=>
 (CX s0 [Attr.mk x29.Name x29.Low x29.High x34]).bind fun x39=>
 some x39) 0 (x20.length:Int) []).bind fun s0=>
 some (s0,0)
def La [Ev] (t:AD) (p:Pattern) (node:Int) (index:Int):Option (Attr × Bool):=
 if ((decide (node<0))||(decide ((p.Graph.Nodes.length:Int)<=node)))=true then
 some (Attr.mk (⟨#[]⟩:ByteArray) 0 0 [],false)
 else
 (AM p.Graph.Nodes node).bind fun x29=>
 (Kb t x29).bind fun x31=>
 if (((!decide (x31.2=0))||(decide (index<0)))||(decide ((x31.1.length:Int)<=index)))=true then
 some (Attr.mk (⟨#[]⟩:ByteArray) 0 0 [],false)
 else
 (AM x31.1 index).bind fun x49=>
 some (x49,true)
def Kq (n:Int):Option Bool:=
 some ((decide ((-1000000)<=n))&&(decide (n<=1000000)))
def I5 (n:Int) (t:Term):Option Int:=
 if ((((decide (t.Var<(-1)))||(decide (n<=t.Var)))||(decide (t.Add<(-1000000))))||(decide (1000000<t.Add)))=true then
 some 6
 else
 some 0
def MO (n:Int) (x_1:Test):Option Int:=
 if ((!decide (x_1.Kind=1))&&(!decide (x_1.Kind=2)))=true then
 some 1
 else
 (I5 n x_1.Left).bind fun x17=>
 if (!decide (x17=0))=true then
 some x17
 else
 (I5 n x_1.Right).bind fun x24=>
 some x24
def Ka (n:Int) (l:List Test):Option Int:=
 if ((decide (n<0))||(decide (12<n)))=true then
 some 6
 else
 if (decide (40<(l.length:Int)))=true then
 some 3
 else
 thenR (forR (ρ:=Int) (fun (i0:Int) (_:Unit)=>
 (AM l i0).bind fun x25=>
 (MO n x25).bind fun x27=>
 if (!decide (x27=0))=true then
 some (.ret x27)
 else
 some (.next ())) 0 (l.length:Int) ()) (fun _=>
 some 0) (fun v0=>some v0)
def J5 (p:Pattern) (v_1:Int):Option Bool:=
 thenR (forR (ρ:=Bool) (fun (i0:Int) (_:Unit)=>
 (AM p.Slots i0).bind fun x16=>
 if (decide (x16.Term.Var=v_1))=true then
 some (.ret true)
 else
 some (.next ())) 0 (p.Slots.length:Int) ()) (fun _=>
 some false) (fun v0=>some v0)
def Jh [Ev] (t:AD) (p:Pattern):Option Int:=
 (Il t).bind fun x16=>
 if (!decide (x16.2=0))=true then
 some x16.2
 else
 (G7 p.Graph).bind fun x24=>
 if (!decide (x24=0))=true then
 some x24
 else
 (Im t p.Graph).bind fun x31=>
 if (!x31)=true then
 some 13
 else
 if ((decide (p.Vars<0))||(decide (12<p.Vars)))=true then
 some 6
 else
 if ((decide (10<(p.Slots.length:Int)))||(decide (10<(p.Tests.length:Int))))=true then
 some 3
 else
 thenR (forR (ρ:=Int) (fun (i0:Int) (_:Unit)=>
 (AM p.Slots i0).bind fun x61=>
 (La t p x61.Node x61.Attr).bind fun x70=>
 (if (((!x70.2)||(decide (x61.Term.Var<(-1))))||(decide (p.Vars<=x61.Term.Var)))=true then some true else ((Kq x61.Term.Add).bind fun x93=>
 some (!x93))).bind fun x95=>
 if x95=true then
 some (.ret 6)
 else
 some (.next ())) 0 (p.Slots.length:Int) ()) (fun _=>
 (Ka p.Vars p.Tests).bind fun x100=>
 if (!decide (x100=0))=true then
 some x100
 else
 thenR (forR (ρ:=Int) (fun (i2:Int) (_:Unit)=>
 (J5 p i2).bind fun x112=>
 if (!x112)=true then
 some (.ret 9)
 else
 some (.next ())) 0 p.Vars ()) (fun _=>
 some 0) (fun v2=>some v2)) (fun v0=>some v0)
def H8 (c:AA):Option Bool:=
 some (((decide ((A8 ((A8 ((A8 ((c.Map.Nodes.length:Int)+(c.Map.Edges.length:Int)))+(c.Pattern.Graph.Nodes.length:Int)))+(c.Pattern.Graph.Edges.length:Int)))=0))&&(decide ((A8 ((c.Pattern.Slots.length:Int)+(c.Pattern.Tests.length:Int)))=0)))&&(decide (c.Pattern.Vars=0)))
def Kk (c:AA):Option Bool:=
 if (decide (c.Kind=1))=true then
 (if (decide ((c.Kids.length:Int)=0))=true then ((H8 c).bind fun x13=>
 some (x13)) else some false).bind fun x14=>
 some x14
 else
 if (decide (c.Kind=2))=true then
 (if (decide ((c.Kids.length:Int)=1))=true then ((H8 c).bind fun x23=>
 some (x23)) else some false).bind fun x24=>
 some x24
 else
 (if (decide (c.Kind=3))=true then
 some (decide (c.Kind=3))
 else
 some (decide (c.Kind=4))).bind fun w1=>
 if w1=true then
 (if (decide (0<(c.Kids.length:Int)))=true then ((H8 c).bind fun x34=>
 some (x34)) else some false).bind fun x35=>
 some x35
 else
 if (decide (c.Kind=5))=true then
 some (decide ((c.Kids.length:Int)=1))
 else
 some false
def FH [Ev]:Nat->AA->Option Bool
 | 0,_=>none
 | n+1,c=>
  (Kk c).bind fun x5=>
  if (!x5)=true then
  some false
  else
  thenR (forR (ρ:=Bool) (fun (i0:Int) (_:Unit)=>
  (AM c.Kids i0).bind fun x17=>
  (FH n x17).bind fun x19=>
  if (!x19)=true then
  some (.ret false)
  else
  some (.next ())) 0 (c.Kids.length:Int) ()) (fun _=>
  some true) (fun v0=>some v0)
def L6 [Ev] (c:AA):Option Bool:=Hp fun n=>FH n c
def F8 [Ev]:Nat->AA->Option (Int × Int)
 | 0,_=>none
 | n+1,c=>
  (forA (fun (i0:Int) (s0:Int × Int)=>
  (AM c.Kids i0).bind fun x20=>
  (F8 n x20).bind fun x22=>
  some (A8 (s0.1+x22.1),max s0.2 x22.2)) 0 (c.Kids.length:Int) (1,0)).bind fun s0=>
  (if (decide (c.Kind=5))=true then
  some (A8 (s0.2+1))
  else
  some s0.2).bind fun w1=>
  some (s0.1,w1)
def Me [Ev] (c:AA):Option (Int × Int):=Hp fun n=>F8 n c
def Kh [Ev] (c:AA):Option Int:=
 (L6 c).bind fun x6=>
 if (!x6)=true then
 some 1
 else
 (Me c).bind fun x10=>
 if ((decide (12<x10.1))||(decide (3<x10.2)))=true then
 some 3
 else
 some 0
def Lb (p:Pattern) (v_1:Int):Option Bool:=
 thenR (forR (ρ:=Bool) (fun (i0:Int) (_:Unit)=>
 (AM p.Slots i0).bind fun x16=>
 if (decide (x16.Term.Var=v_1))=true then
 some (.ret true)
 else
 some (.next ())) 0 (p.Slots.length:Int) ()) (fun _=>
 some false) (fun v0=>some v0)
def Kj [Ev] (t:AD) (vars:Int) (q:Pattern):Option Int:=
 if (decide (q.Vars<vars))=true then
 some 20
 else
 (Jh t q).bind fun x15=>
 if (!decide (x15=9))=true then
 some x15
 else
 thenR (forR (ρ:=Int) (fun (i0:Int) (_:Unit)=>
 (Lb q i0).bind fun x28=>
 if (!x28)=true then
 some (.ret x15)
 else
 some (.next ())) vars q.Vars ()) (fun _=>
 some 0) (fun v0=>some v0)
def Jg (a:Graph) (b:Graph) (m:Morphism):Option Int:=
 (G7 a).bind fun x14=>
 if (!decide (x14=0))=true then
 some x14
 else
 (G7 b).bind fun x19=>
 if (!decide (x19=0))=true then
 some x19
 else
 if ((!decide ((m.Nodes.length:Int)=(a.Nodes.length:Int)))||(!decide ((m.Edges.length:Int)=(a.Edges.length:Int))))=true then
 some 20
 else
 thenR (forR (ρ:=Int) (fun (i0:Int) (_:Unit)=>
 (AM m.Nodes i0).bind fun x49=>
 (if (decide (x49<0))=true then some true else ((AM m.Nodes i0).bind fun x56=>
 some (decide ((b.Nodes.length:Int)<=x56)))).bind fun x62=>
 if x62=true then
 some (.ret 6)
 else
 (AM m.Nodes i0).bind fun x68=>
 (AM b.Nodes x68).bind fun x70=>
 (AM a.Nodes i0).bind fun x75=>
 if (!decide (x70=x75))=true then
 some (.ret 13)
 else
 some (.next ())) 0 (a.Nodes.length:Int) ()) (fun _=>
 thenR (forR (ρ:=Int) (fun (i2:Int) (_:Unit)=>
 (AM m.Edges i2).bind fun x88=>
 (if (decide (x88<0))=true then some true else ((AM m.Edges i2).bind fun x95=>
 some (decide ((b.Edges.length:Int)<=x95)))).bind fun x101=>
 if x101=true then
 some (.ret 6)
 else
 (AM a.Edges i2).bind fun x105=>
 (AM m.Edges i2).bind fun x112=>
 (AM b.Edges x112).bind fun x114=>
 if (!decide (x105.Type'=x114.Type'))=true then
 some (.ret 13)
 else
 (AM m.Nodes x105.From).bind fun x125=>
 (if (!decide (x125=x114.From))=true then some true else ((AM m.Nodes x105.To).bind fun x135=>
 some (!decide (x135=x114.To)))).bind fun x140=>
 if x140=true then
 some (.ret 11)
 else
 some (.next ())) 0 (a.Edges.length:Int) ()) (fun _=>
 some 0) (fun v2=>some v2)) (fun v0=>some v0)
def H2 (l:List Int):Option Bool:=
 thenR (forR (ρ:=Bool) (fun (i0:Int) (_:Unit)=>
 thenR (forR (ρ:=Bool) (fun (i2:Int) (_:Unit)=>
 (AM l i0).bind fun x18=>
 (AM l i2).bind fun x22=>
 if (decide (x18=x22))=true then
 some (.ret false)
 else
 some (.next ())) 0 i0 ()) (fun _=>
 some (.next ())) (fun v2=>some (.ret v2))) 0 (l.length:Int) ()) (fun _=>
 some true) (fun v0=>some v0)
def Ia (a:Graph) (b:Graph) (m:Morphism):Option Bool:=
 (Jg a b m).bind fun x10=>
 (if (decide (x10=0))=true then ((H2 m.Nodes).bind fun x15=>
 some (x15)) else some false).bind fun x16=>
 (if x16=true then ((H2 m.Edges).bind fun x20=>
 some (x20)) else some false).bind fun x21=>
 some x21
def GE [Ev]:Nat->AD->Pattern->AA->Option Int
 | 0,_,_,_=>none
 | n+1,t,p,c=>
  if (decide (c.Kind=5))=true then
  (Kj t p.Vars c.Pattern).bind fun x21=>
  if (!decide (x21=0))=true then
  some x21
  else
  (Jg p.Graph c.Pattern.Graph c.Map).bind fun x32=>
  if (!decide (x32=0))=true then
  some x32
  else
  (Ia p.Graph c.Pattern.Graph c.Map).bind fun x43=>
  if (!x43)=true then
  some 1
  else
  thenR (forR (ρ:=Int) (fun (i0:Int) (_:Unit)=>
  (AM c.Kids i0).bind fun x59=>
  (GE n t c.Pattern x59).bind fun x61=>
  if (!decide (x61=0))=true then
  some (.ret x61)
  else
  some (.next ())) 0 (c.Kids.length:Int) ()) (fun _=>
  some 0) (fun v0=>some v0)
  else
  thenR (forR (ρ:=Int) (fun (i0:Int) (_:Unit)=>
  (AM c.Kids i0).bind fun x59=>
  (GE n t p x59).bind fun x61=>
  if (!decide (x61=0))=true then
  some (.ret x61)
  else
  some (.next ())) 0 (c.Kids.length:Int) ()) (fun _=>
  some 0) (fun v0=>some v0)
def R8 [Ev] (t:AD) (p:Pattern) (c:AA):Option Int:=Hp fun n=>GE n t p c
def Ki [Ev] (t:AD) (p:Pattern) (c:AA):Option Int:=
 (Jh t p).bind fun x11=>
 if (!decide (x11=0))=true then
 some x11
 else
 (Kh c).bind fun x16=>
 if (!decide (x16=0))=true then
 some x16
 else
 (R8 t p c).bind fun x23=>
 some x23
def Kf [Ev] (t:AD) (p:Graph) (g:Graph):Option Int:=
 (Il t).bind fun x13=>
 if (!decide (x13.2=0))=true then
 some x13.2
 else
 (G7 p).bind fun x20=>
 if (!decide (x20=0))=true then
 some x20
 else
 (G7 g).bind fun x25=>
 if (!decide (x25=0))=true then
 some x25
 else
 (Im t p).bind fun x31=>
 (if (!x31)=true then some true else ((Im t g).bind fun x36=>
 some (!x36))).bind fun x38=>
 if x38=true then
 some 13
 else
 some 0
def Ke [Ev] (t:AD) (p:Graph) (g:Graph):Option Bool:=
 (K9 t).bind fun x8=>
 (if x8=true then ((JC p).bind fun x11=>
 some (x11)) else some false).bind fun x12=>
 (if x12=true then ((JC g).bind fun x15=>
 some (x15)) else some false).bind fun x16=>
 (if x16=true then ((Kf t p g).bind fun x21=>
 some ((!decide (x21=0))||(((decide ((A8 ((p.Nodes.length:Int)+(p.Edges.length:Int)))<=6))&&(decide ((g.Nodes.length:Int)<=8)))&&(decide ((g.Edges.length:Int)<=12))))) else some false).bind fun x45=>
 some x45
def Kg [Ev] (t:AD) (p:Pattern) (h_2:A0):Option Bool:=
 (LB p).bind fun x8=>
 (if x8=true then ((LA h_2).bind fun x11=>
 some (x11)) else some false).bind fun x12=>
 (if x12=true then ((Ke t p.Graph h_2.Graph).bind fun x19=>
 some (x19)) else some false).bind fun x20=>
 some x20
def GR [Ev]:Nat->AA->Option Bool
 | 0,_=>none
 | n+1,c=>
  thenR (forR (ρ:=Bool) (fun (i0:Int) (_:Unit)=>
  (AM c.Kids i0).bind fun x14=>
  (GR n x14).bind fun x16=>
  if (!x16)=true then
  some (.ret false)
  else
  some (.next ())) 0 (c.Kids.length:Int) ()) (fun _=>
  some (decide ((A8 ((c.Pattern.Graph.Nodes.length:Int)+(c.Pattern.Graph.Edges.length:Int)))<=6))) (fun v0=>some v0)
def NO [Ev] (c:AA):Option Bool:=Hp fun n=>GR n c
def E2 [Ev]:Nat->Pattern->AA->Int->Int->Option Bool
 | 0,_,_,_,_=>none
 | n+1,p,c,nodes,edges=>
  (if (decide (c.Kind=5))=true then
  some c.Pattern
  else
  some p).bind fun w1=>
  thenR (JE (ρ:=Bool) (fun (s0:Int × Int)=>
  if (decide (s0.2<(w1.Graph.Nodes.length:Int)))=true then
  some (.next (A8 (s0.1*nodes),A8 (s0.2+1)))
  else
  some (.brk (s0.1,s0.2))) (1,(p.Graph.Nodes.length:Int))) (fun s0=>
  thenR (JE (ρ:=Bool) (fun (s2:Int × Int)=>
  if (decide (s2.2<(w1.Graph.Edges.length:Int)))=true then
  some (.next (A8 (s2.1*edges),A8 (s2.2+1)))
  else
  some (.brk (s2.1,s2.2))) (s0.1,(p.Graph.Edges.length:Int))) (fun s2=>
  thenR (forR (ρ:=Bool) (fun (i4:Int) (_:Unit)=>
  (AM c.Kids i4).bind fun x61=>
  (E2 n w1 x61 nodes edges).bind fun x65=>
  if (!x65)=true then
  some (.ret false)
  else
  some (.next ())) 0 (c.Kids.length:Int) ()) (fun _=>
  some (decide (s2.1<=5000))) (fun v4=>some v4)) (fun v2=>some v2)) (fun v0=>some v0)
def Md [Ev] (p:Pattern) (c:AA) (nodes:Int) (edges:Int):Option Bool:=Hp fun n=>E2 n p c nodes edges
def FO [Ev] (t:AD) (p:Pattern) (c:AA) (h_3:A0):Option Bool:=
 (MP c).bind fun x10=>
 (if (!x10)=true then some true else ((LB p).bind fun x14=>
 some (!x14))).bind fun x16=>
 (if x16=true then some true else ((LA h_3).bind fun x19=>
 some (!x19))).bind fun x21=>
 if x21=true then
 some false
 else
 (Ki t p c).bind fun x25=>
 (if (!decide (x25=0))=true then some true else ((Kg t p h_3).bind fun x31=>
 (if x31=true then ((NO c).bind fun x34=>
 some (x34)) else some false).bind fun x35=>
 (if ((x35&&(decide ((h_3.Graph.Nodes.length:Int)<=6)))&&(decide ((h_3.Graph.Edges.length:Int)<=8)))=true then ((Md p c 14 18).bind fun x53=>
 some (x53)) else some false).bind fun x54=>
 some (x54))).bind fun x55=>
 some x55
def KY [Ev] (t:AD) (x_1:G5) (y:H6):Option Bool:=
 (K9 t).bind fun x8=>
 (if x8=true then ((FO t x_1.P x_1.C y.H).bind fun x17=>
 some (x17)) else some false).bind fun x18=>
 some ((x18&&(decide ((A8 ((y.M.Morphism.Nodes.length:Int)+(y.M.Morphism.Edges.length:Int)))<=150)))&&(decide ((y.M.Vars.length:Int)<=40)))
def NJ (c:AA) (path:List Int):Option (AA × Bool):=
 thenR (forR (ρ:=(AA × Bool)) (fun (i0:Int) (s0:AA × AA)=>
 (AM path i0).bind fun x12=>
 if ((decide (x12<0))||(decide ((s0.1.Kids.length:Int)<=x12)))=true then
 some (.ret (s0.1,false))
 else
 (AM s0.1.Kids x12).bind fun x27=>
 some (.next (x27,s0.2))) 0 (path.length:Int) (c,AA.mk 0 [] (Morphism.mk [] []) (Pattern.mk (Graph.mk [] []) [] 0 []))) (fun s0=>
 some (s0.1,true)) (fun v0=>some v0)
def Hm (n:Int) (c0:H6):Option Bool:=
 some ((decide (n<0))||(decide ((c0.H.Graph.Nodes.length:Int)<=n)))
def IU [Ev] (t:AD) (x_1:G5) (y:H6):Option Bool:=
 (FN).bind fun x13=>
 (if (!x13)=true then some true else ((KY t x_1 y).bind fun x19=>
 some (!x19))).bind fun x21=>
 if x21=true then
 (FN).bind fun x22=>
 some x22
 else
 (EJ t x_1.P x_1.C y.H y.M y.Injective).bind fun x35=>
 if (!decide (x35.2=0))=true then
 some (decide ((x35.1.length:Int)=0))
 else
 thenR (forR (ρ:=Bool) (fun (i0:Int) (_:Unit)=>
 (AM x35.1 i0).bind fun x47=>
 (NJ x_1.C x47.Path).bind fun x54=>
 if (((!x54.2)||(!((decide (x47.Kind=1))==(decide (x54.1.Kind=1)))))||((!decide (x47.Kind=1))&&(!decide (x54.1.Kind=5))))=true then
 some (.ret false)
 else
 (BN x47.Nodes (fun y0=>Hm y0 y)).bind fun x81=>
 if x81=true then
 some (.ret false)
 else
 if ((decide (x47.Kind=2))||(decide (x47.Kind=4)))=true then
 if (!decide ((x47.Nodes.length:Int)=(x54.1.Pattern.Graph.Nodes.length:Int)))=true then
 some (.ret false)
 else
 some (.next ())
 else
 some (.next ())) 0 (x35.1.length:Int) ()) (fun _=>
 some (decide (0<(x35.1.length:Int)))) (fun v0=>some v0)
end
end Go.Sf.Sc
