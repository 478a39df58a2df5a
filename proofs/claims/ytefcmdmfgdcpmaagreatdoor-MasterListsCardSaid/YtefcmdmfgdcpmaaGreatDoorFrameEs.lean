/- Catalogs. -/
import Derived.Test.YtefcmdmfgdcpmaaGreatDoorCards
import Derived.Test.YtefcmdmfgdcpmaaGreatDoorTie
import Derived.Deep.DeepHandedRow
import Derived.Stop.LaidErr
import Derived.Lay
import Derived.Test.YtefcmdmfgdcpmaaGreatDoorChA
import Derived.Test.YtefcmdmfgdcpmaaGreatDoorSrt
set_option maxRecDepth 100000
namespace Go.Proofs.YtefcmdmfgdcpmaaGreatDoor
section
open Go.ChangeShapes Go.WideShapes Go.ChangeAt Go.RowKit
theorem ownk:ownKnob Tryz.prog.godebug=none:=by kernel_rfl
theorem zrZ:laidOutB Tryz.prog=true:=by kernel_rfl
theorem zej{H:Type}{enc:TypeId × Value->H}{W W':World}(hb:Below W.heap.size W W')(sp:Nat->Bool) :
  ∀ (ts:List TypeId) (vs:List Value) (ds:List (DataW H)) (ps:List MemPlace),(∀ t∈ts,Tryz.prog.readableRec t=true∧t<Tryz.prog.types.size)->DataW.TrodAll enc Tryz.prog W 0 (fun _=>true) true ts vs ds ps ->
   (∀ p∈ps,p.block<W.heap.size)->(∀ p∈ps,sp p.block=true)->DataW.TrodAll enc Tryz.prog W' 0 sp true ts vs ds ps
 | [],vs,ds,ps,_,h,_,_=>by
   obtain⟨rfl,rfl,rfl⟩:=trodAll_nil h;exact trodAll_mk0
 | t::ts,vs,ds,ps,ht,h,hlt,hsp=>by
   obtain⟨v,vs',d,ds',p,q,rfl,rfl,rfl,h0,h1⟩:=trodAll_cons h;have k:=ht t (by simp)
   exact trodAll_cons_mk (WideElems.Trod_stays zrZ k.1 k.2 h0 (fun x hx=>hb.same (hlt x (by simp [hx]))) (fun x hx=>hsp x (by simp [hx])))
    (zej hb sp ts vs' ds' q (fun u hu=>ht u (by simp [hu])) h1 (fun x hx=>hlt x (by simp [hx])) (fun x hx=>hsp x (by simp [hx])))
theorem zeo{H:Type}{enc:TypeId × Value->H}{W W':World}(hb:Below W.heap.size W W'){ts:List TypeId}{vs:List Value}{ds:List (DataW H)}{ps:List MemPlace}(ht:(ts.all fun t=>Tryz.prog.readableRec t&&decide (t<Tryz.prog.types.size))=true)(h:DataW.TrodAll enc Tryz.prog W 0 (fun _=>true) true ts vs ds ps)(hlt:∀ p∈ps,p.block<W.heap.size):DataW.TrodAll enc Tryz.prog W' 0 (fun b=>decide (b<W.heap.size)) true ts vs ds ps :=
 zej hb _ ts vs ds ps (fun t hm=>by have:=List.all_eq_true.1 ht t hm;simpa using this) h hlt (fun p hp=>by simpa using hlt p hp)
theorem zdO{H:Type}{enc:TypeId × Value->H}{C:Checked}{os:Os}{f:FuncId}{fn:Func}{s:OpenSpec}{conds:List PathCond}{apart:Bool}{laid:List (String × DataW Unit)}(modest:Bool)(args:Array Value)(hsh:((World.laidAll C.prog os laid).forCall (fun _ _=>0) ⟨#[],args,[]⟩).Shaped C.prog)(hok:Input.okWideB C.prog ((World.laidAll C.prog os laid).forCall (fun _ _=>0) ⟨#[],args,[]⟩) f ⟨#[],args,[]⟩=true)(hrow:s.preRow enc C.prog fn conds apart laid ((World.laidAll C.prog os laid).forCall (fun _ _=>0) ⟨#[],args,[]⟩).memory args) :
  ∃ (w:World) (tape:Tape) (i:Input),w.os=os∧(w.forCall tape i).Shaped C.prog∧i.vars=[]∧Input.okWide C.prog (w.forCall tape i) .any w.heap.size f i ∧
   s.preRow enc C.prog fn conds apart laid (w.forCall tape i).memory i.args∧({ modest:=modest }:Assume).holds C.prog (lone (Frame.enter C.prog f i.args .normal) [] (w.forCall tape i)) :=
 ⟨World.laidAll C.prog os laid,fun _ _=>0,⟨#[],args,[]⟩,World.laidAll_os _ _ _,hsh,(Input.okWide_of_okWideB (base:=0) hok).1,(Input.okWide_of_okWideB hok).2,hrow,by
  simp only[Assume.holds]
  exact⟨by simp,by simp,fun _=>Modest.zero,by simp,by simp⟩⟩
end
theorem zoj:(Tryz.prog.globals[3]?).map (·.type)=some 318:=by kernel_rfl
theorem znX:Tryz.prog.cellsOf 318=20:=by kernel_rfl
theorem znY:Tryz.prog.cellsOf 191=1:=by kernel_rfl
theorem znt{W : World}{rest : List (String × DataW Unit)}(h : laidMet Tryz.prog (("math/bits.deBruijn32tab", Rows.laid_math_bits_deBruijn32tab) :: ("math/bits.deBruijn64tab", Rows.laid_math_bits_deBruijn64tab) :: ("internal/strconv.uint64pow10", Rows.laid_internal_strconv_uint64pow10) :: rest) W) : Tab W :=
 Lib.tabIs_of_head (rest:=rest) gTab zoj Tryz.underlying318 Tryz.underlying191 znY znX (laidMet.tail (laidMet.tail h))
theorem zmK{W:World}(h:W.ShapedOpen Tryz.prog):MaxL W:=Tryz.laysM144.s1_3 W h
section
open Go.ChangeShapes Go.WideShapes Go.RowKit
end
section
open Go.ChangeShapes Go.WideShapes Go.RowKit
theorem zi0{H:Type}{enc:TypeId × Value->H}{W:World}{fuel:Nat}{v:Value}{x:DataW H × List MemPlace}(h:DataW.trod enc Tryz.prog W 0 (fun _=>true) true fuel 38 [v]=some x) :
  ∃ (a:Option Addr) (n c:Nat),v=.slice a n c∧(n<=1000->∃ l:List Gr,l.length=n∧GS W v l):=by
 rcases Go.Deep.open_slice Tryz.underlying38 h with ⟨h1,-⟩|⟨a,len,cap,m,f,D,Pl,h1,-,hl,-,hm,-,hi⟩
 · obtain rfl:v=.slice none 0 0:=by simpa using h1
   exact⟨none,0,0,rfl,fun _=>⟨[],rfl,GS.nil W⟩⟩
 · obtain rfl:v=.slice (some a) len cap:=by simpa using h1
   refine⟨some a,len,cap,rfl,fun hn=>?_⟩
   have e3:Tryz.prog.cellsOf 103=3:=by kernel_rfl
   have each:∀ i,i<len->∃ g:Gr,W.cell? (a.add (i*3))=some (.string g.1)∧W.cell? ((a.add (i*3)).add 1)=some (.bool g.2.1)∧W.cell? ((a.add (i*3)).add 2)=some (.int .i64 g.2.2):=fun i hlt=>by
    obtain⟨cs,hc,ht⟩:=hi i (by rw[hm];split <;> omega);rw[e3] at hc;obtain⟨_,hcl,hat⟩:=World.cells?_some hc;obtain⟨y0,y1,y2,n',-,-,f0,f1,f2⟩:=Go.Deep.trod_struct3 Tryz.underlying103 ht
    match cs,hcl with
    | [c0,c1,c2],_ =>
      obtain⟨b,e0,-⟩:=DataW.trod_string Tryz.underlying9 f0;obtain⟨g,e1,-⟩:=DataW.trod_bool Tryz.underlying4 f1;obtain⟨l,e2,-⟩:=DataW.trod_int Tryz.underlying3 f2;have k0:c0=.string b:=List.head_eq_of_cons_eq e0;have k1:c1=.bool g:=List.head_eq_of_cons_eq e1;have k2:c2=.int .i64 l:=List.head_eq_of_cons_eq e2;subst k0 k1 k2;exact⟨(b,g,l),by simpa [Addr.add] using hat 0 (by omega),hat 1 (by omega),hat 2 (by omega)⟩
   let G:Nat->Gr:=fun i=>if h:i<len then Classical.choose (each i h) else (⟨#[]⟩,false,0)
   have hG:∀ i,i<len->W.cell? (a.add (i*3))=some (.string (G i).1)∧W.cell? ((a.add (i*3)).add 1)=some (.bool (G i).2.1)∧W.cell? ((a.add (i*3)).add 2)=some (.int .i64 (G i).2.2):=fun i hlt=>by
    have:=Classical.choose_spec (each i hlt);simp only[G,dif_pos hlt];exact this
   refine⟨(List.range len).map G,by simp,some a,cap,by simp,by simp;omega,fun h0=>?_⟩
   have h0':0<len:=by simpa using h0
   have c0:=(hG 0 h0').1
   have hs:a.spot=none:=by
    have:=World.cell?_spot c0;simpa [Addr.add] using this
   obtain⟨b,o,s⟩:=a;simp only at hs
   subst hs;refine⟨b,o,rfl,?_,fun k hk=>?_⟩
   · have:=World.block_lt_of_cell? W _ c0;simpa [Addr.add] using this
   · have hk':k<len:=by simpa using hk
     have:=hG k hk';rw[Addr.add_mid,Addr.add_mid,Addr.add_mid] at this;simpa using this
end
section
open Go.ChangeShapes Go.WideShapes Go.RowKit
theorem znq{H:Type}{enc:TypeId × Value->H}{P:Program}{W:World}{base:Nat}{spare:Nat->Bool}{held:Bool}{fuel:Nat}{t:TypeId}{cs:List Value}{x:DataW H × List MemPlace}{fs:Array Field}(ht:P.underlying t=some (.struct fs))(h:DataW.trod enc P W base spare held fuel t cs=some x) :
  ∃ n,∀ (i:Nat) (f:Field),fs[i]?=some f->∃ y,DataW.trod enc P W base spare held n f.type ((cs.drop f.offset).take (P.cellsOf f.type))=some y:=by
 obtain⟨xs,n,-,-,-,hl,hf⟩:=DataW.trod_struct ht h;refine⟨n,fun i f hi=>?_⟩
 have hlt:i<fs.size:=by
  rcases Nat.lt_or_ge i fs.size with h|h
  · exact h
  · rw[Array.getElem?_eq_none h] at hi;cases hi
 exact⟨xs[i]'(by omega),(hf i f hi).trans (List.getElem?_eq_getElem _)⟩
theorem zfy{H:Type}{enc:TypeId × Value->H}{P:Program}{W:World}{fuel:Nat}{t e:TypeId}{v:Value}{x:DataW H × List MemPlace}(ht:P.underlying t=some (.slice e))(h:DataW.trod enc P W 0 (fun _=>true) true fuel t [v]=some x) :
  ∃ (a:Option Addr) (n c:Nat),v=.slice a n c∧n<=9223372036854775807:=by
 rcases Go.Deep.open_slice ht h with ⟨h1,-⟩|⟨a,len,cap,m,f,D,Pl,h1,-,hl,hm,-⟩
 · exact⟨none,0,0,List.head_eq_of_cons_eq h1,by omega⟩
 · exact⟨some a,len,cap,List.head_eq_of_cons_eq h1,by simp only[maxLen] at hm;omega⟩
theorem zoT{H:Type}{enc:TypeId × Value->H}{W:World}{fuel:Nat}{v:Value}{x:DataW H × List MemPlace}(h:DataW.trod enc Tryz.prog W 0 (fun _=>true) true fuel 38 [v]=some x) :
  ∃ (a:Option Addr) (n c:Nat),v=.slice a n c∧n<=9223372036854775807∧(n<=1000->∃ l:List Gr,l.length=n∧GS W v l):=by
 obtain⟨a,n,c,rfl,hn⟩:=zfy Tryz.underlying38 h;obtain⟨a',n',c',e,hg⟩:=zi0 h;injection e with e1 e2 e3
 subst e1 e2 e3;exact⟨a,n,c,rfl,hn,hg⟩
theorem zsw{H:Type}{enc:TypeId × Value->H}{W:World}{fuel:Nat}{cs:List Value}{x:DataW H × List MemPlace}(hl:cs.length=33)(h:DataW.trod enc Tryz.prog W 0 (fun _=>true) true fuel 40 cs=some x) :
  ∃ (e:En) (a1:Option Addr) (n1 c1:Nat) (a2:Option Addr) (n2 c2:Nat),cs=(e.vals (.slice a1 n1 c1) (.slice a2 n2 c2)).toList∧n1<=9223372036854775807∧n2<=9223372036854775807∧(n2<=1000->∃ l:List Gr,l.length=n2∧GS W (.slice a2 n2 c2) l)∧∃ (fl:Nat) (z:DataW H × List MemPlace),DataW.trod enc Tryz.prog W 0 (fun _=>true) true fl 27 [.slice a1 n1 c1]=some z:=by
 rcases cs with _|⟨x0,_|⟨x1,_|⟨x2,_|⟨x3,_|⟨x4,_|⟨x5,_|⟨x6,_|⟨x7,_|⟨x8,_|⟨x9,_|⟨x10,_|⟨x11,_|⟨x12,_|⟨x13,_|⟨x14,_|⟨x15,_|⟨x16,_|⟨x17,_|⟨x18,_|⟨x19,_|⟨x20,_|⟨x21,_|⟨x22,_|⟨x23,_|⟨x24,_|⟨x25,_|⟨x26,_|⟨x27,_|⟨x28,_|⟨x29,_|⟨x30,_|⟨x31,_|⟨x32,_|⟨x33,l⟩⟩⟩⟩⟩⟩⟩⟩⟩⟩⟩⟩⟩⟩⟩⟩⟩⟩⟩⟩⟩⟩⟩⟩⟩⟩⟩⟩⟩⟩⟩⟩⟩⟩ <;> simp at hl
 obtain⟨n,hf⟩:=znq Tryz.underlying40 h;obtain⟨_,t0⟩:=hf 0 _ rfl;obtain⟨y0,e0,-⟩:=DataW.trod_int Tryz.underlying3 t0;have k0:x0=.int .i64 y0:=List.head_eq_of_cons_eq e0;obtain⟨_,t1⟩:=hf 1 _ rfl;obtain⟨y1,e1,-⟩:=DataW.trod_string Tryz.underlying9 t1;have k1:x1=.string y1:=List.head_eq_of_cons_eq e1;obtain⟨_,hd⟩:=hf 2 _ rfl;obtain⟨m,hg⟩:=znq Tryz.underlying37 hd;obtain⟨_,t2⟩:=hg 0 _ rfl;obtain⟨y2,e2,-⟩:=DataW.trod_int Tryz.underlying3 t2;have k2:x2=.int .i64 y2:=List.head_eq_of_cons_eq e2;obtain⟨_,t3⟩:=hg 1 _ rfl;obtain⟨y3,e3,-⟩:=DataW.trod_int Tryz.underlying3 t3;have k3:x3=.int .i64 y3:=List.head_eq_of_cons_eq e3;obtain⟨_,t4⟩:=hg 2 _ rfl;obtain⟨y4,e4,-⟩:=DataW.trod_int Tryz.underlying3 t4;have k4:x4=.int .i64 y4:=List.head_eq_of_cons_eq e4;obtain⟨_,t5⟩:=hg 3 _ rfl;obtain⟨y5,e5,-⟩:=DataW.trod_int Tryz.underlying3 t5;have k5:x5=.int .i64 y5:=List.head_eq_of_cons_eq e5;obtain⟨_,t6⟩:=hg 4 _ rfl;obtain⟨y6,e6,-⟩:=DataW.trod_int Tryz.underlying3 t6;have k6:x6=.int .i64 y6:=List.head_eq_of_cons_eq e6;obtain⟨_,t7⟩:=hg 5 _ rfl;obtain⟨y7,e7,-⟩:=DataW.trod_int Tryz.underlying3 t7;have k7:x7=.int .i64 y7:=List.head_eq_of_cons_eq e7;obtain⟨_,t8⟩:=hg 6 _ rfl;obtain⟨y8,e8,-⟩:=DataW.trod_int Tryz.underlying3 t8;have k8:x8=.int .i64 y8:=List.head_eq_of_cons_eq e8;obtain⟨_,t9⟩:=hg 7 _ rfl;obtain⟨y9,e9,-⟩:=DataW.trod_int Tryz.underlying3 t9;have k9:x9=.int .i64 y9:=List.head_eq_of_cons_eq e9;obtain⟨_,t10⟩:=hg 8 _ rfl;obtain⟨y10,e10,-⟩:=DataW.trod_int Tryz.underlying3 t10;have k10:x10=.int .i64 y10:=List.head_eq_of_cons_eq e10;obtain⟨_,t11⟩:=hg 9 _ rfl;obtain⟨y11,e11,-⟩:=DataW.trod_int Tryz.underlying3 t11;have k11:x11=.int .i64 y11:=List.head_eq_of_cons_eq e11;obtain⟨_,t12⟩:=hg 10 _ rfl;obtain⟨y12,e12,-⟩:=DataW.trod_int Tryz.underlying3 t12;have k12:x12=.int .i64 y12:=List.head_eq_of_cons_eq e12;obtain⟨_,t13⟩:=hg 11 _ rfl;obtain⟨y13,e13,-⟩:=DataW.trod_int Tryz.underlying3 t13;have k13:x13=.int .i64 y13:=List.head_eq_of_cons_eq e13;obtain⟨_,t14⟩:=hg 12 _ rfl;obtain⟨y14,e14,-⟩:=DataW.trod_int Tryz.underlying3 t14;have k14:x14=.int .i64 y14:=List.head_eq_of_cons_eq e14;obtain⟨_,t15⟩:=hg 13 _ rfl;obtain⟨y15,e15,-⟩:=DataW.trod_int Tryz.underlying3 t15;have k15:x15=.int .i64 y15:=List.head_eq_of_cons_eq e15;obtain⟨_,t16⟩:=hg 14 _ rfl;obtain⟨y16,e16,-⟩:=DataW.trod_bool Tryz.underlying4 t16;have k16:x16=.bool y16:=List.head_eq_of_cons_eq e16;obtain⟨_,t17⟩:=hg 15 _ rfl;obtain⟨y17,e17,-⟩:=DataW.trod_int Tryz.underlying3 t17;have k17:x17=.int .i64 y17:=List.head_eq_of_cons_eq e17;obtain⟨_,t18⟩:=hg 16 _ rfl;obtain⟨y18,e18,-⟩:=DataW.trod_string Tryz.underlying9 t18;have k18:x18=.string y18:=List.head_eq_of_cons_eq e18;obtain⟨_,t19⟩:=hg 17 _ rfl;obtain⟨y19,e19,-⟩:=DataW.trod_string Tryz.underlying9 t19;have k19:x19=.string y19:=List.head_eq_of_cons_eq e19;obtain⟨_,t20⟩:=hg 18 _ rfl;obtain⟨y20,e20,-⟩:=DataW.trod_int Tryz.underlying3 t20;have k20:x20=.int .i64 y20:=List.head_eq_of_cons_eq e20;obtain⟨_,t21⟩:=hg 19 _ rfl;obtain⟨y21,e21,-⟩:=DataW.trod_int Tryz.underlying3 t21;have k21:x21=.int .i64 y21:=List.head_eq_of_cons_eq e21;obtain⟨_,t22⟩:=hg 20 _ rfl;obtain⟨y22,e22,-⟩:=DataW.trod_bool Tryz.underlying4 t22;have k22:x22=.bool y22:=List.head_eq_of_cons_eq e22;obtain⟨_,t23⟩:=hf 3 _ rfl;obtain⟨a1,n1,c1,q1,l1⟩:=zfy (v:=x23) Tryz.underlying27 t23;obtain⟨_,t24⟩:=hf 4 _ rfl;obtain⟨y24,e24,-⟩:=DataW.trod_int Tryz.underlying3 t24;have k24:x24=.int .i64 y24:=List.head_eq_of_cons_eq e24;obtain⟨_,t25⟩:=hf 5 _ rfl;obtain⟨y25,e25,-⟩:=DataW.trod_int Tryz.underlying3 t25;have k25:x25=.int .i64 y25:=List.head_eq_of_cons_eq e25;obtain⟨_,t26⟩:=hf 6 _ rfl;obtain⟨y26,e26,-⟩:=DataW.trod_int Tryz.underlying3 t26;have k26:x26=.int .i64 y26:=List.head_eq_of_cons_eq e26;obtain⟨_,t27⟩:=hf 7 _ rfl;obtain⟨y27,e27,-⟩:=DataW.trod_bool Tryz.underlying4 t27;have k27:x27=.bool y27:=List.head_eq_of_cons_eq e27;obtain⟨_,t28⟩:=hf 8 _ rfl;obtain⟨y28,e28,-⟩:=DataW.trod_string Tryz.underlying9 t28;have k28:x28=.string y28:=List.head_eq_of_cons_eq e28;obtain⟨_,t29⟩:=hf 9 _ rfl;obtain⟨y29,e29,-⟩:=DataW.trod_string Tryz.underlying9 t29;have k29:x29=.string y29:=List.head_eq_of_cons_eq e29;obtain⟨_,t30⟩:=hf 10 _ rfl;obtain⟨y30,e30,-⟩:=DataW.trod_int Tryz.underlying3 t30;have k30:x30=.int .i64 y30:=List.head_eq_of_cons_eq e30;obtain⟨_,t31⟩:=hf 11 _ rfl;obtain⟨y31,e31,-⟩:=DataW.trod_int Tryz.underlying3 t31;have k31:x31=.int .i64 y31:=List.head_eq_of_cons_eq e31;obtain⟨_,t32⟩:=hf 12 _ rfl;obtain⟨a2,n2,c2,q2,l2,g2⟩:=zoT (v:=x32) t32;subst q1 q2 k0 k1 k2 k3 k4 k5 k6 k7 k8 k9 k10 k11 k12 k13 k14 k15 k16 k17 k18 k19 k20 k21 k22 k24 k25 k26 k27 k28 k29 k30 k31;exact⟨⟨y0,y1,y2,y3,y4,y5,y6,y7,y8,y9,y10,y11,y12,y13,y14,y15,y16,y17,y18,y19,y20,y21,y22,y24,y25,y26,y27,y28,y29,y30,y31⟩,a1,n1,c1,a2,n2,c2,by unfold En.vals;rfl,l1,l2,g2,_,_,t23⟩
end
section
open Go.ChangeShapes Go.WideShapes Go.RowKit
end
end Go.Proofs.YtefcmdmfgdcpmaaGreatDoor
