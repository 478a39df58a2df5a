/- Several texts in one: FrameB FrameDs FrameGe FrameEn. -/
import Derived.Test.YtlmgolkgodfmpaaGreatDoorCards
import Derived.Test.YtlmgolkgodfmpaaGreatDoorTie
import Derived.ProofKit
import Derived.OpenShut
import Derived.Deep.DeepHandedRow
import Derived.Lib.LaidTab
import Derived.Stop.LaidErr
import Derived.Carry
import Derived.Lay
import Derived.Test.YtlmgolkgodfmpaaGreatDoorDsA
import Derived.Test.YtlmgolkgodfmpaaGreatDoorCalE
import Derived.Test.YtlmgolkgodfmpaaGreatDoorSaC
import Derived.Lib.SmallJoins
import Derived.ChangeSlices
import Derived.Test.YtlmgolkgodfmpaaGreatDoorEn
import Derived.Deep.Slices
import Derived.Deep.Strs
section
/- What every law's frame needs, over whatever list of laid variables: arguments read the same below; the witness by the function that lays. -/
namespace Go.Proofs.YtlmgolkgodfmpaaGreatDoor
open Go.ChangeShapes Go.WideShapes Go.ChangeAt Go.RowKit
theorem ownk:ownKnob Tryz.prog.godebug=none:=by kernel_rfl
theorem laidOut:laidOutB Tryz.prog=true:=by kernel_rfl
theorem trodAll_below {H:Type} {enc:TypeId × Value→H} {W W':World} (hb:Below W.heap.size W W') (sp:Nat→Bool) :
  ∀ (ts:List TypeId) (vs:List Value) (ds:List (DataW H)) (ps:List MemPlace),(∀ t∈ts,Tryz.prog.readableRec t=true∧t<Tryz.prog.types.size)→DataW.TrodAll enc Tryz.prog W 0 (fun _=>true) true ts vs ds ps →
   (∀ p∈ps,p.block<W.heap.size)→(∀ p∈ps,sp p.block=true)→DataW.TrodAll enc Tryz.prog W' 0 sp true ts vs ds ps
 | [],vs,ds,ps,_,h,_,_=>by
   obtain⟨rfl,rfl,rfl⟩:=trodAll_nil h
   exact trodAll_mk0
 | t::ts,vs,ds,ps,ht,h,hlt,hsp=>by
   obtain⟨v,vs',d,ds',p,q,rfl,rfl,rfl,h0,h1⟩:=trodAll_cons h
   have k:=ht t (by simp)
   exact trodAll_cons_mk (WideElems.Trod_stays laidOut k.1 k.2 h0 (fun x hx=>hb.same (hlt x (by simp [hx]))) (fun x hx=>hsp x (by simp [hx])))
    (trodAll_below hb sp ts vs' ds' q (fun u hu=>ht u (by simp [hu])) h1 (fun x hx=>hlt x (by simp [hx])) (fun x hx=>hsp x (by simp [hx])))
theorem args_below {H:Type} {enc:TypeId × Value→H} {W W':World} (hb:Below W.heap.size W W') {ts:List TypeId} {vs:List Value} {ds:List (DataW H)} {ps:List MemPlace} (ht:(ts.all fun t=>Tryz.prog.readableRec t&&decide (t<Tryz.prog.types.size))=true)
  (h:DataW.TrodAll enc Tryz.prog W 0 (fun _=>true) true ts vs ds ps) (hlt:∀ p∈ps,p.block<W.heap.size):DataW.TrodAll enc Tryz.prog W' 0 (fun b=>decide (b<W.heap.size)) true ts vs ds ps :=
 trodAll_below hb _ ts vs ds ps (fun t hm=>by have:=List.all_eq_true.1 ht t hm;simpa using this) h hlt (fun p hp=>by simpa using hlt p hp)
theorem witness_lay {H:Type} {enc:TypeId × Value→H} {C:Checked} {os:Os} {f:FuncId} {fn:Func} {s:OpenSpec} {conds:List PathCond} {apart:Bool} {laid:List (String × DataW Unit)} (modest:Bool) (args:Array Value)
  (hsh:((World.laidAll C.prog os laid).forCall (fun _ _=>0) ⟨#[],args,[]⟩).Shaped C.prog)
  (hok:Input.okWideB C.prog ((World.laidAll C.prog os laid).forCall (fun _ _=>0) ⟨#[],args,[]⟩) f ⟨#[],args,[]⟩=true)
  (hrow:s.preRow enc C.prog fn conds apart laid ((World.laidAll C.prog os laid).forCall (fun _ _=>0) ⟨#[],args,[]⟩).memory args) :
  ∃ (w:World) (tape:Tape) (i:Input),w.os=os∧(w.forCall tape i).Shaped C.prog∧i.vars=[]∧Input.okWide C.prog (w.forCall tape i) .any w.heap.size f i ∧
   s.preRow enc C.prog fn conds apart laid (w.forCall tape i).memory i.args∧({ modest:=modest }:Assume).holds C.prog (lone (Frame.enter C.prog f i.args .normal) [] (w.forCall tape i)) :=
 ⟨World.laidAll C.prog os laid,fun _ _=>0,⟨#[],args,[]⟩,World.laidAll_os _ _ _,hsh,(Input.okWide_of_okWideB (base:=0) hok).1,(Input.okWide_of_okWideB hok).2,hrow,by
  simp only[Assume.holds]
  exact⟨by simp,by simp,fun _=>Modest.zero,by simp,by simp⟩⟩
end Go.Proofs.YtlmgolkgodfmpaaGreatDoor
end
section
/- What the laws of this seat read of the listed variables. -/
namespace Go.Proofs.YtlmgolkgodfmpaaGreatDoor
theorem gTabType:(Tryz.prog.globals[1]?).map (·.type)=some 273:=by kernel_rfl
theorem cellsTab:Tryz.prog.cellsOf 273=20:=by kernel_rfl
theorem cellsU64:Tryz.prog.cellsOf 206=1:=by kernel_rfl
theorem tab_of {W : World} {rest : List (String × DataW Unit)} (h : laidMet Tryz.prog (("math/bits.deBruijn32tab", Rows.laid_math_bits_deBruijn32tab) :: ("math/bits.deBruijn64tab", Rows.laid_math_bits_deBruijn64tab) :: ("internal/strconv.uint64pow10", Rows.laid_internal_strconv_uint64pow10) :: rest) W) : Tab W :=
 Lib.tabIs_of_head (rest:=rest) gTab gTabType Tryz.underlying273 Tryz.underlying206 cellsU64 cellsTab (laidMet.tail (laidMet.tail h))
theorem max_of {W:World} (h:W.ShapedOpen Tryz.prog):MaxL W:=Tryz.laysM144.s1_3 W h
end Go.Proofs.YtlmgolkgodfmpaaGreatDoor
end
section
/- Slices of numbers among the arguments: opened. -/
namespace Go.Proofs.YtlmgolkgodfmpaaGreatDoor
open Go.ChangeShapes Go.WideShapes Go.RowKit
set_option maxRecDepth 100000
end Go.Proofs.YtlmgolkgodfmpaaGreatDoor
end
section
/- Catalog entries among the arguments: opened to a structure and two lists. -/
namespace Go.Proofs.YtlmgolkgodfmpaaGreatDoor
open Go.ChangeShapes Go.WideShapes Go.RowKit
set_option maxRecDepth 100000
end Go.Proofs.YtlmgolkgodfmpaaGreatDoor
end
