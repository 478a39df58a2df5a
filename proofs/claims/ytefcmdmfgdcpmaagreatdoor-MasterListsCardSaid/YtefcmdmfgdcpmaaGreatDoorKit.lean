/- Catalogs. -/
import Derived.WalkSpells
import Derived.WalkLawsBesides
import Derived.Lib.Hide
import Derived.Deep.RegionHeld3
namespace Go.Proofs.YtefcmdmfgdcpmaaGreatDoor
theorem lh{p:Prop}(h:p):Go.RowKit.Hid p:=Lib.hid h
open Go.RowKit
theorem zbo{B:Nat}{a w:World}(h:Below B a w:=by (repeat (first|exact Below.refl _ _|assumption|(refine Below.drew ?_)|(refine Below.alloc ?_ (by first|(simp;done)|(simp;omega)|omega) _)|(refine Below.setCell ?_ (by first|(simp;done)|(simp;omega)|omega) _)))):Below B a w:=h
theorem below_drewN{B:Nat}{a w:World}(h:Below B a w)(n:Nat):Below B a (w.drewN n):=Go.below_drewN h n
theorem zaF{a b:Bool}(h:a=b):Ending.returned (.bool a)=.returned (.bool b):=by rw[h]
theorem zeE{k:IntKind}{a b:Int}(h:a=b):Ending.returned (.int k a)=.returned (.int k b):=by rw[h]
theorem zfD{a b:ByteArray}(h:a=b):Ending.returned (.string a)=.returned (.string b):=by rw[h]
theorem ret3{k l m:IntKind}{a b c d e f:Int}(h:a=d)(h':b=e)(h'':c=f):Ending.returned (.tuple #[.int k a,.int l b,.int m c])=.returned (.tuple #[.int k d,.int l e,.int m f]):=by rw[h,h',h'']
theorem bt{a b c:World}(h:Below a.heap.size a b)(k:Below b.heap.size b c):Below a.heap.size a c:=h.trans (k.mono h.size)
theorem bcell{W w1:World}(hb:Below W.heap.size W w1):(∀ b o,b<W.heap.size->w1.cell? ⟨b,o,none⟩=W.cell? ⟨b,o,none⟩)∧(∀ b o,b<W.heap.size->w1.frozen? ⟨b,o,none⟩=W.frozen? ⟨b,o,none⟩) :=
 ⟨fun b o h=>hb.cell (p:=⟨b,o,none⟩) h,fun b o h=>hb.frozen (p:=⟨b,o,none⟩) h⟩
theorem zac{w w1:World}{a:Addr}{v:Value}(hb:Below w.heap.size w w1)(h:w.cell? a=some v):w1.cell? a=some v:=by
 rw[hb.cell (block_lt_of_cell h)];exact h
theorem zhL{P:Program}(w:World)(g:Nat)(t ty:TypeId)(cs:Array Value)(fr:Nat × Nat)(d:TypeDesc)(hg:w.heap[g]?=some (.cells cs t fr))(hu:P.underlying ty=some d)(hd:(match d with|.struct _|.array _ _=>true|_=>false)=true)(hi:(P.info? ty).map (·.size)=some cs.size) :
  (Instr.loadAt ty (.pointer (some ⟨g,0,none⟩))).run P w=.ok (.agg cs) w:=by
 simp only[Instr.loadAt,Instr.sureAddr,Sem.run_bind,Sem.run_pure,Result.andThen_ok,run_loadVar_row w g t ty cs fr d hg hu hd hi]
def row(w:World)(g:Nat):Array Value:=match w.heap[g]? with|some (.cells cs _ _)=>cs|_=>#[]
theorem zcP{w:World}{g:Nat}{cs:Array Value}{t:TypeId}{fr:Nat × Nat}(h:w.heap[g]?=some (.cells cs t fr)):row w g=cs:=by simp [row,h]
theorem zkK{P:Program}(w:World)(g:Nat)(ty:TypeId)(n:Nat)(d:TypeDesc)(hu:P.underlying ty=some d)(hd:(match d with|.struct _|.array _ _=>true|_=>false)=true)(hi:(P.info? ty).map (·.size)=some (n+1))(hn:(row w g).size=n+1):(Instr.loadAt ty (.pointer (some ⟨g,0,none⟩))).run P w=.ok (.agg (row w g)) w:=by
 unfold row at hn ⊢
 cases h:w.heap[g]? with
 | none=>simp [h] at hn
 | some o =>
   cases o with
   | cells cs t fr=>
     simp only[h] at hn ⊢
     exact zhL w g t ty cs fr d h hu hd (by rw[hi,hn])
   | _=>simp [h] at hn
theorem zaB{w w1:World}{g:Nat}{cs:Array Value}(hb:Below w.heap.size w w1)(h:row w g=cs)(h0:0<cs.size):row w1 g=cs:=by
 have hlt:g<w.heap.size:=by
  rcases Nat.lt_or_ge g w.heap.size with h'|h'
  · exact h'
  · unfold row at h;rw[Array.getElem?_eq_none h'] at h;subst h;simp at h0
 unfold row at *;rw[hb.block g hlt];exact h
def zbA:Value->Bool|.pointer (some ⟨_,0,none⟩)=>true|_=>false
def za0:Value->Nat|.pointer (some a)=>a.block|_=>0
theorem zap(g:Nat):zbA (.pointer (some ⟨g,0,none⟩))=true:=rfl
theorem zal(a:Addr):za0 (.pointer (some a))=a.block:=rfl
theorem zb2{P:Program}(ev:Operand->Value)(w:World)(ty:TypeId)(n:Nat)(d:TypeDesc)(hu:P.underlying ty=some d)(hd:(match d with|.struct _|.array _ _=>true|_=>false)=true)(hi:(P.info? ty).map (·.size)=some (n+1))(dst x t pos af gd)(h1:zbA (ev x)=true)(h2:(row w (za0 (ev x))).size=n+1) :
  (execOp ev ⟨dst,.load ty x,t,pos,af,gd⟩).run P w=.ok (.value (.agg (row w (za0 (ev x))))) w:=by
 obtain⟨g,hg⟩:∃ g,ev x=.pointer (some ⟨g,0,none⟩):=by
  unfold zbA at h1;split at h1
  · rename_i g h;exact⟨g,h⟩
  · cases h1
 rw[hg,zal] at h2;unfold execOp;simp only[hg,zal,Sem.run_bind,zkK w g ty n d hu hd hi h2,Result.andThen_ok,Sem.run_pure]
def over(cs:Array Value):Nat->List Value->Array Value
 | _,[]=>cs
 | o,v::r=>over (cs.setIfInBounds o v) (o+1) r
theorem zd6:∀ (vs:List Value) (cs:Array Value) (o:Nat),(over cs o vs).size=cs.size
 | [],_,_=>rfl
 | v::r,cs,o=>by rw[over,zd6 r];simp
theorem zj4:∀ (vs:List Value) (cs:Array Value) (o i:Nat),i<cs.size->o+vs.length<=cs.size->(over cs o vs)[i]?=if o<=i∧i<o+vs.length then vs[i - o]? else cs[i]?
 | [],cs,o,i,hi,hl=>by simp only[over,List.length_nil];rw[if_neg (by omega)]
 | v::r,cs,o,i,hi,hl=>by
   simp only[List.length_cons] at hl
   rw[over,zj4 r (cs.setIfInBounds o v) (o+1) i (by simpa using hi) (by simp;omega)];simp only[List.length_cons]
   by_cases h:o+1<=i∧i<o+1+r.length
   · rw[if_pos h,if_pos (by omega),show i - o=(i - (o+1))+1 by omega];rfl
   · rw[if_neg h,Array.getElem?_setIfInBounds];by_cases e:o=i
     · subst e;rw[if_pos rfl,if_pos hi,if_pos (by omega)];simp
     · rw[if_neg e,if_neg (by omega)]
theorem ze7(zs cs:Array Value)(h:zs.size=cs.size):over zs 0 cs.toList=cs:=by
 apply Array.ext_getElem?
 intro i;by_cases hi:i<zs.size
 · rw[zj4 _ _ _ _ hi (by simp;omega),if_pos (by simp;omega)];simp
 · rw[Array.getElem?_eq_none (by rw[zd6];omega),Array.getElem?_eq_none (by omega)]
theorem zeh(w:World)(g:Nat)(a b:Array Value):(w.setRow g a).setRow g b=w.setRow g b:=by
 unfold World.setRow;congr 1
 apply Array.ext_getElem?
 intro i;simp only[Array.getElem?_modify]
 split
 · cases w.heap[i]? with
   | none=>rfl
   | some o=>cases o <;> rfl
 · rfl
theorem zeg(b:Nat)(t:TypeId):∀ (vs:List Value) (o:Nat) (w:World) (cs:Array Value),w.heap[b]?=some (.cells cs t (0,0))->vs≠[]->w.setCells b o vs=w.setRow b (over cs o vs)
 | [],_,_,_,_,h=>absurd rfl h
 | [v],o,w,cs,hg,_=>by
   simp only[World.setCells,over]
   exact setCell_eq_setRow w b o cs t (0,0) v hg
 | v::u::r,o,w,cs,hg,_=>by
   rw[World.setCells,setCell_eq_setRow w b o cs t (0,0) v hg,
    zeg b t (u::r) (o+1) _ (cs.setIfInBounds o v) (setRow_heap w b cs _ t (0,0) hg) (by simp),zeh]
   rfl
theorem zkW(w:World)(zs cs:Array Value)(t:TypeId):(w.alloc (.cells zs t)).setRow w.heap.size cs=w.alloc (.cells cs t):=by
 unfold World.setRow World.alloc;congr 1
 apply Array.ext_getElem?
 intro i;simp only[Array.getElem?_modify,Array.getElem?_push]
 split
 · rename_i e;subst e;simp
 · rename_i e;rw[if_neg (fun h=>e h.symm),if_neg (fun h=>e h.symm)]
theorem zic(w:World)(zs cs:Array Value)(t:TypeId)(h:zs.size=cs.size)(h0:0<cs.size):(w.alloc (.cells zs t)).setCells w.heap.size 0 cs.toList=w.alloc (.cells cs t):=by
 rw[zeg w.heap.size t cs.toList 0 _ zs (heap_alloc_new w _) (by intro e;rw[<-Array.length_toList,e] at h0;simp at h0),ze7 zs cs h,zkW]
def zaK:Value->Array Value|.agg cs=>cs|_=>#[]
def zbC:Value->Bool|.agg _=>true|_=>false
theorem zae(cs:Array Value):zaK (.agg cs)=cs:=rfl
theorem zaq(cs:Array Value):zbC (.agg cs)=true:=rfl
def one(v:Value):Bool:=v.oneCell'
def zaM:List Value->Bool
 | []=>true
 | v::r=>one v&&zaM r
theorem zaj:zaM []=true:=rfl
theorem zaf(v:Value)(r:List Value):zaM (v::r)=(one v&&zaM r):=rfl
theorem zaA(k:IntKind)(n:Int):one (.int k n)=true:=rfl
theorem zax(b:Bool):one (.bool b)=true:=rfl
theorem zak(s:ByteArray):one (.string s)=true:=rfl
theorem zag(a:Option Addr):one (.pointer a)=true:=rfl
theorem zar(a:Option Addr)(n c:Nat):one (.slice a n c)=true:=rfl
theorem zaG(f:Fn)(a b:Array Value):one (.func f a b)=true:=rfl
theorem zcH(l:List Value)(h:zaM l=true):l.all (·.oneCell')=true:=by
 induction l with
 | nil=>rfl
 | cons v r ih =>
   rw[zaf,Bool.and_eq_true] at h;rw[List.all_cons,ih h.2];simpa [one] using h.1
theorem zcb{P:Program}(ev:Operand->Value)(w:World)(ty:TypeId)(n:Nat)(hi:(P.info? ty).map (·.size)=some (n+1))(zs:Array Value)(t:TypeId)(dst x y t' pos af gd)(h0:zs.size=n+1)(h1:zbA (ev x)=true)(h2:za0 (ev x)=w.heap.size)(h3:zbC (ev y)=true)(h4:(zaK (ev y)).size=n+1)(h5:zaM (zaK (ev y)).toList=true) :
  (execOp ev ⟨dst,.store ty x y,t',pos,af,gd⟩).run P (w.alloc (.cells zs t))=.ok .skip (w.alloc (.cells (zaK (ev y)) t)):=by
 obtain⟨cs,hc⟩:∃ cs,ev y=.agg cs:=by
  unfold zbC at h3;split at h3
  · rename_i g h;exact⟨g,h⟩
  · cases h3
 obtain⟨g,hg⟩:∃ g,ev x=.pointer (some ⟨g,0,none⟩):=by
  unfold zbA at h1;split at h1
  · rename_i g h;exact⟨g,h⟩
  · cases h1
 rw[hc,zae] at h4 h5;have h5:cs.all (·.oneCell')=true:=by rw[<-Array.all_toList];exact zcH _ h5
 rw[hg,zal] at h2;simp only at h2
 subst h2
 have hs:=run_storeVar_mid (P:=P) (w.alloc (.cells zs t)) w.heap.size 0 ty cs (fun j hj=>by
  have:j<zs.size:=by omega
  simp [this]) (by rw[hi,h4]) h5
 rw[zic w zs cs t (by omega) (by omega)] at hs;unfold execOp;simp only[hg,hc,zae,Instr.storeAt,Instr.sureAddr,Sem.run_bind,Sem.run_pure,Result.andThen_ok,hs]
theorem zai(w:World)(cs:Array Value)(t:TypeId)(fr:Nat × Nat):row (w.alloc (.cells cs t fr)) w.heap.size=cs:=zcP (heap_alloc_new w _)
theorem zaw(w:World)(cs:Array Value)(t:TypeId)(fr:Nat × Nat)(o:Obj):row ((w.alloc (.cells cs t fr)).alloc o) w.heap.size=cs:=zcP (heap_alloc2_old w _ _)
theorem zao(w:World)(cs:Array Value)(t:TypeId)(fr:Nat × Nat)(o:Obj):row ((w.alloc o).alloc (.cells cs t fr)) (w.heap.size+1)=cs:=zcP (heap_alloc2_new w _ _)
theorem zas(w:World)(g:Nat):row w.drew g=row w g:=rfl
theorem zan(w:World)(n g:Nat):row (w.drewN n) g=row w g:=rfl
theorem zah{w:World}{g:Nat}{cs:Array Value}(h:row w g=cs)(i:Nat)(v:Value)(hv:cs[i]?=some v):w.cell? ⟨g,i,none⟩=some v:=by
 unfold row at h
 cases e:w.heap[g]? with
 | none=>rw[e] at h;subst h;simp at hv
 | some o =>
   cases o with
   | cells c t fr=>rw[e] at h;simp only at h;subst h;rw[cell_of_row w g i c t fr e];exact hv
   | _=>rw[e] at h;simp only at h;subst h;simp at hv
def Strs(w:World)(b:Nat)(ps:List ByteArray):Prop:=∀ k (h:k<ps.length),w.cell? ⟨b,k,none⟩=some (.string ps[k])
theorem Strs.below{w w':World}{b:Nat}{ps:List ByteArray}(h:Strs w b ps)(hb:Below w.heap.size w w'):Strs w' b ps:=fun k hk=>zac hb (h k hk)
theorem Strs.new(w:World)(ps:List ByteArray)(t:TypeId):Strs (w.alloc (.cells (ps.map Value.string).toArray t)) w.heap.size ps:=fun k hk=>by
 rw[cell_of_row _ w.heap.size k _ t (0,0) (heap_alloc_new w _)];simp [List.getElem?_eq_getElem hk]
theorem zcG(b:Nat)(t:TypeId)(fr:Nat × Nat):∀ (vs:List Value) (o:Nat) (w:World) (cs:Array Value),w.heap[b]?=some (.cells cs t fr)->vs≠[]->w.setCells b o vs=w.setRow b (over cs o vs)
 | [],_,_,_,_,h=>absurd rfl h
 | [v],o,w,cs,hg,_=>by
   simp only[World.setCells,over]
   exact setCell_eq_setRow w b o cs t fr v hg
 | v::u::r,o,w,cs,hg,_=>by
   rw[World.setCells,setCell_eq_setRow w b o cs t fr v hg,
    zcG b t fr (u::r) (o+1) _ (cs.setIfInBounds o v) (setRow_heap w b cs _ t fr hg) (by simp),zeh]
   rfl
def Held(w:World)(g n:Nat):Prop:=(row w g).size=n∧0<n∧∀ o,w.frozen? ⟨g,o,none⟩=false
theorem Held.drew{w:World}{g n:Nat}(h:Held w g n):Held w.drew g n:=h
theorem zav(w:World)(g n:Nat):Held w.drew g n=Held w g n:=rfl
theorem zbm{w:World}{g n:Nat}(h:Held w g n):∃ t fr,w.heap[g]?=some (.cells (row w g) t fr):=by
 have h1:=h.1;unfold row at h1 ⊢
 cases hb:w.heap[g]? with
 | none=>rw[hb] at h1;simp at h1;have:=h.2.1;omega
 | some o =>
   cases o with
   | cells c t fr=>exact⟨t,fr,rfl⟩
   | _=>rw[hb] at h1;simp at h1;have:=h.2.1;omega
theorem zbN{P:Program}(ev:Operand->Value)(w:World)(ty:TypeId)(n:Nat)(hi:(P.info? ty).map (·.size)=some (n+1))(dst x y t' pos af gd)(h1:zbA (ev x)=true)(h2:Held w (za0 (ev x)) (n+1))(h3:zbC (ev y)=true)(h4:(zaK (ev y)).size=n+1)(h5:zaM (zaK (ev y)).toList=true) :
  (execOp ev ⟨dst,.store ty x y,t',pos,af,gd⟩).run P w=.ok .skip (w.setRow (za0 (ev x)) (zaK (ev y))):=by
 obtain⟨cs,hc⟩:∃ cs,ev y=.agg cs:=by
  unfold zbC at h3;split at h3
  · rename_i g h;exact⟨g,h⟩
  · cases h3
 obtain⟨g,hg⟩:∃ g,ev x=.pointer (some ⟨g,0,none⟩):=by
  unfold zbA at h1;split at h1
  · rename_i g h;exact⟨g,h⟩
  · cases h1
 rw[hc,zae] at h4 h5;have h5:cs.all (·.oneCell')=true:=by rw[<-Array.all_toList];exact zcH _ h5
 rw[hg,zal] at h2 ⊢;simp only at h2 ⊢
 obtain⟨t,fr,hb⟩:=zbm h2
 have hs:=run_storeVar_mid (P:=P) w g 0 ty cs (fun j hj=>by
  have hlt:j<(row w g).size:=by rw[h2.1];omega
  have hx:(row w g)[j]?=some (row w g)[j]:=Array.getElem?_eq_getElem hlt;rw[Nat.zero_add];exact⟨by rw[cell_of_row w g j _ t fr hb,hx];rfl,h2.2.2 j⟩) (by rw[hi,h4]) h5
 rw[zcG g t fr cs.toList 0 w (row w g) hb (by intro e;have:=congrArg List.length e;simp at this;rw[this] at h4;simp at h4),ze7 (row w g) cs (by rw[h2.1,h4])] at hs;unfold execOp;simp only[hg,hc,zae,Instr.storeAt,Instr.sureAddr,Sem.run_bind,Sem.run_pure,Result.andThen_ok,hs]
theorem zaQ{w:World}{g n:Nat}(h:Held w g n)(cs:Array Value):row (w.setRow g cs) g=cs:=by
 obtain⟨t,fr,hb⟩:=zbm h;exact zcP (setRow_heap w g _ cs t fr hb)
theorem zaX(w:World)(g k:Nat)(cs:Array Value)(h:k≠g):(w.setRow g cs).heap[k]?=w.heap[k]?:=setRow_other w g k cs h
theorem zb8{P:Program}(w:World)(g n:Nat)(ty:TypeId)(d:TypeDesc)(hu:P.underlying ty=some d)(hd:(match d with|.struct _|.array _ _=>true|_=>false)=true)(hi:(P.info? ty).map (·.size)=some (n+1))(hz:(row w g).size=n+1) :
  (loadVar ty ⟨g,0,none⟩).run P w=.ok (.agg (row w g)) w:=by
 unfold row at hz ⊢
 cases h:w.heap[g]? with
 | none=>simp [h] at hz
 | some o =>
   cases o with
   | cells cs t fr =>
     simp only[h] at hz ⊢
     exact run_loadVar_row w g t ty cs fr d h hu hd (by rw[hi,hz])
   | _=>simp [h] at hz
theorem zaL{P:Program}{fn:Func}{p u:Tmp}{ty:TypeId}{d:TypeDesc}{n:Nat}(h:fn.results=#[.cell p ty,.tmp u])(hu:P.underlying ty=some d)(hd:(match d with|.struct _|.array _ _=>true|_=>false)=true)(hi:(P.info? ty).map (·.size)=some (n+1))(tmps:Array Value)(w:World)(g:Nat)(hp:tmps.getD p undef=.pointer (some ⟨g,0,none⟩))(hz:(row w g).size=n+1) :
  (results fn tmps).run P w=.ok (.tuple #[.agg (row w g),tmps.getD u undef]) w:=by
 rw[results_cell_tmp h,hp];simp only[asAddr,Sem.run_pure,Result.andThen_ok,zb8 w g n ty d hu hd hi hz]
end Go.Proofs.YtefcmdmfgdcpmaaGreatDoor
