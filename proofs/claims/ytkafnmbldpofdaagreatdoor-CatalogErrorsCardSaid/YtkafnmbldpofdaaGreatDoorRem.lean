/- Catalogs. -/
import Derived.Test.YtkafnmbldpofdaaGreatDoorReb
set_option maxRecDepth 8000
set_option maxHeartbeats 16000000
namespace Go.Proofs.YtkafnmbldpofdaaGreatDoor
open Go.RowKit
section
attribute [local go_sem] Oper.semAt_some
def zcd(k:ByteArray):ByteArray:=⟨(Ek.trim ((Ds.bl k).drop 1)).toArray⟩
def zjC(group:ByteArray)(s:List Int)(k _r:ByteArray):Except Int (List Int) :=
 if (Ds.gen (Ds.bl (zcd k))=true∧zgQ (zcd k)=group)∧k=zbl 0 (zcd k) then .ok (s++[((Ds.splN (Ds.bl (zcd k)):Nat):Int)]) else .ok s
def zfM(l:List Rw)(fl cd ca id:Int)(group:ByteArray):(List Int × Int) × Int :=
 match zb4 l id fl cd 68 (zjC group) (l.length+1) ca [(68:UInt8) - 1,255] [] with
 | (.ok (s,code),c)=>(if code≠0 then ([],code) else (s,0),c)
 | (.error e,c)=>(([],e),c)
theorem zmG(group:ByteArray)(s:List Int)(k r:ByteArray)(s':List Int)(h:zjC group s k r=.ok s'):s'.length<=s.length+1:=by
 unfold zjC at h
 split at h
 · cases h;simp
 · cases h;omega
theorem zgR(k:ByteArray)(w:World)(h1:1<=k.size)(hs:k.size<=1000) :
  Calls Tryz.prog 88 #[.string k] w fun r w'=>r=.returned (.string (zcd k))∧w'=w:=by
 have hb:Ds.bl (k.extract 1 k.size)=(Ds.bl k).drop 1:=by
  unfold Ds.bl
  rw[ByteArray.data_extract,Array.toList_extract]
  simp [List.extract]
  exact List.take_of_length_le (by rw[List.length_tail,Array.length_toList];exact Nat.le_refl _)
 have htr:=zfW (k.extract 1 k.size) w (by rw[<-Ds.bl_length,hb,List.length_drop,Ds.bl_length];omega)
 rw[hb] at htr
 have HT:=lh htr
 have g1:(0:Int)<=1∧(1:Int)<=(k.size:Int):=by omega
 have g2:(1:Int)<=(k.size:Int):=by omega
 clear hb htr
 go_enter Tryz.func88,Tryz.ntmps88
 go_wp2_with (go_at_call 98;(refine HT.out.mono ?_);rintro _ w2 ⟨t,rfl,ht,rfl⟩;have HT2:=lh ht;clear ht)
 go_ret
 exact⟨congrArg (fun t=>Ending.returned (Value.string t)) (Ds.bl_inj (HT2.out.trans (Ds.bl_mk _).symm)),rfl⟩
structure GnC (w0 w W:World) (h p:Nat) (sv:Value) (l:List Rw) (fl cd c id:Int) (name:ByteArray) (r:Rf) (st:LoopState) (pd:Option Code):Prop where
 sh:SHs w0 W p sv l fl cd c
 g:w.grownBy W (some p)
 ri:RI W (h+5) (h+3) (h+4) (h+6) (h+2) p 68 id
 n:W.cell? ⟨h,0,none⟩=some (.string name)
 b3:Bx W (h+1)
 up:Rup r st pd W
 z:h+9<=W.heap.size
theorem GnC.core{w0 w W W':World}{h p q:Nat}{sv:Value}{l:List Rw}{fl cd c c' id:Int}{name:ByteArray}{r:Rf}{st st':LoopState}{pd pd':Option Code}(hA:GnC w0 w W h p sv l fl cd c id name r st pd)(hk:∀ k,k<h+9->k≠q->W'.heap[k]?=W.heap[k]?)(hz:W.heap.size<=W'.heap.size)(hq:q≠h∧∀ i,2<=i->i<=6->q≠h+i)(hs:SHs w0 W' p sv l fl cd c')(hg:w.grownBy W' (some p))(hup:Rup r st' pd' W')(hb:Bx W' (h+1)) :
  GnC w0 w W' h p sv l fl cd c' id name r st' pd':=by
 have e:∀ i,2<=i->i<=6->W'.heap[h+i]?=W.heap[h+i]?:=fun i h1 h2=>hk _ (by omega) (fun e=>hq.2 i h1 h2 e.symm)
 obtain⟨r1,r2,r3,r4,r5,r6⟩:=hA.ri
 have q:=fun i (h1:2<=i) (h2:i<=6)=>World.cell?_of_block (w:=W) (w':=W') (a:=⟨h+i,0,none⟩) (e i h1 h2)
 exact⟨hs,hg,⟨(q 5 (by omega) (by omega)).trans r1,(q 3 (by omega) (by omega)).trans r2,(q 4 (by omega) (by omega)).trans r3,(q 6 (by omega) (by omega)).trans r4,(q 2 (by omega) (by omega)).trans r5,(World.frozen?_of_block (a:=⟨h+2,0,none⟩) (e 2 (by omega) (by omega))).trans r6⟩,
  (World.cell?_of_block (a:=⟨h,0,none⟩) (hk h (by omega) (fun e=>hq.1 e.symm))).trans hA.n,hb,hup,Nat.le_trans hA.z hz⟩
theorem GnC.tick{w0 w W W':World}{h p:Nat}{sv:Value}{l:List Rw}{fl cd c c' id:Int}{name:ByteArray}{r:Rf}{st:LoopState}{pd:Option Code}(hA:GnC w0 w W h p sv l fl cd c id name r st pd)(hp:p<h)(hD:r.D=h+7)(hg:W.grownBy W' (some p))(hs:SHs w0 W' p sv l fl cd c') :
  GnC w0 w W' h p sv l fl cd c' id name r st pd:=by
 have hz:=hA.z
 have e:∀ k,k<h+9->k≠p->W'.heap[k]?=W.heap[k]?:=fun k hk hn=>hg.block k (by omega) (fun e=>hn (Option.some.inj e))
 refine hA.core (q:=p) e hg.size ⟨by omega,fun i _ _=>by omega⟩ hs (zaI hA.g hg) ⟨?_,?_⟩ (hA.b3.of (e _ (by omega) (by omega)))
 · rw[e _ (by omega) (by omega)];exact hA.up.lp
 · rw[e _ (by omega) (by omega)];exact hA.up.dfr
theorem GnC.bel{w0 w W W':World}{h p:Nat}{sv:Value}{l:List Rw}{fl cd c id:Int}{name:ByteArray}{r:Rf}{st:LoopState}{pd:Option Code}(hA:GnC w0 w W h p sv l fl cd c id name r st pd)(hp:p<h)(hh:w.heap.size=h)(hD:r.D=h+7)(hso:∀ b,sv.ownBlock=some b->b<h)(hb:Below (h+9) W W') :
  GnC w0 w W' h p sv l fl cd c id name r st pd:=by
 have e:=fun k hk=>hb.block k hk
 refine hA.core (q:=h+9) (fun k hk _=>e k hk) hb.size ⟨by omega,fun i _ _=>by omega⟩ (hA.sh.belowB hb (by omega) (fun _ b hq=>by have:=hso b hq;omega)) (zaG hA.g (hb.mono (by omega))) ⟨?_,?_⟩ (hA.b3.of (e _ (by omega)))
 · rw[e _ (by omega)];exact hA.up.lp
 · rw[e _ (by omega)];exact hA.up.dfr
theorem GnC.turn{w0 w W W':World}{h p q:Nat}{sv:Value}{l:List Rw}{fl cd c id:Int}{name:ByteArray}{r:Rf}{st st':LoopState}{pd pd':Option Code}(hA:GnC w0 w W h p sv l fl cd c id name r st pd)(hp:p<h)(h0:w0.heap.size<=h)(hh:w.heap.size=h)(hso:∀ b,sv.ownBlock=some b->b<h)(hg:W.grownBy W' (some q))(hq:h<=q)(hq2:q≠h∧∀ i,2<=i->i<=6->q≠h+i)(hup:Rup r st' pd' W')(hb:Bx W' (h+1)) :
  GnC w0 w W' h p sv l fl cd c id name r st' pd':=by
 have hz:=hA.z
 exact hA.core (q:=q) (fun k hk hn=>hg.block k (by omega) (fun e=>hn (Option.some.inj e))) hg.size hq2 (hA.sh.other hg (by omega) (by omega) (fun b hb=>by have:=hso b hb;omega)) (zaG hA.g (zbk hg (by omega) (by omega))) hup hb
theorem GnC.put{w0 w W:World}{h p:Nat}{sv:Value}{l:List Rw}{fl cd c id:Int}{name:ByteArray}{r:Rf}{st st':LoopState}{pd pd':Option Code}(hA:GnC w0 w W h p sv l fl cd c id name r st pd)(hp:p<h)(h0:w0.heap.size<=h)(hh:w.heap.size=h)(hD:r.D=h+7)(hso:∀ b,sv.ownBlock=some b->b<h) :
  GnC w0 w (W.putObj (r.D+1) (r.loop st' pd')) h p sv l fl cd c id name r st' pd':=by
 have hz:=hA.z
 have hg:=grownBy_putObj' W (r.D+1) (r.loop st' pd')
 have e:∀ k,k<h+8->(W.putObj (r.D+1) (r.loop st' pd')).heap[k]?=W.heap[k]?:=fun k hk=>hg.block k (by omega) (fun e=>by have:=Option.some.inj e;omega)
 exact hA.turn hp h0 hh hso hg (by omega) ⟨by omega,fun i _ _=>by omega⟩ hA.up.put (hA.b3.of (e _ (by omega)))
theorem GnC.set{w0 w W:World}{h p i:Nat}{sv v:Value}{l:List Rw}{fl cd c id:Int}{name:ByteArray}{r:Rf}{st:LoopState}{pd:Option Code}(hA:GnC w0 w W h p sv l fl cd c id name r st pd)(hp:p<h)(h0:w0.heap.size<=h)(hh:w.heap.size=h)(hD:r.D=h+7)(hso:∀ b,sv.ownBlock=some b->b<h)(hi:i=1) :
  GnC w0 w (W.setCell ⟨h+i,0,none⟩ v) h p sv l fl cd c id name r st pd:=by
 have hz:=hA.z
 have hg:=zaH W ⟨h+i,0,none⟩ v
 have e:∀ k,k<W.heap.size->k≠h+i->(W.setCell ⟨h+i,0,none⟩ v).heap[k]?=W.heap[k]?:=fun k hk hn=>hg.block k hk (fun e=>hn (Option.some.inj e))
 refine hA.turn hp h0 hh hso hg (by show h<=h+i;omega) ⟨by show h+i≠h;omega,fun j _ _=>by show h+i≠h+j;omega⟩ ⟨?_,?_⟩ hA.b3.set
 · rw[e _ (by omega) (by omega)];exact hA.up.lp
 · rw[e _ (by omega) (by omega)];exact hA.up.dfr
end
section
attribute [local go_sem] Oper.semAt_some
theorem zr9{w0 w W W':World}{h p:Nat}{sv:Value}{l:List Rw}{fl cd c:Int}(hs:SHs w0 W p sv l fl cd c)(hg:w.grownBy W (some p))(hp:p<h)(hh:w.heap.size=h)(hso:∀ b,sv.ownBlock=some b->b<h)(e:∀ k,(k<h∨h+9<=k)->W'.heap[k]?=W.heap[k]?)(hz:W.heap.size<=W'.heap.size)(ho:W'.os=W.os)(ht:W'.tape=W.tape)(hu:W'.output=W.output):SHs w0 W' p sv l fl cd c∧w.grownBy W' (some p):=by
 have hb:Below h W W':=⟨ho,ht,hu,hz,fun k hk=>e k (.inl hk)⟩
 exact⟨hs.belowB hb hp (fun _ b hq=>hso b hq),zaG hg (by rw[hh];exact hb)⟩
theorem zmO{a b c:World}{p:Option Nat}(h:a.grownBy b p)(k:Below b.heap.size b c):a.grownBy c p:=zaG h (k.mono h.size)
def GnJ(w0 w:World)(h p:Nat)(sv:Value)(l:List Rw)(fl cd id:Int)(name:ByteArray)(r:Rf)(st:LoopState)(c:Int)(s:List Int)(W:World):Prop :=
 GnC w0 w W h p sv l fl cd c id name r st none∧∃ ov,W.cell? ⟨h+1,0,none⟩=some ov∧W.ownsRow (h+9) 3 1 ov s.length (iv s)
theorem GnJ.put{w0 w W:World}{h p:Nat}{sv:Value}{l:List Rw}{fl cd c id:Int}{name:ByteArray}{r:Rf}{st st':LoopState}{s:List Int}(hA:GnJ w0 w h p sv l fl cd id name r st c s W)(hp:p<h)(h0:w0.heap.size<=h)(hh:w.heap.size=h)(hD:r.D=h+7)(hso:∀ b,sv.ownBlock=some b->b<h) :
  GnJ w0 w h p sv l fl cd id name r st' c s (W.putObj (r.D+1) (r.loop st' none)):=by
 obtain⟨h1,ov,h2,h3⟩:=hA
 exact⟨h1.put hp h0 hh hD hso,ov,(putc (by omega)).trans h2,zaF h3 (fun x hx=>World.putObj_heap_other (by have:=(zar h3 x hx).1;omega))⟩
def GnR(w0 w w':World)(p:Nat)(sv:Value)(l:List Rw)(fl cd:Int)(g:(List Int × Int) × Int)(r:Ending):Prop :=
 ∃ a c,r=.returned (.tuple #[.slice a g.1.1.length c,.int .i64 g.1.2])∧SHs w0 w' p sv l fl cd g.2∧w.grownBy w' (some p)
theorem zpR(w:World)(n:Int)(k:Nat)(hk:k=w.heap.size):CS (w.alloc (.cells #[.int .i64 n] 3)) 1 (.slice (some ⟨k,0,none⟩) 1 1) 1 (iv [n]):=by
 subst hk
 exact⟨_,_,rfl,rfl,fun _=>⟨_,rfl,cell_one_new _ _ _⟩⟩
theorem zdD(p:Nat)(sv:Value)(l:List Rw)(fl cd ca id:Int)(name:ByteArray)(w0 w:World)(hm:MaxL w0)(_hT:Tab w0)(hS:SHs w0 w p sv l fl cd ca)(hso:∀ b,sv.ownBlock=some b->b<w.heap.size)(hl:l.length<=1000)(hkz:∀ x∈l,x.2.1.size<=1000)(hc0:0<=ca)(hc1:ca<=90000)(hcd:cd≠0∧cd≠6∨fl<=0) :
  Calls Tryz.prog 63 #[.iface 37 (.pointer (some ⟨p,0,none⟩)),.int .i64 id,.string name] w fun r w'=>GnR w0 w w' p sv l fl cd (zfM l fl cd ca id name) r:=by
 have hpl:=hS.pl
 have hz0:=hS.b.size
 have HS:=lh hS
 clear hS
 obtain⟨g,hg⟩:∃ g,zfM l fl cd ca id name=g:=⟨_,rfl⟩
 rw[hg]
 refine (callsIn_wide (n:=4)).1 ?_
 refine callsIn_of_wp_marks Tryz.func63 rfl trivial ?_ rfl
 simp only[Tryz.ntmps63,List.size_toArray,List.length_cons,List.length_nil,Nat.reduceAdd,Nat.reduceSub,Array.replicate_succ,Array.replicate_zero,List.push_toArray,List.append_toArray,List.nil_append,List.cons_append]
 gi_wp2_with (refine⟨trivial,?_⟩;gi_at_call 86;refine (callsIn_wide.2 (zer p id 68 _ _)).mono ?_;rintro _ _ ⟨rfl,rfl⟩)
 simp only[Nat.add_assoc,Nat.reduceAdd]
 generalize hW0:World.alloc _ _=W0
 have hB0:Below w.heap.size w W0:=by rw[<-hW0];exact za4
 have hsz:W0.heap.size=w.heap.size+7:=by rw[<-hW0];simp
 have k0:W0.cell? ⟨w.heap.size,0,none⟩=some (.string name):=by rw[<-hW0];simp [go_sem]
 have k1:W0.cell? ⟨w.heap.size+1,0,none⟩=some (.slice none 0 0):=by rw[<-hW0];simp [go_sem]
 have k2:W0.cell? ⟨w.heap.size+2,0,none⟩=some (.int .i64 0):=by rw[<-hW0];simp [go_sem]
 have k3:W0.cell? ⟨w.heap.size+3,0,none⟩=some (.iface 37 (.pointer (some ⟨p,0,none⟩))):=by rw[<-hW0];simp [go_sem]
 have k4:W0.cell? ⟨w.heap.size+4,0,none⟩=some (.int .i64 id):=by rw[<-hW0];simp [go_sem]
 have k5:W0.cell? ⟨w.heap.size+5,0,none⟩=some (.int .u8 68):=by rw[<-hW0];simp [go_sem]
 have k6:W0.cell? ⟨w.heap.size+6,0,none⟩=some (.pointer (some ⟨w.heap.size+2,0,none⟩)):=by rw[<-hW0];simp [go_sem]
 have f1:W0.frozen? ⟨w.heap.size+1,0,none⟩=false:=by rw[<-hW0];simp [go_sem]
 have f2:W0.frozen? ⟨w.heap.size+2,0,none⟩=false:=by rw[<-hW0];simp [go_sem]
 clear hW0
 refine zlE rfl (by omega) (gf:=164) rfl trivial (enters_of Tryz.func164 (by kernel_rfl) rfl) ?_
 intro r W _ e1 e2 e3 e4 hD hW hU
 rw[hsz] at hD
 have B1:Below W0.heap.size W0 W:=by rw[hW];exact below2' _ _ _
 have hW2:W.heap.size=w.heap.size+9:=by rw[hW];simp [hsz]
 clear hW
 have q:∀ i,i<=6->W.heap[w.heap.size+i]?=W0.heap[w.heap.size+i]?:=fun i hi=>B1.block _ (by omega)
 have qc:∀ i,i<=6->W.cell? ⟨w.heap.size+i,0,none⟩=W0.cell? ⟨w.heap.size+i,0,none⟩:=fun i hi=>World.cell?_of_block (a:=⟨w.heap.size+i,0,none⟩) (q i hi)
 have qf:∀ i,i<=6->W.frozen? ⟨w.heap.size+i,0,none⟩=W0.frozen? ⟨w.heap.size+i,0,none⟩:=fun i hi=>World.frozen?_of_block (a:=⟨w.heap.size+i,0,none⟩) (q i hi)
 have hA:GnC w0 w W w.heap.size p sv l fl cd ca id name r .ready none:=by
  refine⟨(HS.out.below hB0).below B1,zaw _ (hB0.trans (B1.mono (by omega))),⟨(qc 5 (by omega)).trans k5,(qc 3 (by omega)).trans k3,(qc 4 (by omega)).trans k4,(qc 6 (by omega)).trans k6,(qc 2 (by omega)).trans k2,(qf 2 (by omega)).trans f2⟩,(qc 0 (by omega)).trans k0,⟨⟨_,(qc 1 (by omega)).trans k1⟩,(qf 1 (by omega)).trans f1⟩,hU,by omega⟩
 have hov:=(qc 1 (by omega)).trans k1
 clear B1 q qc qf k0 k1 k2 k3 k4 k5 k6 f1 f2 hU hB0
 generalize hh:w.heap.size=h at *
 simp only[List.append_toArray,List.cons_append,List.nil_append]
 unfold zfM at hg
 generalize hR:zb4 l id fl cd 68 (zjC name) (l.length+1) ca [(68:UInt8) - 1,255] []=R at hg
 have hp0:w0.heap.size<=h:=hz0
 have HJT:∀ (c c':Int) (s:List Int) (W1 W':World),GnJ w0 w h p sv l fl cd id name r .ready c s W1->W1.grownBy W' (some p)->SHs w0 W' p sv l fl cd c'->GnJ w0 w h p sv l fl cd id name r .ready c' s W':=by
  rintro c c' s W1 W' ⟨h1,ov,h2,h3⟩ hg hs
  have z:=h1.z
  exact⟨h1.tick hpl hD hg hs,ov,(World.cell?_of_block (a:=⟨h+1,0,none⟩) (hg.block (h+1) (by omega) (fun e=>by have:=Option.some.inj e;omega))).trans h2,zaF h3 (fun x hx=>hg.block x (zar h3 x hx).2 (fun e=>by have:=Option.some.inj e;have:=(zar h3 x hx).1;omega))⟩
 have HY:∀ (c:Int) (s:List Int) (k rc:ByteArray) (W1:World),GnJ w0 w h p sv l fl cd id name r .ready c s W1->s.length<=([]:List Int).length+l.length->k.size<=1000->1<=k.size->YieldAt Fence.wide 2 Tryz.prog (r.D+1) #[.string k,.string rc] W1 fun e W'=>∃ s',zjC name s k rc=.ok s'∧e=.returned (.bool true)∧GnJ w0 w h p sv l fl cd id name r .ready c s' W':=by
  intro c s k rc W1 hJ1 hlen hk2 hk1
  have hb:=hJ1.put (st':=.busy) hpl hp0 hh hD hso
  refine (zgG (r:=r) (J:=fun W2=>∃ s',zjC name s k rc=.ok s'∧GnJ w0 w h p sv l fl cd id name r .busy c s' W2) (Jx:=fun _ _=>False) trivial hJ1.1.up (by rw[e2];rfl) ?_).mono ?_
  rotate_left
  · rintro e W' (⟨rfl,w1,hu,⟨s',hs',h1⟩,rfl⟩|⟨rfl,cc,w1,hu,h1,rfl⟩)
    · exact⟨s',hs',rfl,h1.put hpl hp0 hh hD hso⟩
    · exact h1.elim
  change GnJ w0 w h p sv l fl cd id name r .busy c s (r.busy W1) at hb
  simp only[e1,e2,e3,e4]
  gi_wp2
  refine⟨hJ1.1.up,?_⟩
  generalize r.busy W1=Wb at hb ⊢
  obtain⟨hAb,ov,co,hOb⟩:=hb
  obtain⟨va,vc,rfl⟩:=zbd hOb
  have hnz:(zcd k).size<=1000:=by
   rw[<-Ds.bl_length]
   unfold zcd
   rw[Ds.bl_mk]
   unfold Ek.trim
   rw[List.length_take,List.length_drop,Ds.bl_length]
   omega
  have hsp:=fun W (b:Below w0.heap.size w0 W)=>zd0 (zcd k) W hnz (hm.below b)
  have hky:=fun W=>zgY 0 (zcd k) W
  have hS:zjC name s k rc=if (Ds.gen (Ds.bl (zcd k))=true∧zgQ (zcd k)=name)∧k=zbl 0 (zcd k) then .ok (s++[((Ds.splN (Ds.bl (zcd k)):Nat):Int)]) else .ok s:=rfl
  have esp:(⟨(Ds.splG (Ds.bl (zcd k))).toArray⟩:ByteArray)=zgQ (zcd k):=rfl
  rw[esp] at hsp
  have hnm:=zgR k
  generalize Ds.gen (Ds.bl (zcd k))=bg at hsp hS
  generalize zgQ (zcd k)=sg at hsp hS
  generalize ((Ds.splN (Ds.bl (zcd k)):Nat):Int)=sn at hsp hS
  generalize zbl 0 (zcd k)=kz at hky hS
  generalize zcd k=nz at hsp hky hnm
  have HNM:=lh (fun W=>hnm W hk1 hk2)
  have HSP:=lh hsp
  have HKY:=lh hky
  have HA:=lh hAb
  have OW:=lh hOb
  have t2:=zeC sg name
  have t3:=zeC k kz
  have hle:s.length<=1000:=by simp only[List.length_nil] at hlen;omega
  clear hnz hsp hky hnm esp hJ1 hAb hOb hlen hk1 hk2
  cases bg
  · rw[if_neg (fun k=>by cases k.1.1)] at hS
    have HSS:=lh hS
    clear hS t2 t3
    gi_wp2_with (first|(refine⟨trivial,?_⟩;gi_at_call 88;refine (CallsIn.inRound _ (callsIn_wide.2 (HNM.out _))).mono ?_;rintro _ _ ⟨rfl,rfl⟩)|(refine⟨trivial,?_⟩;gi_at_call 53;refine (CallsIn.inRound _ (callsIn_wide.2 (HSP.out _ HA.out.sh.b))).mono ?_;rintro _ w3 ⟨rfl,hb⟩;have zz:=HA.out.z;have co:=((hb.mono zz).cell (p:=⟨h+1,0,none⟩) (by show h+1<h+9;omega)).trans co;have OW:=lh (zaF OW.out (fun x hx=>hb.block x (zar OW.out x hx).2));have HA:=lh (HA.out.bel hpl hh hD hso (hb.mono zz));have cn:=HA.out.n;have f3:=HA.out.b3.2;clear hb))
    refine⟨trivial,?_⟩
    gi_wp2
    exact⟨HA.out.up,s,HSS.out,HA.out,_,co,OW.out⟩
  by_cases es:sg=name
  rotate_left
  · rw[if_neg (fun k=>es k.1.2)] at hS
    rw[decide_eq_false es] at t2
    have HSS:=lh hS
    clear hS t3 es
    gi_wp2_with (first|(refine⟨trivial,?_⟩;gi_at_call 88;refine (CallsIn.inRound _ (callsIn_wide.2 (HNM.out _))).mono ?_;rintro _ _ ⟨rfl,rfl⟩)|(refine⟨trivial,?_⟩;gi_at_call 53;refine (CallsIn.inRound _ (callsIn_wide.2 (HSP.out _ HA.out.sh.b))).mono ?_;rintro _ w3 ⟨rfl,hb⟩;have zz:=HA.out.z;have co:=((hb.mono zz).cell (p:=⟨h+1,0,none⟩) (by show h+1<h+9;omega)).trans co;have OW:=lh (zaF OW.out (fun x hx=>hb.block x (zar OW.out x hx).2));have HA:=lh (HA.out.bel hpl hh hD hso (hb.mono zz));have cn:=HA.out.n;have f3:=HA.out.b3.2;clear hb))
    refine⟨trivial,?_⟩
    gi_wp2
    exact⟨HA.out.up,s,HSS.out,HA.out,_,co,OW.out⟩
  rw[decide_eq_true es] at t2
  by_cases ek:k=kz
  rotate_left
  · rw[if_neg (fun k=>ek k.2)] at hS
    rw[decide_eq_false ek] at t3
    have HSS:=lh hS
    clear hS es ek
    gi_wp2_with (first|(refine⟨trivial,?_⟩;gi_at_call 88;refine (CallsIn.inRound _ (callsIn_wide.2 (HNM.out _))).mono ?_;rintro _ _ ⟨rfl,rfl⟩)|(refine⟨trivial,?_⟩;gi_at_call 53;refine (CallsIn.inRound _ (callsIn_wide.2 (HSP.out _ HA.out.sh.b))).mono ?_;rintro _ w3 ⟨rfl,hb⟩;have zz:=HA.out.z;have co:=((hb.mono zz).cell (p:=⟨h+1,0,none⟩) (by show h+1<h+9;omega)).trans co;have OW:=lh (zaF OW.out (fun x hx=>hb.block x (zar OW.out x hx).2));have HA:=lh (HA.out.bel hpl hh hD hso (hb.mono zz));have cn:=HA.out.n;have f3:=HA.out.b3.2;clear hb)|(refine⟨trivial,?_⟩;gi_at_call 58;refine (CallsIn.inRound _ (callsIn_wide.2 (HKY.out _))).mono ?_;rintro _ w4 ⟨rfl,hb⟩;have zz:=HA.out.z;have co:=((hb.mono zz).cell (p:=⟨h+1,0,none⟩) (by show h+1<h+9;omega)).trans co;have OW:=lh (zaF OW.out (fun x hx=>hb.block x (zar OW.out x hx).2));have HA:=lh (HA.out.bel hpl hh hD hso (hb.mono zz));have cn:=HA.out.n;have f3:=HA.out.b3.2;clear hb))
    exact⟨HA.out.up,s,HSS.out,HA.out,_,co,OW.out⟩
  rw[if_pos ⟨⟨rfl,es⟩,ek⟩] at hS
  rw[decide_eq_true ek] at t3
  have HSS:=lh hS
  clear hS es ek
  gi_wp2_with (first|(refine⟨trivial,?_⟩;gi_at_call 88;refine (CallsIn.inRound _ (callsIn_wide.2 (HNM.out _))).mono ?_;rintro _ _ ⟨rfl,rfl⟩)|(refine⟨trivial,?_⟩;gi_at_call 53;refine (CallsIn.inRound _ (callsIn_wide.2 (HSP.out _ HA.out.sh.b))).mono ?_;rintro _ w3 ⟨rfl,hb⟩;have zz:=HA.out.z;have co:=((hb.mono zz).cell (p:=⟨h+1,0,none⟩) (by show h+1<h+9;omega)).trans co;have OW:=lh (zaF OW.out (fun x hx=>hb.block x (zar OW.out x hx).2));have HA:=lh (HA.out.bel hpl hh hD hso (hb.mono zz));have cn:=HA.out.n;have f3:=HA.out.b3.2;clear hb)|(refine⟨trivial,?_⟩;gi_at_call 58;refine (CallsIn.inRound _ (callsIn_wide.2 (HKY.out _))).mono ?_;rintro _ w4 ⟨rfl,hb⟩;have zz:=HA.out.z;have co:=((hb.mono zz).cell (p:=⟨h+1,0,none⟩) (by show h+1<h+9;omega)).trans co;have OW:=lh (zaF OW.out (fun x hx=>hb.block x (zar OW.out x hx).2));have HA:=lh (HA.out.bel hpl hh hD hso (hb.mono zz));have cn:=HA.out.n;have f3:=HA.out.b3.2;clear hb)|(gi_at_builtin;have zA:=HA.out.z;have B45:=zag w4 (.cells #[.int .i64 sn] 3);have ow5:=zaF OW.out (fun x hx=>B45.block x (zar OW.out x hx).2);refine zfk _ rfl (.tmp 40) (.tmp 42) 29 3 _ _ 1 8 rfl Tryz.underlying29 zrY zpS zo3 zqm rfl (by decide) (h+9) (.slice va s.length vc) (.slice (some ⟨w4.heap.size,0,none⟩) 1 1) s.length 1 (iv s) (iv [sn]) rfl ow5 rfl (zpR w4 sn _ rfl) (by decide) (zsD _) (by unfold maxLen;omega) (by omega) (by simp at zA ⊢;omega) ?_;intro a5 c5 w5 hown hg5 hat;have B56:Below (h+9) (w4.alloc (.cells #[.int .i64 sn] 3)) w5:=zbH hg5 (fun q hq=>(zar ow5 q hq).1) (by simp at zA ⊢;omega);have A6:=(HA.out.bel hpl hh hD hso (B45.mono zA)).bel hpl hh hD hso B56;have HA6:=lh A6;have c6:=(B56.cell (p:=⟨h+1,0,none⟩) (by show h+1<h+9;omega)).trans ((B45.cell (p:=⟨h+1,0,none⟩) (by show h+1<_;omega)).trans co);have f6:=A6.b3.2;have OW6:=lh hown;clear A6 hown hg5 hat B45 B56 ow5))
  have A7:=(HA6.out.set (i:=1) (v:=.slice a5 (s.length+1) c5) hpl hp0 hh hD hso rfl)
  refine⟨A7.up,s++[sn],HSS.out,A7,.slice a5 (s.length+1) c5,World.cell?_setCell_same' _ _ _ (by rw[c6];rfl),?_⟩
  have ow6:=zaF OW6.out (fun x hx=>(zaH w5 ⟨h+1,0,none⟩ (.slice a5 (s.length+1) c5)).block x (zar OW6.out x hx).2 (fun e=>by have q1:=Option.some.inj e;have q2:=(zar OW6.out x hx).1;simp at q1;omega))
  rw[List.length_append]
  unfold iv at *
  rw[List.map_append]
  exact ow6
 have HRS:=zig (ρ:=Int) (zjC name) List.length (zmG name) (GnJ w0 w h p sv l fl cd id name r .ready) (fun _ _ _=>False) (r.D+1) p (h+5) (h+3) (h+4) (h+6) (h+2) sv l fl cd ca id 68 w0 W [] 3 2 (fun c s W' hj=>⟨hj.1.ri,hj.1.sh⟩) HJT (fun c s k rc W1 h1 h2 hm1 h3=>(HY c s k rc W1 h1 h2 (by obtain⟨i,hi⟩:=hm1;exact hkz _ hi) h3).mono fun e W' h=>by obtain⟨s',hst,h4⟩:=h;rw[hst];exact h4) (by decide) (by omega) rfl ⟨hA,_,hov,World.ownsRow_nil _ _ _ _⟩ hc0 (by omega) hl hcd
 rw[hR] at HRS
 refine HRS.mono ?_
 clear HRS HJT HY hov hA
 rintro e W2 ⟨⟨v,rfl⟩,hout⟩
 refine⟨⟨v,rfl⟩,?_⟩
 unfold zio at hout
 have hgc:∀ (pd:Option Code) (k:Nat),k≠h+8->(r.gone pd W2).heap[k]?=W2.heap[k]?:=fun pd k h2=>World.putObj_heap_other (by omega)
 obtain⟨R1,cR⟩:=R
 cases R1 with
 | error e=>exact hout.elim
 | ok sc =>
   obtain⟨s,code⟩:=sc
   obtain⟨w1,⟨hA1,ov,ho,hO1⟩,hcode⟩:=hout
   obtain⟨va,vc,rfl⟩:=zbd hO1
   have z1:=hA1.z
   have F:SHs w0 W2 p sv l fl cd cR∧w.grownBy W2 (some p)∧W2.cell? ⟨h+1,0,none⟩=some (.slice va s.length vc)∧W2.cell? ⟨h+2,0,none⟩=some (.int .i64 code)∧Rup r .ready none W2∧h+9<=W2.heap.size:=by
    rcases hcode with ⟨rfl,rfl⟩|rfl
    · exact⟨hA1.sh,hA1.g,ho,hA1.ri.v,hA1.up,hA1.z⟩
    · have hg4:=zaH w1 ⟨h+2,0,none⟩ (.int .i64 code)
      have hb4:∀ k,k<w1.heap.size->k≠h+2->(w1.setCell ⟨h+2,0,none⟩ (.int .i64 code)).heap[k]?=w1.heap[k]?:=fun k h1 h2=>hg4.block k h1 (fun e=>h2 (Option.some.inj e))
      refine⟨hA1.sh.other hg4 (by show p≠h+2;omega) (by show _<=h+2;omega) (fun b hb=>by have:=hso b hb;show b≠h+2;omega),zaG hA1.g (zbk hg4 (by show w.heap.size<=h+2;omega) (by omega)),(World.cell?_of_block (a:=⟨h+1,0,none⟩) (hb4 (h+1) (by omega) (by omega))).trans ho,World.cell?_setCell_same' _ _ _ (by rw[hA1.ri.v];rfl),⟨?_,?_⟩,by simpa using z1⟩
      · rw[hb4 _ (by omega) (by omega)];exact hA1.up.lp
      · rw[hb4 _ (by omega) (by omega)];exact hA1.up.dfr
   clear hcode ho hO1 hA1 z1
   obtain⟨q1,q2,q5,q7,q8,q9⟩:=F
   refine .inl ⟨q8,?_⟩
   have hK:(r.gone none W2).heap[h+7]?=some (.deferred (some [])):=(hgc _ _ (by omega)).trans (hD ▸ q8.dfr)
   have x3:=(World.cell?_of_block (a:=⟨h+1,0,none⟩) (hgc none (h+1) (by omega))).trans q5
   have x4:=(World.cell?_of_block (a:=⟨h+2,0,none⟩) (hgc none (h+2) (by omega))).trans q7
   have hF:=zr9 (W':=(r.gone none W2).putObj (h+7) (.deferred none)) q1 q2 hpl hh hso (fun k hk=>(World.putObj_heap_other (by omega)).trans (hgc none k (by omega))) (by simp [Rf.gone]) rfl rfl rfl
   generalize r.gone none W2=Wg at hK x3 x4 hF ⊢
   clear hgc q1 q2 q5 q7 q8 q9
   have HF1:=lh hF.1
   have HF2:=lh hF.2
   clear hF
   by_cases hc:code=0
   · subst hc
     replace hg:((s,0),cR)=g:=hg
     subst hg
     gi_wp2
     refine⟨by simp,.inl ⟨_,_,rfl,run_takeDeferred hK,?_⟩⟩
     exact⟨_,results_tmp2 rfl _ _ _,va,vc,rfl,HF1.out,HF2.out⟩
   · have t1:(code != 0)=true:=bne_iff_ne.2 hc
     replace hg:(if code≠0 then (([]:List Int),code) else (s,0),cR)=g:=hg
     rw[if_pos hc] at hg
     subst hg
     have hmx:Tryz.prog.follows .mixedOrders=true:=by kernel_rfl
     gi_wp2
     refine wpIn_region_quiet_lit rfl (by kernel_rfl) (by kernel_rfl) ?_
     repeat (gi_big_quiet_step (fail))
     refine wpQuietIn_nil ?_
     rintro _ ⟨nq,rfl⟩
     gi_wp2
     have bd:Below (Wg.putObj (h+7) (.deferred none)).heap.size (Wg.putObj (h+7) (.deferred none)) ((Wg.drewN nq).putObj (h+7) (.deferred none)):=⟨rfl,rfl,rfl,Nat.le_refl _,fun _ _=>rfl⟩
     refine⟨by simp,.inl ⟨_,_,rfl,run_takeDeferred (b:=h+7) hK,?_⟩⟩
     exact⟨_,results_tmp2 rfl _ _ _,none,0,rfl,HF1.out.below bd,zmO HF2.out bd⟩
end
section
def zoz(l:List Rw)(fl cd id kind:Int)(name:ByteArray)(x:Fu)(c:Int):(List Ch × Int) × Int :=
 if kind=0∨kind=1 then
  (if (zeL l fl cd c id name).1.2≠0 then (([],(zeL l fl cd c id name).1.2),(zeL l fl cd c id name).2)
  else (((zeL l fl cd c id name).1.1.map (zcP id)++[zcP id x],0),(zeL l fl cd c id name).2))
 else (([zcP id x],0),c)
def zqJ(l:List Rw)(fl cd ca id kind:Int)(name:ByteArray):(List Ch × Int) × Int :=
 if (zbs l fl cd ca id kind name).1.2≠0 then (([],(zbs l fl cd ca id kind name).1.2),(zbs l fl cd ca id kind name).2)
 else if kind=1 then
  (if (zfM l fl cd (zbs l fl cd ca id kind name).2 id name).1.2≠0 then (([],(zfM l fl cd (zbs l fl cd ca id kind name).2 id name).1.2),(zfM l fl cd (zbs l fl cd ca id kind name).2 id name).2)
  else if (zfM l fl cd (zbs l fl cd ca id kind name).2 id name).1.1≠[] then (([],9),(zfM l fl cd (zbs l fl cd ca id kind name).2 id name).2)
  else zoz l fl cd id kind name (zbs l fl cd ca id kind name).1.1 (zfM l fl cd (zbs l fl cd ca id kind name).2 id name).2)
 else zoz l fl cd id kind name (zbs l fl cd ca id kind name).1.1 (zbs l fl cd ca id kind name).2
theorem zkJ(l:List Rw)(fl cd ca id:Int)(name:ByteArray):ca<=(zfM l fl cd ca id name).2∧(zfM l fl cd ca id name).2<=ca+l.length+1:=by
 have h:=zgu (step:=zjC name) (l:=l) (id:=id) (fl:=fl) (cd:=cd) (L:=68) (l.length+1) ca [(68:UInt8) - 1,255] []
 unfold zfM
 cases hr:zb4 l id fl cd 68 (zjC name) (l.length+1) ca [(68:UInt8) - 1,255] [] with
 | mk a c =>
   rw[hr] at h
   cases a with
   | error e=>dsimp only at h ⊢;omega
   | ok p=>dsimp only at h ⊢;omega
attribute [local go_sem ↓] zaX zdf za0 zaD zbg zka
attribute [local go_sem] zaA zas zan zaM zaO zah zat zai zau zaf zak zaq zab zap zaj zaE zaC zao zam zax zaL zay zaz
theorem zkr(p:Nat)(sv:Value)(l:List Rw)(fl cd ca id kind:Int)(name:ByteArray)(w0 w:World)(hm:MaxL w0)(hT:Tab w0)(hS:SHs w0 w p sv l fl cd ca)(hso:∀ b,sv.ownBlock=some b->b<w.heap.size)(hl:l.length<=1000)(hkz:∀ x∈l,x.2.1.size<=1000)(hc0:0<=ca)(hc1:ca<=80000)(hcd:cd≠0∧cd≠6∨fl<=0) :
  Calls Tryz.prog 17 #[.iface 37 (.pointer (some ⟨p,0,none⟩)),.int .i64 id,.int .i64 kind,.string name] w fun r w'=>ChR w0 w w' p sv l fl cd (zqJ l fl cd ca id kind name) r:=by
 have S:=lh hS
 have G:=lh (World.grownBy.refl w (some p))
 have hz0:=hS.b.size
 have hpl:=hS.pl
 have hcd2:cd≠0∨fl<=0:=hcd.imp (fun h=>h.1) (fun h=>h)
 clear hS
 unfold zqJ
 have hget:=fun W (h:SHs w0 W p sv l fl cd ca)=>zdT p sv l fl cd ca id kind name w0 W hm hT h hc0 (by omega) hcd2
 have hca:=zbU l fl cd ca id kind name
 generalize zbs l fl cd ca id kind name=gg at hget hca ⊢
 obtain⟨⟨y,code⟩,cb⟩:=gg
 dsimp only at hca ⊢
 have HGE:=lh hget
 clear hget
 by_cases h0:code=0
 rotate_left
 · rw[if_pos h0]
   have t1:(code != 0)=true:=by rw[bne_iff_ne];exact h0
   clear h0
   go_enter Tryz.func17,Tryz.ntmps17
   go_wp2_with (first|(go_at_call 14;(refine (HGE.out _ S.out).mono ?_);rintro _ w2 ⟨⟨al,gr,rfl,hI,hGs,hf1,hf2⟩,hs,hg⟩;clear HGE;obtain⟨hone,z2,zS,O1,O2,nb,zw,I0,J0,I,J,R,H,G,S⟩:=zeg S.out G.out hI hGs hf1 hf2 hs hg;clear hI hGs hf1 hf2 hs hg))
   go_ret2
   exact⟨_,rfl,zbi _,S.out,G.out⟩
 rw[if_neg (fun h=>h h0)]
 subst h0
 have her:∀ W (x:Fu) al gr,zaV (x.1.vals al gr).toList=true->Calls Tryz.prog 65 #[.int .i64 id,.agg (x.1.vals al gr)] W fun r w'=>r=.returned (.agg #[.int .i64 1,.int .i64 id,.string (zbl x.1.kind x.1.name),.string ⟨#[]⟩,.string ⟨#[]⟩])∧Below W.heap.size W w':=fun W x al gr h=>ziq id x al gr W h
 have HER:=lh her
 clear her
 by_cases hk:kind=0∨kind=1
 rotate_left
 · have k1:¬ kind=1:=fun h=>hk (.inr h)
   have k0:¬ kind=0:=fun h=>hk (.inl h)
   rw[if_neg k1]
   unfold zoz
   rw[if_neg hk]
   have t2:(kind==1)=false:=beq_eq_false_iff_ne.2 k1
   have t3:(kind==0)=false:=beq_eq_false_iff_ne.2 k0
   clear hk k0 k1
   unfold zcP
   generalize hk1:zbl y.1.kind y.1.name=k1
   have hee:=fun W al gr h=>HER.out W y al gr h
   rw[hk1] at hee
   have HE:=lh hee
   clear hee hk1 HER
   go_enter Tryz.func17,Tryz.ntmps17
   go_wp2_with (first
    | (go_at_call 14;(refine (HGE.out _ S.out).mono ?_);rintro _ w2 ⟨⟨al,gr,rfl,hI,hGs,hf1,hf2⟩,hs,hg⟩;clear HGE;obtain⟨hone,z2,zS,O1,O2,nb,zw,I0,J0,I,J,R,H,G,S⟩:=zeg S.out G.out hI hGs hf1 hf2 hs hg;clear hI hGs hf1 hf2 hs hg)
    | (go_at_call 65;(refine (HE.out _ _ _ hone).mono ?_);rintro _ w6 ⟨rfl,hb⟩;have G:=lh (zaY G.out hb);have S:=lh (S.out.below hb);clear hb)
    | (at_builtin;have BQ:=zag w6 (.cells #[.int .i64 1,.int .i64 id,.string k1,.string ⟨#[]⟩,.string ⟨#[]⟩] 74);have zQ:w.heap.size<=(w6.alloc (.cells #[.int .i64 1,.int .i64 id,.string k1,.string ⟨#[]⟩,.string ⟨#[]⟩] 74)).heap.size:=(zaY G.out BQ).size;refine zbC _ rfl (.tmp 74) (.tmp 78) 33 74 _ _ 5 64 rfl Tryz.underlying33 zqx zh7 zh5 zhX rfl (by decide) w.heap.size (.slice none 0 0) (.slice (some ⟨w6.heap.size,0,none⟩) 1 1) 0 1 (cv []) (cv [(1,id,k1,⟨#[]⟩,⟨#[]⟩)]) rfl (World.ownsRow_nil _ _ _ _) rfl (zft w6 (1,id,k1,⟨#[]⟩,⟨#[]⟩) _ _ rfl) (zeD _) (by unfold maxLen;omega) (by omega) zQ ?_;intro a8 c8 w8 hown hg8 _;have B8:Below w.heap.size (w6.alloc (.cells #[.int .i64 1,.int .i64 id,.string k1,.string ⟨#[]⟩,.string ⟨#[]⟩] 74)) w8:=zbH hg8 (fun q hq=>by cases hq) zQ;have S8:=lh ((S.out.below BQ).belowB B8 hpl (fun _ b hb=>hso b hb));have G8:=lh (zaG (zaY G.out BQ) B8);have OW8:=lh hown;clear hown hg8 B8 BQ zQ))
   go_ret2
   exact⟨.slice a8 (0+1) c8,rfl,zcy (l:=[(1,id,k1,⟨#[]⟩,⟨#[]⟩)]) (by simp) (zbq OW8.out),S8.out,G8.out⟩
 -- the branches that ask for the aliases
 by_cases k1:kind=1
 · rw[if_pos k1]
   have t2:(kind==1)=true:=beq_iff_eq.2 k1
   have t4:(kind==0)=false:=by rw[k1];rfl
   have hgn:=fun W (h:SHs w0 W p sv l fl cd cb) (ho:∀ b,sv.ownBlock=some b->b<W.heap.size)=>zdD p sv l fl cd cb id name w0 W hm hT h ho hl hkz (by omega) (by omega) hcd
   have hgc:=zkJ l fl cd cb id name
   generalize zfM l fl cd cb id name=gn at hgn hgc ⊢
   obtain⟨⟨nl,nc⟩,cc⟩:=gn
   dsimp only at hgc ⊢
   have HGN:=lh hgn
   clear hgn
   by_cases hn:nc=0
   rotate_left
   · rw[if_pos hn]
     have t1:(nc != 0)=true:=by rw[bne_iff_ne];exact hn
     clear hn hk k1
     go_enter Tryz.func17,Tryz.ntmps17
     go_wp2_with (first|(go_at_call 14;(refine (HGE.out _ S.out).mono ?_);rintro _ w2 ⟨⟨al,gr,rfl,hI,hGs,hf1,hf2⟩,hs,hg⟩;clear HGE;obtain⟨hone,z2,zS,O1,O2,nb,zw,I0,J0,I,J,R,H,G,S⟩:=zeg S.out G.out hI hGs hf1 hf2 hs hg;clear hI hGs hf1 hf2 hs hg)|(go_at_call 63;(refine (HGN.out _ S.out (fun b hb=>Nat.lt_of_lt_of_le (hso b hb) G.out.size)).mono ?_);rintro _ w4 ⟨na,ncc,rfl,hs,hg⟩;have R:=zaZ R (by rw[zab];decide) hg nb;have H:=zb2 H hg nb;have I:=lh (zbI I.out hg O1);have J:=lh (zbE J.out hg O2);have G:=lh (zaI G.out hg);have S:=lh hs;clear hs hg))
     go_ret2
     exact⟨_,rfl,zbi _,S.out,G.out⟩
   rw[if_neg (fun h=>h hn)]
   subst hn
   by_cases hz:nl=[]
   rotate_left
   · rw[if_pos hz]
     have t3:decide (0<(nl.length:Int))=true:=decide_eq_true (by cases nl with|nil=>exact absurd rfl hz|cons a t=>rw[List.length_cons];omega)
     have t5:0<nl.length:=List.length_pos_iff.2 hz
     have t6:decide (0<nl.length)=true:=decide_eq_true t5
     have t7:¬ nl=[]:=hz
     clear hz hk k1
     go_enter Tryz.func17,Tryz.ntmps17
     go_wp2_with (first|(go_at_call 14;(refine (HGE.out _ S.out).mono ?_);rintro _ w2 ⟨⟨al,gr,rfl,hI,hGs,hf1,hf2⟩,hs,hg⟩;clear HGE;obtain⟨hone,z2,zS,O1,O2,nb,zw,I0,J0,I,J,R,H,G,S⟩:=zeg S.out G.out hI hGs hf1 hf2 hs hg;clear hI hGs hf1 hf2 hs hg)|(go_at_call 63;(refine (HGN.out _ S.out (fun b hb=>Nat.lt_of_lt_of_le (hso b hb) G.out.size)).mono ?_);rintro _ w4 ⟨na,ncc,rfl,hs,hg⟩;have R:=zaZ R (by rw[zab];decide) hg nb;have H:=zb2 H hg nb;have I:=lh (zbI I.out hg O1);have J:=lh (zbE J.out hg O2);have G:=lh (zaI G.out hg);have S:=lh hs;clear hs hg))
     go_ret2
     exact⟨_,rfl,zbi _,S.out,G.out⟩
   rw[if_neg (fun h=>h hz)]
   subst hz
   (unfold zoz;rw[if_pos hk];have hal:=fun W (h:SHs w0 W p sv l fl cd cc) (ho:∀ b,sv.ownBlock=some b->b<W.heap.size)=>zel p sv l fl cd cc id name w0 W hm hT h ho hl (by omega) (by omega) hcd;have hgo:=zf7 l fl cd cc id name;have hle:=zf0 l fl cd cc id name;generalize zeL l fl cd cc id name=ga at hal hgo hle ⊢;obtain⟨⟨s,c3⟩,ce⟩:=ga;dsimp only at hgo hle ⊢;have HAL:=lh hal;clear hal)
   by_cases h3:c3=0
   rotate_left
   · rw[if_pos h3]
     have t1:(c3 != 0)=true:=by rw[bne_iff_ne];exact h3
     clear h3 hk k1
     go_enter Tryz.func17,Tryz.ntmps17
     go_wp2_with (first|(go_at_call 14;(refine (HGE.out _ S.out).mono ?_);rintro _ w2 ⟨⟨al,gr,rfl,hI,hGs,hf1,hf2⟩,hs,hg⟩;clear HGE;obtain⟨hone,z2,zS,O1,O2,nb,zw,I0,J0,I,J,R,H,G,S⟩:=zeg S.out G.out hI hGs hf1 hf2 hs hg;clear hI hGs hf1 hf2 hs hg)|(go_at_call 63;(refine (HGN.out _ S.out (fun b hb=>Nat.lt_of_lt_of_le (hso b hb) G.out.size)).mono ?_);rintro _ w4 ⟨na,ncc,rfl,hs,hg⟩;have R:=zaZ R (by rw[zab];decide) hg nb;have H:=zb2 H hg nb;have I:=lh (zbI I.out hg O1);have J:=lh (zbE J.out hg O2);have G:=lh (zaI G.out hg);have S:=lh hs;clear hs hg)|(go_at_call 64;(refine (HAL.out _ S.out (fun b hb=>Nat.lt_of_lt_of_le (hso b hb) G.out.size)).mono ?_);rintro _ w5 ⟨hv,rws,rfl,hJ,hs,hg⟩;have zb:=H.lt;obtain⟨va,vc,rfl⟩:=zbd hJ.own;rw[List.length_map] at hJ;have HJL:=lh hJ;have R:=zaZ R (by rw[zab];decide) hg nb;have H:=zb2 H hg nb;have I:=lh (zbI I.out hg O1);have J:=lh (zbE J.out hg O2);have G:=lh (zaI G.out hg);have S:=lh hs;clear hJ hs hg))
     go_ret2
     exact⟨_,rfl,zbi _,S.out,G.out⟩
   rw[if_neg (fun h=>h h3)]
   subst h3
   clear hk k1
   go_enter Tryz.func17,Tryz.ntmps17
   go_wp2_with (first|(go_at_call 14;(refine (HGE.out _ S.out).mono ?_);rintro _ w2 ⟨⟨al,gr,rfl,hI,hGs,hf1,hf2⟩,hs,hg⟩;clear HGE;obtain⟨hone,z2,zS,O1,O2,nb,zw,I0,J0,I,J,R,H,G,S⟩:=zeg S.out G.out hI hGs hf1 hf2 hs hg;clear hI hGs hf1 hf2 hs hg)|(go_at_call 63;(refine (HGN.out _ S.out (fun b hb=>Nat.lt_of_lt_of_le (hso b hb) G.out.size)).mono ?_);rintro _ w4 ⟨na,ncc,rfl,hs,hg⟩;have R:=zaZ R (by rw[zab];decide) hg nb;have H:=zb2 H hg nb;have I:=lh (zbI I.out hg O1);have J:=lh (zbE J.out hg O2);have G:=lh (zaI G.out hg);have S:=lh hs;clear hs hg)|(go_at_call 64;(refine (HAL.out _ S.out (fun b hb=>Nat.lt_of_lt_of_le (hso b hb) G.out.size)).mono ?_);rintro _ w5 ⟨hv,rws,rfl,hJ,hs,hg⟩;have zb:=H.lt;obtain⟨va,vc,rfl⟩:=zbd hJ.own;rw[List.length_map] at hJ;have HJL:=lh hJ;have R:=zaZ R (by rw[zab];decide) hg nb;have H:=zb2 H hg nb;have I:=lh (zbI I.out hg O1);have J:=lh (zbE J.out hg O2);have G:=lh (zaI G.out hg);have S:=lh hs;clear hJ hs hg))
   go_loopw [14,63] (fun v i wr=>∃ (k:Nat),k<=s.length∧i=.int .i64 k∧wr.ownsRow w5.heap.size 74 5 v k (cv ((s.take k).map (zcP id)))∧Below w5.heap.size w5 wr) (fun _ i _=>s.length - (intOf i).toNat)
   case atStart=>exact⟨0,Nat.zero_le _,rfl,World.ownsRow_nil _ _ _ _,Below.refl _ _⟩
   case round =>
    obtain⟨k,hk,rfl,hown,hB⟩:=hrel
    obtain⟨ra,rc,rfl⟩:=zbd hown
    have HO:=lh hown
    have HB:=lh hB
    have zg:=hB.size
    clear hown hB
    by_cases hlt:k<s.length
    · obtain⟨va',vc',GG,hve,hES,hlst,-⟩:=(HJL.out.below HB.out).es (by rw[List.length_map];omega)
      rw[List.length_map] at hve hES hlst
      injection hve with v1 v2 v3
      subst v1 v3
      clear v2
      obtain⟨b,o,rfl,hb,a1,c1,a2,c2',hmid,-,-,-⟩:=hES.2 k hlt
      have hGk:GG k=zgP s[k]:=by
       have e1:(lst GG s.length)[k]?=(s.map zgP)[k]?:=by rw[hlst]
       unfold lst at e1
       rw[List.getElem?_map,List.getElem?_range hlt,List.getElem?_map,List.getElem?_eq_getElem hlt] at e1
       exact Option.some.inj e1
      rw[hGk] at hmid
      have htk:s.take (k+1)=s.take k++[s[k]]:=List.take_succ_eq_append_getElem hlt
      generalize s[k]=q at hmid htk
      have hmid':mid wr b (o+k*33)=q.1.vals (.slice a1 q.2.1.length c1) (.slice a2 q.2.2.length c2'):=hmid
      have hone2:=zav q.1 (.slice a1 q.2.1.length c1) (.slice a2 q.2.2.length c2') rfl rfl
      have hz33:(mid wr b (o+k*33)).size=33:=by rw[hmid'];exact zab _ _ _
      have j1:(0:Int)<=(k:Int):=by omega
      have j2:(k:Int)<(s.length:Int):=by omega
      have hmap:((s.take (k+1)).map (zcP id))=((s.take k).map (zcP id))++[(1,id,zbl q.1.kind q.1.name,⟨#[]⟩,⟨#[]⟩)]:=by rw[htk,List.map_append];rfl
      have he3:=fun W=>HER.out W q (.slice a1 q.2.1.length c1) (.slice a2 q.2.2.length c2') hone2
      generalize zbl q.1.kind q.1.name=k3 at hmap he3
      have HE3:=lh he3
      have HMP:=lh hmap
      clear he3 hmap htk hmid hGk hES hlst
      go_wp2_with (first
       | (go_at_call 65;(refine (HE3.out _).mono ?_);rintro _ w9 ⟨rfl,hb⟩;have B9:=bt (zag wr (.cells (q.1.vals (.slice a1 q.2.1.length c1) (.slice a2 q.2.2.length c2')) 32)) hb;have O9:=lh (zaF HO.out (fun x hx=>B9.block x (zar HO.out x hx).2));have G9:=lh (Below.trans HB.out (B9.mono zg));have z9:=B9.size;clear hb B9)
       | (at_builtin;have B10:=zag w9 (.cells #[.int .i64 1,.int .i64 id,.string k3,.string ⟨#[]⟩,.string ⟨#[]⟩] 74);have OQ:=zaF O9.out (fun x hx=>B10.block x (zar O9.out x hx).2);refine zbC _ rfl (.tmp 67) (.tmp 71) 33 74 _ _ 5 64 rfl Tryz.underlying33 zqx zh7 zh5 zhX rfl (by decide) w5.heap.size (.slice ra k rc) (.slice (some ⟨w9.heap.size,0,none⟩) 1 1) k 1 _ (cv [(1,id,k3,⟨#[]⟩,⟨#[]⟩)]) rfl OQ rfl (zft w9 (1,id,k3,⟨#[]⟩,⟨#[]⟩) _ _ rfl) (zeD _) (by unfold maxLen;omega) (by omega) (by simp;omega) ?_;intro aX cX wX hown hgX _;have OX:=lh hown;have GX:=lh ((Below.trans G9.out (B10.mono (by omega))).trans (zbH hgX (fun q hq=>(zar OQ q hq).1) (by simp;omega)));clear hown hgX OQ B10))
      go_roundw
      case rel=>exact⟨k+1,by omega,by go_num,by rw[HMP.out,zfQ];exact OX.out,GX.out⟩
      case measure=>simp [intOf];omega
    · obtain rfl:k=s.length:=by omega
      rw[List.take_of_length_le (Nat.le_refl _)] at HO
      have RE:=zae HB.out R (by rw[zab];decide)
      have SE:=lh (S.out.below HB.out)
      have GE:=lh (zaY G.out HB.out)
      have he1:=fun W al gr h=>HER.out W y al gr h
      generalize hk1:zbl y.1.kind y.1.name=k1 at he1
      have HE:=lh he1
      have HK1:=lh hk1
      have zw5:=G.out.size
      clear he1 hk1
      go_wp2_with (first
       | (go_at_call 65;(refine (HE.out _ _ _ hone).mono ?_);rintro _ w6 ⟨rfl,hb⟩;have SE:=lh (SE.out.below hb);have GE:=lh (zaY GE.out hb);have O6:=lh (zaF HO.out (fun x hx=>hb.block x (zar HO.out x hx).2));have z6:=hb.size;clear hb)
       | (at_builtin;have BQ:=zag w6 (.cells #[.int .i64 1,.int .i64 id,.string k1,.string ⟨#[]⟩,.string ⟨#[]⟩] 74);have OQ:=zaF O6.out (fun x hx=>BQ.block x (zar O6.out x hx).2);refine zbC _ rfl (.tmp 74) (.tmp 78) 33 74 _ _ 5 64 rfl Tryz.underlying33 zqx zh7 zh5 zhX rfl (by decide) w5.heap.size (.slice ra s.length rc) (.slice (some ⟨w6.heap.size,0,none⟩) 1 1) s.length 1 (cv (s.map (zcP id))) (cv [(1,id,k1,⟨#[]⟩,⟨#[]⟩)]) rfl OQ rfl (zft w6 (1,id,k1,⟨#[]⟩,⟨#[]⟩) _ _ rfl) (zeD _) (by unfold maxLen;omega) (by omega) (by simp;omega) ?_;intro a8 c8 w8 hown hg8 _;have B8:Below w.heap.size (w6.alloc (.cells #[.int .i64 1,.int .i64 id,.string k1,.string ⟨#[]⟩,.string ⟨#[]⟩] 74)) w8:=zbH hg8 (fun q hq=>Nat.le_trans zw5 (zar OQ q hq).1) (by simp;omega);have S8:=lh ((SE.out.below BQ).belowB B8 hpl (fun _ b hb=>hso b hb));have G8:=lh (zaG (zaY GE.out BQ) B8);have OW8:=lh hown;clear hown hg8 B8 BQ OQ))
      go_ret2
      refine⟨.slice a8 (s.length+1) c8,rfl,?_,S8.out,G8.out⟩
      have hll:((s.map (zcP id))++[((1,id,k1,⟨#[]⟩,⟨#[]⟩):Ch)]).length=s.length+1:=by rw[List.length_append,List.length_map];rfl
      have hc:=zcy (w:=w8) (v:=.slice a8 (s.length+1) c8) (l:=(s.map (zcP id))++[((1,id,k1,⟨#[]⟩,⟨#[]⟩):Ch)]) (by rw[hll];omega) (by rw[hll,zfQ];exact zbq OW8.out)
      rw[<-HK1.out] at hc
      exact hc
 · rw[if_neg k1]
   have k0:kind=0:=hk.resolve_right k1
   have t2:(kind==1)=false:=beq_eq_false_iff_ne.2 k1
   have t4:(kind==0)=true:=beq_iff_eq.2 k0
   (unfold zoz;rw[if_pos hk];have hal:=fun W (h:SHs w0 W p sv l fl cd cb) (ho:∀ b,sv.ownBlock=some b->b<W.heap.size)=>zel p sv l fl cd cb id name w0 W hm hT h ho hl (by omega) (by omega) hcd;have hgo:=zf7 l fl cd cb id name;have hle:=zf0 l fl cd cb id name;generalize zeL l fl cd cb id name=ga at hal hgo hle ⊢;obtain⟨⟨s,c3⟩,ce⟩:=ga;dsimp only at hgo hle ⊢;have HAL:=lh hal;clear hal)
   by_cases h3:c3=0
   rotate_left
   · rw[if_pos h3]
     have t1:(c3 != 0)=true:=by rw[bne_iff_ne];exact h3
     clear h3 hk k1 k0
     go_enter Tryz.func17,Tryz.ntmps17
     go_wp2_with (first|(go_at_call 14;(refine (HGE.out _ S.out).mono ?_);rintro _ w2 ⟨⟨al,gr,rfl,hI,hGs,hf1,hf2⟩,hs,hg⟩;clear HGE;obtain⟨hone,z2,zS,O1,O2,nb,zw,I0,J0,I,J,R,H,G,S⟩:=zeg S.out G.out hI hGs hf1 hf2 hs hg;clear hI hGs hf1 hf2 hs hg)|(go_at_call 64;(refine (HAL.out _ S.out (fun b hb=>Nat.lt_of_lt_of_le (hso b hb) G.out.size)).mono ?_);rintro _ w5 ⟨hv,rws,rfl,hJ,hs,hg⟩;have zb:=H.lt;obtain⟨va,vc,rfl⟩:=zbd hJ.own;rw[List.length_map] at hJ;have HJL:=lh hJ;have R:=zaZ R (by rw[zab];decide) hg nb;have H:=zb2 H hg nb;have I:=lh (zbI I.out hg O1);have J:=lh (zbE J.out hg O2);have G:=lh (zaI G.out hg);have S:=lh hs;clear hJ hs hg))
     go_ret2
     exact⟨_,rfl,zbi _,S.out,G.out⟩
   rw[if_neg (fun h=>h h3)]
   subst h3
   clear hk k1 k0
   go_enter Tryz.func17,Tryz.ntmps17
   go_wp2_with (first|(go_at_call 14;(refine (HGE.out _ S.out).mono ?_);rintro _ w2 ⟨⟨al,gr,rfl,hI,hGs,hf1,hf2⟩,hs,hg⟩;clear HGE;obtain⟨hone,z2,zS,O1,O2,nb,zw,I0,J0,I,J,R,H,G,S⟩:=zeg S.out G.out hI hGs hf1 hf2 hs hg;clear hI hGs hf1 hf2 hs hg)|(go_at_call 64;(refine (HAL.out _ S.out (fun b hb=>Nat.lt_of_lt_of_le (hso b hb) G.out.size)).mono ?_);rintro _ w5 ⟨hv,rws,rfl,hJ,hs,hg⟩;have zb:=H.lt;obtain⟨va,vc,rfl⟩:=zbd hJ.own;rw[List.length_map] at hJ;have HJL:=lh hJ;have R:=zaZ R (by rw[zab];decide) hg nb;have H:=zb2 H hg nb;have I:=lh (zbI I.out hg O1);have J:=lh (zbE J.out hg O2);have G:=lh (zaI G.out hg);have S:=lh hs;clear hJ hs hg))
   go_loopw [14,63] (fun v i wr=>∃ (k:Nat),k<=s.length∧i=.int .i64 k∧wr.ownsRow w5.heap.size 74 5 v k (cv ((s.take k).map (zcP id)))∧Below w5.heap.size w5 wr) (fun _ i _=>s.length - (intOf i).toNat)
   case atStart=>exact⟨0,Nat.zero_le _,rfl,World.ownsRow_nil _ _ _ _,Below.refl _ _⟩
   case round =>
    obtain⟨k,hk,rfl,hown,hB⟩:=hrel
    obtain⟨ra,rc,rfl⟩:=zbd hown
    have HO:=lh hown
    have HB:=lh hB
    have zg:=hB.size
    clear hown hB
    by_cases hlt:k<s.length
    · obtain⟨va',vc',GG,hve,hES,hlst,-⟩:=(HJL.out.below HB.out).es (by rw[List.length_map];omega)
      rw[List.length_map] at hve hES hlst
      injection hve with v1 v2 v3
      subst v1 v3
      clear v2
      obtain⟨b,o,rfl,hb,a1,c1,a2,c2',hmid,-,-,-⟩:=hES.2 k hlt
      have hGk:GG k=zgP s[k]:=by
       have e1:(lst GG s.length)[k]?=(s.map zgP)[k]?:=by rw[hlst]
       unfold lst at e1
       rw[List.getElem?_map,List.getElem?_range hlt,List.getElem?_map,List.getElem?_eq_getElem hlt] at e1
       exact Option.some.inj e1
      rw[hGk] at hmid
      have htk:s.take (k+1)=s.take k++[s[k]]:=List.take_succ_eq_append_getElem hlt
      generalize s[k]=q at hmid htk
      have hmid':mid wr b (o+k*33)=q.1.vals (.slice a1 q.2.1.length c1) (.slice a2 q.2.2.length c2'):=hmid
      have hone2:=zav q.1 (.slice a1 q.2.1.length c1) (.slice a2 q.2.2.length c2') rfl rfl
      have hz33:(mid wr b (o+k*33)).size=33:=by rw[hmid'];exact zab _ _ _
      have j1:(0:Int)<=(k:Int):=by omega
      have j2:(k:Int)<(s.length:Int):=by omega
      have hmap:((s.take (k+1)).map (zcP id))=((s.take k).map (zcP id))++[(1,id,zbl q.1.kind q.1.name,⟨#[]⟩,⟨#[]⟩)]:=by rw[htk,List.map_append];rfl
      have he3:=fun W=>HER.out W q (.slice a1 q.2.1.length c1) (.slice a2 q.2.2.length c2') hone2
      generalize zbl q.1.kind q.1.name=k3 at hmap he3
      have HE3:=lh he3
      have HMP:=lh hmap
      clear he3 hmap htk hmid hGk hES hlst
      go_wp2_with (first
       | (go_at_call 65;(refine (HE3.out _).mono ?_);rintro _ w9 ⟨rfl,hb⟩;have B9:=bt (zag wr (.cells (q.1.vals (.slice a1 q.2.1.length c1) (.slice a2 q.2.2.length c2')) 32)) hb;have O9:=lh (zaF HO.out (fun x hx=>B9.block x (zar HO.out x hx).2));have G9:=lh (Below.trans HB.out (B9.mono zg));have z9:=B9.size;clear hb B9)
       | (at_builtin;have B10:=zag w9 (.cells #[.int .i64 1,.int .i64 id,.string k3,.string ⟨#[]⟩,.string ⟨#[]⟩] 74);have OQ:=zaF O9.out (fun x hx=>B10.block x (zar O9.out x hx).2);refine zbC _ rfl (.tmp 67) (.tmp 71) 33 74 _ _ 5 64 rfl Tryz.underlying33 zqx zh7 zh5 zhX rfl (by decide) w5.heap.size (.slice ra k rc) (.slice (some ⟨w9.heap.size,0,none⟩) 1 1) k 1 _ (cv [(1,id,k3,⟨#[]⟩,⟨#[]⟩)]) rfl OQ rfl (zft w9 (1,id,k3,⟨#[]⟩,⟨#[]⟩) _ _ rfl) (zeD _) (by unfold maxLen;omega) (by omega) (by simp;omega) ?_;intro aX cX wX hown hgX _;have OX:=lh hown;have GX:=lh ((Below.trans G9.out (B10.mono (by omega))).trans (zbH hgX (fun q hq=>(zar OQ q hq).1) (by simp;omega)));clear hown hgX OQ B10))
      go_roundw
      case rel=>exact⟨k+1,by omega,by go_num,by rw[HMP.out,zfQ];exact OX.out,GX.out⟩
      case measure=>simp [intOf];omega
    · obtain rfl:k=s.length:=by omega
      rw[List.take_of_length_le (Nat.le_refl _)] at HO
      have RE:=zae HB.out R (by rw[zab];decide)
      have SE:=lh (S.out.below HB.out)
      have GE:=lh (zaY G.out HB.out)
      have he1:=fun W al gr h=>HER.out W y al gr h
      generalize hk1:zbl y.1.kind y.1.name=k1 at he1
      have HE:=lh he1
      have HK1:=lh hk1
      have zw5:=G.out.size
      clear he1 hk1
      go_wp2_with (first
       | (go_at_call 65;(refine (HE.out _ _ _ hone).mono ?_);rintro _ w6 ⟨rfl,hb⟩;have SE:=lh (SE.out.below hb);have GE:=lh (zaY GE.out hb);have O6:=lh (zaF HO.out (fun x hx=>hb.block x (zar HO.out x hx).2));have z6:=hb.size;clear hb)
       | (at_builtin;have BQ:=zag w6 (.cells #[.int .i64 1,.int .i64 id,.string k1,.string ⟨#[]⟩,.string ⟨#[]⟩] 74);have OQ:=zaF O6.out (fun x hx=>BQ.block x (zar O6.out x hx).2);refine zbC _ rfl (.tmp 74) (.tmp 78) 33 74 _ _ 5 64 rfl Tryz.underlying33 zqx zh7 zh5 zhX rfl (by decide) w5.heap.size (.slice ra s.length rc) (.slice (some ⟨w6.heap.size,0,none⟩) 1 1) s.length 1 (cv (s.map (zcP id))) (cv [(1,id,k1,⟨#[]⟩,⟨#[]⟩)]) rfl OQ rfl (zft w6 (1,id,k1,⟨#[]⟩,⟨#[]⟩) _ _ rfl) (zeD _) (by unfold maxLen;omega) (by omega) (by simp;omega) ?_;intro a8 c8 w8 hown hg8 _;have B8:Below w.heap.size (w6.alloc (.cells #[.int .i64 1,.int .i64 id,.string k1,.string ⟨#[]⟩,.string ⟨#[]⟩] 74)) w8:=zbH hg8 (fun q hq=>Nat.le_trans zw5 (zar OQ q hq).1) (by simp;omega);have S8:=lh ((SE.out.below BQ).belowB B8 hpl (fun _ b hb=>hso b hb));have G8:=lh (zaG (zaY GE.out BQ) B8);have OW8:=lh hown;clear hown hg8 B8 BQ OQ))
      go_ret2
      refine⟨.slice a8 (s.length+1) c8,rfl,?_,S8.out,G8.out⟩
      have hll:((s.map (zcP id))++[((1,id,k1,⟨#[]⟩,⟨#[]⟩):Ch)]).length=s.length+1:=by rw[List.length_append,List.length_map];rfl
      have hc:=zcy (w:=w8) (v:=.slice a8 (s.length+1) c8) (l:=(s.map (zcP id))++[((1,id,k1,⟨#[]⟩,⟨#[]⟩):Ch)]) (by rw[hll];omega) (by rw[hll,zfQ];exact zbq OW8.out)
      rw[<-HK1.out] at hc
      exact hc
end
end Go.Proofs.YtkafnmbldpofdaaGreatDoor
