/- Part of the framework. No condition. -/
import Derived.Test.YtfkjiiapldkoeaaGreatDoorSxH
import Derived.Lib.UnsafeStr
set_option linter.all false
set_option maxHeartbeats 4000000
namespace Go.Sx
def j2 (c:UInt8):XB:=.int .u8 (c.toNat:Nat)
section
variable {P:Program} {h:Hp} {K:XB->Hp->Prop}
def BF {h:Hp} {g off n:Nat} {c:Array XB} {e:TypeId} {f:Nat × Nat} (hg:h[g]?=some (.cells c e f)):(∃ f',(gF h ⟨g,off,none⟩ n)[g]?=some (.cells c e f'))/\Ch [g] h (gF h ⟨g,off,none⟩ n)/\(gF h ⟨g,off,none⟩ n).size=h.size:=by
 unfold gF;split
 ·exact ⟨⟨_,hg⟩,Ch.refl _ _,rfl⟩
 ·refine ⟨?_,⟨aj,fun i hi hw=>?_⟩,aj⟩
  ·rw [PD,OH rfl,hg];exact ⟨_,rfl⟩
  ·rw [PD,OG (by simp at hw; exact fun e=>hw e.symm)]
def xd {k:IntKind} {n:Int} (K:Int->Hp->Prop):aV P (asInt (.int k n)) h K=K n h:=rfl
def Bi {t e:TypeId} {i:TypeInfo} {z:XB} (ht:P.underlying t=some (.slice e)) (hi:P.info? e=some i) (hz:i.zero=some z) {k k':IntKind} {l c:Nat} (hl:l<=c) (hb:c*i.bytes<=2^48) (hc:c<=2^48)
  (hk:∀ h',bf h' h.size e ((List.range (c*i.size)).map (z.cells[· % z.cells.size]!))->Ext h h'->h'.size=h.size+1->K (.slice (some ⟨h.size,0,none⟩) l c) h') :
  aV P (Instr.makeSlice t (.int k l) (.int k' c)) h K:=by
 have hz':(P.info? e).bind (·.zero)=some z:=by rw [hi]; exact hz
 have w1:IntKind.i64.wrap (l:Int)=l:=wrap_i64 ae ae;have w2:IntKind.i64.wrap (c:Int)=c:=wrap_i64 ae ae;have hbc:¬ (281474976710656<(i.bytes:Int)*(c:Int)):=by
  have:(2:Nat)^48=281474976710656:=rfl
  rw [Nat.mul_comm] at hb
  have:i.bytes*c<=281474976710656:=ae
  have:((i.bytes*c:Nat):Int)<=281474976710656:=ae
  rw [Int.natCast_mul] at this; omega
 have hasked:∀ (n:Nat) (K':Unit->Hp->Prop),K' () h->aV P (askRoom n) h K':=by
  intro n K' hk';unfold askRoom;split <;> exact hk'
 have hneg:¬ ((c:Int)<(l:Int)):=ae
 have hl0:¬ ((l:Int)<0):=ae
 have hc0:¬ ((c:Int)<0):=ae
 simp [Instr.makeSlice,aD,aL ht,xd,jg hi,w1,w2,hbc,hneg,hl0,hc0,bV hi,eC hi];refine hasked _ _ ?_
 by_cases hn:c*i.size=0
 ·rw [OH hn,kH,hn];rw [hn] at hk;have e0:(Array.map (fun x:Nat=>(default:XB)) (Array.range 0))=#[]:=aj
  rw [e0];exact hk _ (bf.new h e []) (Ext.push h _) aj
 ·rw [OG hn,aD,eO hz',kH];refine hk _ ?_ (Ext.push h _) aj
  have:=bf.new h e ((List.range (c*i.size)).map (z.cells[· % z.cells.size]!))
  rw [show ((List.range (c*i.size)).map (z.cells[· % z.cells.size]!)).toArray=(Array.range (c*i.size)).map (z.cells[· % z.cells.size]!) from by
   apply O5.1; simp] at this
  exact this
def Dq {t u ty e:TypeId} {i:TypeInfo} (ht:P.underlying t=some (.slice e)) (hi:P.info? e=some i) {g off l c:Nat} {xs:List XB} (b:bf h g e xs) {s:XA} (hl:s.size=l) (hx:off+s.size<=xs.length)
  (hk:∀ h',bf h' g e (j8 xs off (s.data.toList.map j2))->Ch [g] h h'->h'.size=h.size->K (goInt (s.size:Int)) h') :
  aV P (Builtin.copy_ #[t,u] ty #[.slice (some ⟨g,off,none⟩) l c,.string s]) h K:=by
 subst hl;simp [Builtin.copy_,aD,aL ht,bV hi,Builtin.lenOf,Builtin.firstCells];have e1:(Array.map (fun b:UInt8=>Value.int IntKind.u8 ↑b.toNat) s.data).toList=s.data.toList.map j2:=by
  simp [j2]
 obtain ⟨k1,k2,k3,k4⟩:=nX (off:=off) (s.data.toList.map j2) h 0 xs b (by rw [List.all_map]; exact O9.2 fun _ _=>rfl) (by simp; exact hx);rw [kH];refine fc _ _ _ _ _ ?_ ?_
 all_goals
  rw [show List.take s.size (List.map (fun b:UInt8=>Value.int IntKind.u8 ↑b.toNat) s.data.toList)=s.data.toList.map j2 from List.take_of_length_le aj]
 ·exact k1
 ·exact hk _ k2 k3 k4
theorem tR {g:Nat}:∀ (l:List UInt8) (off:Nat) (acc:XA) (K:XA->Hp->Prop),(∀ i,(hi:i<l.length)->fC h ⟨g,off+i,none⟩=some (j2 l[i]))->K ⟨acc.data++l.toArray⟩ h->aV P (loadBytes ⟨g,off,none⟩ acc l.length) h K
 | [],off,acc,K,_,hk=>by
  have:(⟨acc.data++([]:List UInt8).toArray⟩:XA)=acc:=aj
  rw [this] at hk;exact hk
 | c::l,off,acc,K,hc,hk=>by
  rw [Pg];unfold loadBytes;rw [aD];refine ⟨j2 c,hc 0 aj,?_⟩;show aV P (loadBytes ((⟨g,off,none⟩:XC).add 1) (acc.push ((c.toNat:Nat):Int).toNat.toUInt8) l.length) h K;rw [az];have e1:((c.toNat:Nat):Int).toNat.toUInt8=c:=aj
  rw [e1];refine tR l (off+1) (acc.push c) K (fun i hi=>?_) ?_
  ·have:=hc (i+1) (by simpa using hi)
   rw [show off+1+i=off+(i+1) from ae];simpa using this
  ·have:(⟨(acc.push c).data++l.toArray⟩:XA)=⟨acc.data++(c::l).toArray⟩:=by
    congr 1
    apply O5.1
    simp
   rw [this]; exact hk
def xe {src dst e:TypeId} (hs:P.underlying src=some .string) (hd:P.underlying dst=some (.slice e)) (he:P.underlying e=some (.int .u8)) (s:XA)
  (hk:∀ cap h',s.size<=cap->Ext h h'->(∀ i,i<s.size->fC h' ⟨h.size,i,none⟩=some (j2 (s.data.toList.getD i 0)))->K (.slice (some ⟨h.size,0,none⟩) s.size cap) h') :
  aV P (convert src dst (.string s)) h K:=by
 simp [convert,Conv.stringToBytes,aD,aL hs,aL hd,aL he];intro tt;have hge:=ET s.size 0 e tt;generalize (Question.appendCap s.size 0 e).cut tt=nc at hge;obtain ⟨C,hC⟩:∃ C,C=Array.map (fun b:UInt8=>Value.int IntKind.u8 ↑b.toNat) s.data++Array.replicate (nc-s.size) (Value.int IntKind.u8 0):=⟨_,rfl⟩
 have hget:∀ i,i<s.size->C[i]?=some (j2 (s.data.toList.getD i 0)):=by
  intro i hi;have hi':i<s.data.size:=hi;rw [hC,Array.getElem?_append_left (by simpa using hi'),Array.getElem?_map,Pn hi'];simp only [Option.map_some,Option.some.injEq,Value.int.injEq,true_and,j2,List.getD,Array.getElem?_toList];rw [Pn hi']; rfl
 rw [show ∀ K':Nat->Hp->Prop,aV P (Sem.pure nc) h K'=K' nc h from fun _=>rfl,<- hC];clear hC;show aV P ((fun a_2=>Value.slice (some ⟨h.size,0,none⟩) s.size nc) <$> markStringish ⟨h.size,0,none⟩) (h.push (.cells C e (0,0))) K;rw [kH];have hsh:td (h.push (.cells C e (0,0))) h.size=some (e,C.size):=by
  unfold td; rw [PS]
 unfold markStringish;rw [aD];show aV P (match td (h.push (.cells C e (0,0))) h.size with
  | some (_,n)=>freeze { block:=h.size,off:=n } 1
  | _=>pure ()) (h.push (.cells C e (0,0))) _
 rw [hsh];show K (.slice (some ⟨h.size,0,none⟩) s.size nc) (gF (h.push (.cells C e (0,0))) ⟨h.size,C.size,none⟩ 1);have hat:(gF (h.push (.cells C e (0,0))) ⟨h.size,C.size,none⟩ 1)[h.size]?=some (.cells C e (C.size,C.size+1)):=by
  unfold gF;rw [OG ae,PD,OH rfl,PS] <;> rfl
 refine hk nc _ hge.1 ⟨?_,?_⟩ ?_
 ·unfold gF; rw [OG ae]; simp
 ·intro i hi _;unfold gF;rw [OG ae,PD,OG (by simp; omega),Array.getElem?_push,OG ae]
 ·intro i hi;rw [mJ hat];exact hget i hi
def wO {pt it ty e:TypeId} (hp:P.underlying pt=some (.pointer e)) (hc:P.cellsOf e=1) {g:Nat} {c:Array XB} {f:Nat × Nat} (hg:h[g]?=some (.cells c e f)) (l:List UInt8) (h0:l≠[]) (hn:l.length<=c.size) (h63:l.length<=9223372036854775807)
  (fC:∀ i,(hi:i<l.length)->fC h ⟨g,i,none⟩=some (j2 l[i]))
  (hk:∀ h' f',h'[g]?=some (.cells c e f')->Ch [g] h h'->h'.size=h.size->K (.string ⟨l.toArray⟩) h') :
  aV P (Builtin.unsafeString_ #[pt,it] ty #[.pointer (some ⟨g,0,none⟩),.int .i64 l.length]) h K:=by
 have hl:l.length≠0:=by simpa using h0
 have hlies:=Lib.liesAt_bytes (P:=P) hc (c.size / P.cellsOf e) l.length (by rw [hc]; simpa using hn);have h63':¬ (9223372036854775807:Int)<(l.length:Int):=ae
 have hmax:IntKind.i64.max=9223372036854775807:=rfl;have hneg:¬ (l.length:Int)<0:=ae
 have hdef:Builtin.unsafeString_ #[pt,it] ty #[.pointer (some ⟨g,0,none⟩),.int .i64 l.length] =
   (do
    let n <- asInt (.int .i64 l.length)
    if n < 0 then runtimePanic (.error "unsafe.String: len out of range")
    if n > IntKind.i64.max then unsupported (.unsafePointer "String: a length above the largest int")
    if n=0 then pure (.string .empty)
    else if <- variablesAt ⟨g,0,none⟩ (<- elemOf pt) n.toNat then do
     let s <- loadBytes ⟨g,0,none⟩ .empty n.toNat
     freeze ⟨g,0,none⟩ n.toNat
     pure (.string s)
    else unsupported (.unsafePointer "String: not so many bytes at ptr")) := rfl
 rw [hdef];obtain ⟨⟨f',h1⟩,h2,h3⟩:=BF (off:=0) (n:=l.length) hg;have hsh:td h g=some (e,c.size):=by unfold td; simp only [hg]
 have hv:∀ K':Bool->Hp->Prop,K' true h->aV P (variablesAt ⟨g,0,none⟩ e l.length) h K':=by
  intro K' hk';unfold variablesAt;rw [eF];show aV P (match td h g with
   | some (e',cells)=>pure (liesAt P P.depth e' (cells / P.cellsOf e') 0 e l.length)
   | none=>pure false) h K'
  rw [hsh];show K' (liesAt P P.depth e (c.size / P.cellsOf e) 0 e l.length) h;rw [hlies]; exact hk'
 simp [aD,xd,hmax,h63',hneg,hl,elemOf,aL hp];refine hv _ ?_;simp only [if_true];rw [aD];refine tR l 0 _ _ (fun i hi=>by rw [PQ]; exact fC i hi) ?_;have e1:(⟨ByteArray.empty.data++l.toArray⟩:XA)=⟨l.toArray⟩:=by
  congr 1
  apply O5.1; simp
 rw [e1];exact hk _ f' h1 h2 h3
end
end Go.Sx
