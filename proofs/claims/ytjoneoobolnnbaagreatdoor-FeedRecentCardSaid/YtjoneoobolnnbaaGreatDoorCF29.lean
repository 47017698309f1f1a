/- Functions of the program as Lean functions. Written by fxgen.py. -/
import Derived.Test.YtjoneoobolnnbaaGreatDoorCF03
import Derived.Test.YtjoneoobolnnbaaGreatDoorCF04
set_option linter.unusedVariables false
set_option maxHeartbeats 4000000
set_option maxRecDepth 100000
namespace Go.Proofs.YtjoneoobolnnbaaGreatDoor
open VL
def ZhD (p0:Change):Option Bool:=
 letk (fun (x1:Bool)=>
  letk (fun (x2:Bool)=>
   letk (fun (x3:Bool)=>
    letk (fun (x4:Bool)=>
     if x4 then
      (some false:Option Bool)
     else
     letk (fun (x5:Bool)=>
      if x5 then
       (some false:Option Bool)
      else
      letk (fun (x6:Bool)=>
       if x6 then
        (some false:Option Bool)
       else
       letk (fun (x7:Bool)=>
        (some x7:Option Bool)) fun k7=>
       if (decide (p0.kind=4)) then
        if (decide (p0.kind=5)) then
         k7 true
        else
        k7 (decide ((p0.history.length:Int)=0))
       else
       if (decide (p0.to=(⟨0,(⟨#[]⟩:ByteArray)⟩:Title))) then
        if (decide (p0.kind=5)) then
         k7 true
        else
        k7 (decide ((p0.history.length:Int)=0))
       else
       k7 false) fun k6=>
      if (decide (p0.kind=6)) then
       k6 (!decide (p0.user=(⟨#[]⟩:ByteArray)))
      else
      k6 false) fun k5=>
     if (!x1) then
      if (!decide (p0.note=(⟨#[]⟩:ByteArray))) then
       k5 true
      else
      if (!decide (p0.text=(⟨#[]⟩:ByteArray))) then
       k5 true
      else
      if (!x2) then
       if (!decide (p0.n=0)) then
        k5 true
       else
       if (!x3) then
        k5 (!decide (p0.title=(⟨0,(⟨#[]⟩:ByteArray)⟩:Title)))
       else
       k5 false
      else
      if (!x3) then
       k5 (!decide (p0.title=(⟨0,(⟨#[]⟩:ByteArray)⟩:Title)))
      else
      k5 false
     else
     if (!x2) then
      if (!decide (p0.n=0)) then
       k5 true
      else
      if (!x3) then
       k5 (!decide (p0.title=(⟨0,(⟨#[]⟩:ByteArray)⟩:Title)))
      else
      k5 false
     else
     if (!x3) then
      k5 (!decide (p0.title=(⟨0,(⟨#[]⟩:ByteArray)⟩:Title)))
     else
     k5 false) fun k4=>
    if (decide (p0.kind<1)) then
     k4 true
    else
    k4 (decide (10<p0.kind))) fun k3=>
   if (!decide (p0.kind=6)) then
    k3 (!decide (p0.kind=10))
   else
   k3 false) fun k2=>
  if (decide (p0.kind=4)) then
   k2 true
  else
  if (decide (p0.kind=6)) then
   k2 true
  else
  if (decide (p0.kind=9)) then
   k2 true
  else
  k2 (decide (p0.kind=10))) fun k1=>
 if (decide (p0.kind=1)) then
  k1 true
 else
 k1 (decide (p0.kind=9))
theorem ZpF (p0:Change) (r:Bool) (hF:ZhD p0=some r):Zb Tryz.prog 87 [p0.pv] (.bool r):=by
 refine cF (fun r=>.bool r) hF mix Tryz.func87 fun r hF=>?_
 unfold ZhD at hF
 refine Za ?_
 refine rg ?_
 refine jL hF (fun x1=>mkS [(1,.ptr 1 (1,1) 0),(3,.bool x1)] [(1,some ((1,1),.box [.int .i64 p0.kind,.str p0.user,.str p0.note,.int .i64 p0.title.space,.str p0.title.name,.int .i64 p0.to.space,.str p0.to.name,.str p0.text,.int .i64 p0.n,.sl (List.map Revision.cs p0.history)]))] 2) (fun k1 hF=>?_) fun x1 hF=>?_
 ·refine rg ?_
  refine kS 9 hF rfl (fun hF=>?_) fun hF=>?_
  ·iterate 3 refine Zh rfl (Za ?_)
   exact jn true hF (sR [(1,1,0)])
  exact jn (decide (p0.kind=9)) hF (sR [(1,1,0)])
 refine jL hF (fun x2=>mkS [(1,.ptr 1 (1,1) 0),(3,.bool x1),(4,.bool x2)] [(1,some ((1,1),.box [.int .i64 p0.kind,.str p0.user,.str p0.note,.int .i64 p0.title.space,.str p0.title.name,.int .i64 p0.to.space,.str p0.to.name,.str p0.text,.int .i64 p0.n,.sl (List.map Revision.cs p0.history)]))] 2) (fun k2 hF=>?_) fun x2 hF=>?_
 ·refine rg ?_
  refine kS 17 hF rfl (fun hF=>?_) fun hF=>?_
  ·iterate 9 refine Zh rfl (Za ?_)
   exact jn true hF (sR [(1,1,1)])
  refine kS 22 hF rfl (fun hF=>?_) fun hF=>?_
  ·iterate 6 refine Zh rfl (Za ?_)
   exact jn true hF (sR [(1,1,1)])
  refine kS 27 hF rfl (fun hF=>?_) fun hF=>?_
  ·iterate 3 refine Zh rfl (Za ?_)
   exact jn true hF (sR [(1,1,1)])
  exact jn (decide (p0.kind=10)) hF (sR [(1,1,1)])
 refine jL hF (fun x3=>mkS [(1,.ptr 1 (1,1) 0),(3,.bool x1),(4,.bool x2),(5,.bool x3)] [(1,some ((1,1),.box [.int .i64 p0.kind,.str p0.user,.str p0.note,.int .i64 p0.title.space,.str p0.title.name,.int .i64 p0.to.space,.str p0.to.name,.str p0.text,.int .i64 p0.n,.sl (List.map Revision.cs p0.history)]))] 2) (fun k3 hF=>?_) fun x3 hF=>?_
 ·refine rg ?_
  refine kS 35 hF rfl (fun hF=>?_) fun hF=>?_
  ·exact jn (!decide (p0.kind=10)) hF (sR [(1,1,1)])
  iterate 3 refine Zh rfl (Za ?_)
  exact jn false hF (sR [(1,1,1)])
 refine jL hF (fun x4=>mkS [(1,.ptr 1 (1,1) 0),(3,.bool x1),(4,.bool x2),(5,.bool x3),(47,.bool x4)] [(1,some ((1,1),.box [.int .i64 p0.kind,.str p0.user,.str p0.note,.int .i64 p0.title.space,.str p0.title.name,.int .i64 p0.to.space,.str p0.to.name,.str p0.text,.int .i64 p0.n,.sl (List.map Revision.cs p0.history)]))] 2) (fun k4 hF=>?_) fun x4 hF=>?_
 ·refine rg ?_
  refine kS 43 hF rfl (fun hF=>?_) fun hF=>?_
  ·iterate 3 refine Zh rfl (Za ?_)
   exact jn true hF (sR [(1,1,1)])
  exact jn (decide (10<p0.kind)) hF (sR [(1,1,1)])
 refine cS hF rfl (fun hF=>?_) fun hF=>?_
 ·refine rg ?_
  cases hF
  exact rQ
 refine jL hF (fun x5=>mkS [(1,.ptr 1 (1,1) 0),(78,.bool x5)] [(1,some ((1,1),.box [.int .i64 p0.kind,.str p0.user,.str p0.note,.int .i64 p0.title.space,.str p0.title.name,.int .i64 p0.to.space,.str p0.to.name,.str p0.text,.int .i64 p0.n,.sl (List.map Revision.cs p0.history)]))] 2) (fun k5 hF=>?_) fun x5 hF=>?_
 ·refine rg ?_
  refine kS 50 hF rfl (fun hF=>?_) fun hF=>?_
  ·refine kS 54 hF rfl (fun hF=>?_) fun hF=>?_
   ·iterate 18 refine Zh rfl (Za ?_)
    exact jn true hF (sR [(1,1,1)])
   refine kS 60 hF rfl (fun hF=>?_) fun hF=>?_
   ·iterate 15 refine Zh rfl (Za ?_)
    exact jn true hF (sR [(1,1,1)])
   refine kS 63 hF rfl (fun hF=>?_) fun hF=>?_
   ·refine kS 69 hF rfl (fun hF=>?_) fun hF=>?_
    ·iterate 8 refine Zh rfl (Za ?_)
     exact jn true hF (sR [(1,1,1)])
    refine kS 72 hF rfl (fun hF=>?_) fun hF=>?_
    ·refine Zeu (.inr rfl) rfl rfl rfl rfl rfl (fun W=>Zem p0.title (⟨0,(⟨#[]⟩:ByteArray)⟩:Title) W) (Za ?_)
     exact jn (!decide (p0.title=(⟨0,(⟨#[]⟩:ByteArray)⟩:Title))) hF (sR [(1,1,1)])
    iterate 4 refine Zh rfl (Za ?_)
    exact jn false hF (sR [(1,1,1)])
   iterate 3 refine Zh rfl (Za ?_)
   refine kS 72 hF rfl (fun hF=>?_) fun hF=>?_
   ·refine Zeu (.inr rfl) rfl rfl rfl rfl rfl (fun W=>Zem p0.title (⟨0,(⟨#[]⟩:ByteArray)⟩:Title) W) (Za ?_)
    exact jn (!decide (p0.title=(⟨0,(⟨#[]⟩:ByteArray)⟩:Title))) hF (sR [(1,1,1)])
   iterate 4 refine Zh rfl (Za ?_)
   exact jn false hF (sR [(1,1,1)])
  iterate 8 refine Zh rfl (Za ?_)
  refine kS 63 hF rfl (fun hF=>?_) fun hF=>?_
  ·refine kS 69 hF rfl (fun hF=>?_) fun hF=>?_
   ·iterate 8 refine Zh rfl (Za ?_)
    exact jn true hF (sR [(1,1,1)])
   refine kS 72 hF rfl (fun hF=>?_) fun hF=>?_
   ·refine Zeu (.inr rfl) rfl rfl rfl rfl rfl (fun W=>Zem p0.title (⟨0,(⟨#[]⟩:ByteArray)⟩:Title) W) (Za ?_)
    exact jn (!decide (p0.title=(⟨0,(⟨#[]⟩:ByteArray)⟩:Title))) hF (sR [(1,1,1)])
   iterate 4 refine Zh rfl (Za ?_)
   exact jn false hF (sR [(1,1,1)])
  iterate 3 refine Zh rfl (Za ?_)
  refine kS 72 hF rfl (fun hF=>?_) fun hF=>?_
  ·refine Zeu (.inr rfl) rfl rfl rfl rfl rfl (fun W=>Zem p0.title (⟨0,(⟨#[]⟩:ByteArray)⟩:Title) W) (Za ?_)
   exact jn (!decide (p0.title=(⟨0,(⟨#[]⟩:ByteArray)⟩:Title))) hF (sR [(1,1,1)])
  iterate 4 refine Zh rfl (Za ?_)
  exact jn false hF (sR [(1,1,1)])
 refine cS hF rfl (fun hF=>?_) fun hF=>?_
 ·refine rg ?_
  cases hF
  exact rQ
 refine jL hF (fun x6=>mkS [(1,.ptr 1 (1,1) 0),(86,.bool x6)] [(1,some ((1,1),.box [.int .i64 p0.kind,.str p0.user,.str p0.note,.int .i64 p0.title.space,.str p0.title.name,.int .i64 p0.to.space,.str p0.to.name,.str p0.text,.int .i64 p0.n,.sl (List.map Revision.cs p0.history)]))] 2) (fun k6 hF=>?_) fun x6 hF=>?_
 ·refine rg ?_
  refine kS 82 hF rfl (fun hF=>?_) fun hF=>?_
  ·exact jn (!decide (p0.user=(⟨#[]⟩:ByteArray))) hF (sR [(1,1,1)])
  iterate 3 refine Zh rfl (Za ?_)
  exact jn false hF (sR [(1,1,1)])
 refine cS hF rfl (fun hF=>?_) fun hF=>?_
 ·refine rg ?_
  cases hF
  exact rQ
 refine jL hF (fun x7=>mkS [(2,.bool x7)] [] 2) (fun k7 hF=>?_) fun x7 hF=>?_
 ·refine rg ?_
  refine kS 90 hF rfl (fun hF=>?_) fun hF=>?_
  ·iterate 4 refine Zh rfl (Za ?_)
   refine kS 100 hF rfl (fun hF=>?_) fun hF=>?_
   ·iterate 4 refine Zh rfl (Za ?_)
    exact jn true hF (sR [])
   refine Zr rfl (M:=p0.history) (f:=Revision.cs) rfl (Za ?_)
   exact jn (decide ((p0.history.length:Int)=0)) hF (sR [])
  refine Zeu (.inl rfl) rfl rfl rfl rfl rfl (fun W=>Zc9 p0.to (⟨0,(⟨#[]⟩:ByteArray)⟩:Title) W) (Za ?_)
  refine kS 96 hF rfl (fun hF=>?_) fun hF=>?_
  ·refine kS 100 hF rfl (fun hF=>?_) fun hF=>?_
   ·iterate 4 refine Zh rfl (Za ?_)
    exact jn true hF (sR [])
   refine Zr rfl (M:=p0.history) (f:=Revision.cs) rfl (Za ?_)
   exact jn (decide ((p0.history.length:Int)=0)) hF (sR [])
  iterate 9 refine Zh rfl (Za ?_)
  exact jn false hF (sR [])
 cases hF
 exact rQ
end Go.Proofs.YtjoneoobolnnbaaGreatDoor
