/- The functions whose walks the session writes by hand, gathered for the printed texts. -/
import Derived.Test.YtkcpifmdjnfgaaaTraceRight
import Derived.Test.YtkcpifmdjnfgaaaTraceMost
import Derived.Test.YtkcpifmdjnfgaaaTraceBefore
import Derived.Test.YtkcpifmdjnfgaaaTraceEnds
